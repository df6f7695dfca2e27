import Derived.Orders
import Derived.Below
import Derived.Laws.AppendOwn
import Derived.Laws.Cells
import Derived.Laws.Entries
import Derived.Laws.ResultCell
import Derived.Laws.BytesArg
import Derived.Laws.Append
import Derived.IntWalk
open Array renaming append_assoc→asg,foldl_toList→arN,getD_eq_getD_getElem?→kU,getElem?_append_left→ar1,getElem?_append_right→asB,getElem?_eq_getElem→cd,getElem?_eq_none→arn,getElem?_eq_some_iff→dO,getElem?_map→arO,getElem?_modify→arl,getElem?_setIfInBounds_ne→DY,getElem?_toList→dQ,isEmpty_iff_size_eq_zero→asa,length_toList→gb,size_append→acH,size_map→ar3,toArray_toList→cE,toList_append→zp,toList_filter→arP,toList_push→asc,toList_zipIdx→asp
open Bool renaming and_eq_true→aL,and_true→aO,eq_iff_iff→gu,false_eq_true→bF,or_eq_false_iff→gR,or_self→bu
open Go.RowKit.Below renaming heap_alloc→ed
open List renaming all_cons→cH,all_eq_true→aZ,all_nil→dS,drop_eq_getElem_cons→dT,drop_eq_nil_of_le→dI,drop_zero→j1,ext_getElem?→dM,findIdx?_cons→ash,foldl_cons→ew,getD_eq_getElem?_getD→eN,getElem?_append→oV,getElem?_append_left→bA,getElem?_append_right→a8,getElem?_cons_succ→cp,getElem?_cons_zero→aJ,getElem?_drop→arM,getElem?_eq_getElem→aw,getElem?_eq_none→ec,getElem?_eq_some_iff→az,getElem?_map→ak,getElem?_replicate→arU,getElem?_set→bX,getElem?_set_ne→cP,getElem?_take→kz,getElem?_take_of_lt→jI,head?_eq_getElem?→asv,isEmpty_iff→arJ,length_append→ab,length_cons→af,length_drop→dw,length_eq_zero_iff→cj,length_map→au,length_nil→ai,length_take→cQ,map_cons→bT,map_nil→jo,mem_cons→cI,mem_cons_of_mem→ct,mem_cons_self→cA,mem_of_getElem?→aE,take_nil→z8,take_of_length_le→bR,take_zero→gQ
open Nat renaming add_assoc→mr,add_comm→Te,add_mul→jl,add_zero→jm,div_add_mod→ar4,div_lt_iff_lt_mul→ass,eq_zero_or_pos→ark,le_refl→aB,le_trans→fX,lt_irrefl→ans,lt_of_lt_of_le→rm,lt_or_ge→bz,lt_succ_self→oM,mod_lt→arA,mul_le_mul→ar2,mul_le_mul_right→lJ,mul_one→rN,pos_of_ne_zero→asf,sub_self→dR,succ_mul→nJ,zero_add→cr
open Option renaming getD_none→arI,getD_some→arj,map_eq_some_iff→bc,map_none→arG,map_some→cx
open Option.some renaming injEq→aF
open Prod.mk renaming injEq→dy
set_option linter.all false
section
namespace Go.Eng
class bB where
 n:Int
 κ:Int→Option Bool
 ok:∀ k b,κ k=some b→decide (k≤n)=b
 g:Option Nat
 vo:Nat→Option (List Value)
variable [bB]
structure Gl (F:Addr→Option Value):Prop where
 n:∀ g,bB.g=some g→F ⟨g,0,none⟩=some (.int .i64 bB.n)
 t:∀ g cs (j:Nat) x,bB.vo g=some cs→cs[j]?=some x→F ⟨g,j,none⟩=some x
theorem Gl.mono {F F':Addr→Option Value} (h:Gl F) (hF:∀ ad x,F ad=some x→F' ad=some x):Gl F':=⟨fun g hg=>hF _ _ (h.n g hg),fun g cs j x h1 h2=>hF _ _ (h.t g cs j x h1 h2)⟩
inductive V where
 | undef
 | sc (v:Value)
 | agg (cs:List V)
 | slice (rows:List V)
 | ms (b v s l:Nat)
 | ptr (b o:Nat)
 | iv (b v i o:Nat)
 | fq (cs:List V)
 | iU (f:Fn) (first cap:List V)
 | eg (vs:List V)
 | j9 (b:Nat)
 | mp (b:Nat)
 | gn
 | full (rows:List V)
 deriving Inhabited
def V.cells:V→List V
 | .agg cs=>cs
 | v=>[v]
structure Env where
 F:Addr→Option Value
 cC:Nat→Nat→Option (Nat×Nat×Nat)
 gl:Gl F
def Env.pure (E:Env):Env := { F:=E.F,cC:=fun _ _=>none,gl:=E.gl }
inductive cY:Env→V→Value→Prop
 | undef (E:Env) (x:Value):cY E .undef x
 | sc (E:Env) (v:Value):cY E (.sc v) v
 | agg (E:Env) (cs:List V) (xs:Array Value) (hl:cs.length=xs.size) (h:∀ (i:Nat) (c:V) (x:Value),cs[i]?=some c→xs[i]?=some x→cY E c x):cY E (.agg cs) (.agg xs)
 | slice (E:Env) (rows:List V) (a:Option Addr) (cap ux:Nat) (ad:Addr) (xf:Nat→Nat→Value) (ha:rows≠[]→a=some ad) (mh:rows.length≤cap)
   (hs:∀ (i:Nat) (row:V),rows[i]?=some row→row.cells.length=ux)
   (hF:∀ (i:Nat) (row:V) (j:Nat) (c:V),rows[i]?=some row→row.cells[j]?=some c→E.F (ad.add (i*ux+j))=some (xf i j))
   (h1:∀ (i:Nat) (row:V) (j:Nat) (c:V),rows[i]?=some row→row.cells[j]?=some c→(xf i j).oneCell'=true)
   (h:∀ (i:Nat) (row:V) (j:Nat) (c:V),rows[i]?=some row→row.cells[j]?=some c→cY E.pure c (xf i j)):cY E (.slice rows) (.slice a rows.length cap)
 | ms (E:Env) (b v s l g e c:Nat) (a:Option Addr) (cap:Nat) (hb:E.cC b v=some (g,e,c)) (hl:0<l→a=some ⟨g,s*e,none⟩) (h0:s=0→a=some ⟨g,0,none⟩∧cap=c) (hc:l≤cap∧s+cap=c∧(0<cap→a=some ⟨g,s*e,none⟩)) :
   cY E (.ms b v s l) (.slice a l cap)
 | ja (E:Env) (b v s:Nat):cY E (.ms b v s 0) (.slice none 0 0)
 | ptr (E:Env) (b o g e c:Nat) (hb:E.cC b 0=some (g,e,c)):cY E (.ptr b o) (.pointer (some ⟨g,o,none⟩))
 | iv (E:Env) (b v i o g e c:Nat) (hb:E.cC b v=some (g,e,c)):cY E (.iv b v i o) (.pointer (some ⟨g,i*e+o,none⟩))
 | fq (E:Env) (cs:List V) (ad:Addr) (xf:Nat→Value) (hF:∀ (j:Nat) (c:V),cs[j]?=some c→E.F (ad.add j)=some (xf j)) (h:∀ (j:Nat) (c:V),cs[j]?=some c→cY E.pure c (xf j)) :
   cY E (.fq cs) (.pointer (some ad))
 | iU (E:Env) (f:Fn) (first cap:List V) (xs ys:Array Value) (hx:first.length=xs.size) (hy:cap.length=ys.size)
   (h1:∀ (i:Nat) (c:V) (x:Value),first[i]?=some c→xs[i]?=some x→cY E c x) (h2:∀ (i:Nat) (c:V) (x:Value),cap[i]?=some c→ys[i]?=some x→cY E c x):cY E (.iU f first cap) (.func f xs ys)
 | j9 (E:Env) (b l e c:Nat) (hb:E.cC b 0=some (l,e,c)):cY E (.j9 b) (.func (.yield l) #[] #[])
 | mp (E:Env) (b l e c:Nat) (hb:E.cC b 0=some (l,e,c)):cY E (.mp b) (.map (some l))
 | gn (E:Env):cY E .gn (.int .i64 bB.n)
 | full (E:Env) (rows:List V) (a:Option Addr) (h:cY E (.slice rows) (.slice a rows.length rows.length)):cY E (.full rows) (.slice a rows.length rows.length)
 | eg (E:Env) (vs:List V) (xs:Array Value) (hl:vs.length=xs.size) (h:∀ (i:Nat) (c:V) (x:Value),vs[i]?=some c→xs[i]?=some x→cY E c x):cY E (.eg vs) (.tuple xs)
def cU (E:Env) (vs:List V) (xs:List Value):Prop:=vs.length=xs.length∧∀ (i:Nat) (v:V) (x:Value),vs[i]?=some v→xs[i]?=some x→cY E v x
theorem Env.Mo {a b:Env} (h1:a.F=b.F) (h2:a.cC=b.cC):a=b:=by cases a;cases b;dsimp only at h1 h2;subst h1;subst h2;rfl
structure Env.le (E E':Env):Prop where
 F:∀ ad x,E.F ad=some x→E'.F ad=some x
 cC:∀ b v t,E.cC b v=some t→E'.cC b v=some t
theorem Env.le_refl (E:Env):E.le E:=⟨fun _ _ h=>h,fun _ _ _ h=>h⟩
theorem Env.le_trans {a b c:Env} (h:a.le b) (k:b.le c):a.le c:=⟨fun ad x hx=>k.F _ _ (h.F _ _ hx),fun b v t hx=>k.cC _ _ _ (h.cC _ _ _ hx)⟩
theorem Env.lq {a b:Env} (h:a.le b):a.pure.le b.pure:=⟨h.F,fun _ _ _ h=>h⟩
theorem Env.s9 (a:Env):a.pure.le a:=⟨fun _ _ h=>h,fun _ _ _ h=>by simp [Env.pure] at h⟩
theorem cY.mono {E E':Env} {v:V} {x:Value} (h:cY E v x) (hle:E.le E'):cY E' v x:=by induction h generalizing E' with|undef=>exact .undef _ _|sc=>exact .sc _ _|agg E cs xs hl h ih=>exact .agg _ _ _ hl fun i c x hc hx=>ih i c x hc hx hle|slice E rows a cap ux ad xf ha mh hs hF h1 h ih=>exact .slice _ _ _ _ ux ad xf ha mh hs (fun i row j c hi hj=>hle.F _ _ (hF i row j c hi hj)) h1 fun i row j c hi hj=>ih i row j c hi hj (Env.lq hle)|ms E b v s l g e c a cap hb hl h0 hc=>exact .ms _ _ _ _ _ g e c _ _ (hle.cC _ _ _ hb) hl h0 hc|ja E b v s=>exact .ja _ _ _ _|ptr E b o g e c hb=>exact .ptr _ _ _ g e c (hle.cC _ _ _ hb)|iv E b v i o g e c hb=>exact .iv _ _ _ _ _ g e c (hle.cC _ _ _ hb)|fq E cs ad xf hF h ih=>exact .fq _ _ _ xf (fun j c hj=>hle.F _ _ (hF j c hj)) fun j c hj=>ih j c hj (Env.lq hle)|iU E f first cap xs ys hx hy h1 h2 XW XX=>exact .iU _ _ _ _ _ _ hx hy (fun i c x hc hx=>XW i c x hc hx hle) fun i c x hc hx=>XX i c x hc hx hle|j9 E b l e c hb=>exact .j9 _ _ l e c (hle.cC _ _ _ hb)|mp E b l e c hb=>exact .mp _ _ l e c (hle.cC _ _ _ hb)|gn E=>exact .gn _|full E rows a h ih=>exact .full _ _ _ (ih hle)|eg E vs xs hl h ih=>exact .eg _ _ _ hl fun i c x hc hx=>ih i c x hc hx hle
theorem cU.mono {E E':Env} {vs:List V} {xs:List Value} (h:cU E vs xs) (hle:E.le E'):cU E' vs xs :=
 ⟨h.1,fun i v x hv hx=>(h.2 i v x hv hx).mono hle⟩
theorem cU.nil (E:Env):cU E [] []:=⟨rfl,fun i v x h=>by simp at h⟩
theorem cU.cons {E:Env} {v:V} {x:Value} {vs:List V} {xs:List Value} (h:cY E v x) (hs:cU E vs xs):cU E (v :: vs) (x :: xs):=by refine⟨by simp [hs.1],fun i=>?_⟩;cases i with|zero=>intro v' x' hv hx;simp at hv hx;subst hv;subst hx;exact h|succ i=>intro v' x' hv hx;simp at hv hx;exact hs.2 i v' x' hv hx
theorem cU.of_cons {E:Env} {v:V} {vs:List V} {xs:List Value} (h:cU E (v :: vs) xs):∃ x ys,xs=x :: ys∧cY E v x∧cU E vs ys:=by cases xs with|nil=>have:=h.1;simp at this|cons x ys=>exact⟨x,ys,rfl,h.2 0 v x rfl rfl,by have:=h.1;simpa using this,fun i v' x' hv hx=>h.2 (i+1) v' x' (by simpa using hv) (by simpa using hx)⟩
theorem cU.of_nil {E:Env} {xs:List Value} (h:cU E [] xs):xs=[]:=by have:=h.1;simp at this;exact cj.1 this.symm
theorem cU.append {E:Env} {vs us:List V} {xs ys:List Value} (h:cU E vs xs) (k:cU E us ys):cU E (vs++us) (xs++ys):=by
 refine⟨by simp [h.1,k.1],fun i v x hv hx=>?_⟩;by_cases hi:i<vs.length;·rw [bA hi] at hv;rw [bA (h.1 ▸ hi)] at hx;exact h.2 i v x hv hx
 rw [a8 (by omega)] at hv;rw [a8 (by have:=h.1;omega),← h.1] at hx;exact k.2 _ v x hv hx
theorem cU.get {E:Env} {vs:List V} {xs:List Value} (h:cU E vs xs) {i:Nat} {v:V} (hv:vs[i]?=some v):∃ x,xs[i]?=some x∧cY E v x:=by
 have hi:i<xs.length:=by rw [← h.1];exact (az.1 hv).1
 exact⟨xs[i],aw hi,h.2 i v _ hv (aw hi)⟩
theorem cU.drop {E:Env} {vs:List V} {xs:List Value} (h:cU E vs xs) (n:Nat):cU E (vs.drop n) (xs.drop n) :=
 ⟨by simp [h.1],fun i v x hv hx=>h.2 (n+i) v x (by simpa using hv) (by simpa using hx)⟩
theorem cU.take {E:Env} {vs:List V} {xs:List Value} (h:cU E vs xs) (n:Nat):cU E (vs.take n) (xs.take n):=by
 refine⟨by simp [h.1],fun i v x hv hx=>?_⟩;have hi:i<n:=by by_cases hi:i<n;(·exact hi);rw [kz] at hv;simp [hi] at hv
 rw [jI hi] at hv hx;exact h.2 i v x hv hx
theorem cU.set {E:Env} {vs:List V} {xs:List Value} (h:cU E vs xs) (n:Nat) {v:V} {x:Value} (hv:cY E v x):cU E (vs.set n v) (xs.set n x):=by
 refine⟨by simp [h.1],fun i v' x' Ab Tf=>?_⟩;by_cases hi:n=i;·subst hi;rw [bX] at Ab Tf;simp only [if_true] at Ab Tf;split at Ab;(·split at Tf;(·simp at Ab Tf;subst Ab;subst Tf;exact hv);simp at Tf);simp at Ab
 rw [cP hi] at Ab Tf;exact h.2 i v' x' Ab Tf
theorem cY.cells {E:Env} {v:V} {x:Value} (h:cY E v x) (hu:v ≠ .undef) (hs:∀ y,v = .sc y→∀ cs,y ≠ .agg cs):cU E v.cells x.cells.toList:=by cases h with|undef=>exact absurd rfl hu|sc =>(have:x.cells = #[x]:=by have:=hs x rfl;cases x <;> simp [Value.cells] at this ⊢);simp only [V.cells,this];exact .cons (.sc _ _) (.nil _)|agg _ cs xs hl h=>exact⟨by simpa [V.cells,Value.cells] using hl,fun i c x hc hx=>h i c x hc (by simpa [Value.cells] using hx)⟩|slice _ rows a cap ux ad xf ha mh hz hF h1 h=>exact .cons (.slice _ _ _ _ ux ad xf ha mh hz hF h1 h) (.nil _)|ms _ b v s l g e c a cap hb hl h0 hc=>exact .cons (.ms _ _ _ _ _ g e c _ _ hb hl h0 hc) (.nil _)|ja _ b v s=>exact .cons (.ja _ _ _ _) (.nil _)|ptr _ b o g e c hb=>exact .cons (.ptr _ _ _ g e c hb) (.nil _)|iv _ b v i o g e c hb=>exact .cons (.iv _ _ _ _ _ g e c hb) (.nil _)|fq _ cs ad xf hF h=>exact .cons (.fq _ _ _ xf hF h) (.nil _)|iU _ f first cap xs ys hx hy h1 h2=>exact .cons (.iU _ _ _ _ _ _ hx hy h1 h2) (.nil _)|j9 _ b l e c hb=>exact .cons (.j9 _ _ l e c hb) (.nil _)|mp _ b l e c hb=>exact .cons (.mp _ _ l e c hb) (.nil _)|gn=>exact .cons (.gn _) (.nil _)|full _ rows a h=>exact .cons (.full _ _ _ h) (.nil _)|eg _ vs xs hl h=>exact .cons (.eg _ _ _ hl h) (.nil _)
end Go.Eng
end
section
namespace Go.Eng
variable [bB]
structure Ti where
 size:Nat
 agg:Bool
 zero:List Value
 bD:List (Nat×Nat):=[]
 elem:Option TypeId:=none
 bytes:Nat:=0
 deriving Inhabited
abbrev Table:=TypeId→Option Ti
def uy:List Value→Bool
 | [.string _]=>true
 | _=>false
structure TT (P:Program) (tt:Table):Prop where
 size:∀ t i,tt t=some i→∃ info,P.info? t=some info∧info.size=i.size∧info.bytes=i.bytes∧∃ z,info.zero=some z∧z.cells.toList=i.zero
 desc:∀ t i,tt t=some i→∃ d,P.underlying t=some d∧(i.agg=true↔((∃ fs,d = .struct fs)∨∃ n e,d = .array n e)) ∧
  (∀ e,i.elem=some e→d = .slice e) ∧
  (∀ (f off sz:Nat),i.bD[f]?=some (off,sz)→∃ fs fd inf,d = .struct fs∧fs.size=i.bD.length∧fs[f]?=some fd∧fd.offset=off∧P.info? fd.type=some inf∧inf.size=sz∧sz≠0)
 str:∀ t i,tt t=some i→uy i.zero=true→i.agg=false→P.underlying t=some .string
def dc {α:Type} (P:Program):Sem α→Option α
 | .pure a=>some a
 | .program k=>dc P (k P)
 | .mark _ k=>dc P k
 | _=>none
theorem gM {α:Type} {P:Program} (s:Sem α) {v:α} (h:dc P s=some v) (w:World):s.run P w = .ok v w:=by induction s with|pure a=>simp [dc] at h;subst h;rfl|program k ih=>exact ih P h|mark m k ih=>exact ih h|_=>simp [dc] at h
def ka:Value→V
 | .agg cs=>.agg (cs.toList.map V.sc)
 | .tuple vs=>.eg (vs.toList.map V.sc)
 | v=>.sc v
theorem mD (E:Env) (cs:Array Value) (i:Nat) (c:V) (x:Value) (hc:(cs.toList.map V.sc)[i]?=some c) (hx:cs[i]?=some x):cY E c x:=by simp only [ak,dQ,hx,cx,aF] at hc;subst hc;exact .sc _ _
theorem kW (E:Env) (v:Value):cY E (ka v) v:=by cases v with|agg cs=>exact .agg _ _ _ (by simp) (mD E cs)|tuple cs=>exact .eg _ _ _ (by simp) (mD E cs)|_=>exact .sc _ _
inductive bx where
 | hole
 | dead
 | box (cs:List V)
 | rows (v e:Nat) (rs:List V)
 | rP (v e:Nat) (rs:List V)
 | loop (s:LoopState) (nP:Option Code) (fr:List V) (params:Array Tmp) (assign body:Code)
 | map (dP:List (Value×Nat×V)) (clock:Nat)
 | jJ (m since:Nat) (seen:List Nat) (last:Nat)
 | nL (s:ByteArray) (pos:Nat)
 | n5 (T:TypeId) (kb v l:Nat)
 | oW (T:TypeId) (v:Nat) (O:List UInt8)
 | og
 deriving Inhabited
structure St where
 fr:List V
 mem:List bx
def St.eval (st:St):Operand→V
 | .tmp t=>st.fr.getD t .undef
 | .const v=>ka v
 | .global g=>if bB.g=some g then .fq [.gn] else match bB.vo g with|some cs=>.fq (cs.map V.sc)|none=>.undef
 | .func f=>.sc (.func (.func f) #[] #[])
def St.put (st:St) (dst:Option Tmp) (v:V):St :=
 match dst with
 | some d => { st with fr:=st.fr.set d v }
 | none=>st
def mE (E:Env) (e:Nat) (rs:List V) (at_:Nat→Option Value):Prop :=
 ∀ (i:Nat) (row:V),rs[i]?=some row→row.cells.length=e∧∀ (j:Nat) (c:V),row.cells[j]?=some c→∃ x,at_ (i*e+j)=some x∧x.oneCell'=true∧cY E c x
def gK (E:Env) (dP:List (Value×Nat×V)) (es:List MapEntry):Prop :=
 dP.length=es.length∧∀ (i:Nat) (k:Value×Nat×V) (e:MapEntry),dP[i]?=some k→es[i]?=some e→e.key=k.1∧e.born=k.2.1∧cY E k.2.2 e.val
theorem gK.mono {E E':Env} {dP:List (Value×Nat×V)} {es:List MapEntry} (h:gK E dP es) (hle:E.le E'):gK E' dP es :=
 ⟨h.1,fun i k e hk he=>let ⟨h1,h2,h3⟩:=h.2 i k e hk he;⟨h1,h2,h3.mono hle⟩⟩
def kL (E:Env) (w:World) (k:Nat):bx→Prop
 | .hole=>∀ v,E.cC k v=none
 | .dead=>True
 | .box cs=>∃ g T xs,E.cC k 0=some (g,0,0)∧w.heap[g]?=some (.cells xs T (0,0))∧cU E cs xs.toList∧∀ o,E.F ⟨g,o,none⟩=none
 | .rows v e rs=>(rs=[]∧E.cC k v=none)∨∃ g T xs c,E.cC k v=some (g,e,c)∧w.heap[g]?=some (.cells xs T (0,0))∧xs.size=c*e∧rs.length≤c∧mE E.pure e rs (fun o=>xs[o]?)∧∀ o,E.F ⟨g,o,none⟩=none
 | .rP v e rs=>(rs=[]∧E.cC k v=none)∨∃ g c,E.cC k v=some (g,e,c)∧rs.length≤c∧mE E.pure e rs (fun o=>E.F ⟨g,o,none⟩)
 | .loop s nP fr params assign body=>∃ l fn tmps db,E.cC k 0=some (l,0,0)∧w.heap[l]?=some (.loop { state:=s,pending:=nP,fn:=fn,tmps:=tmps,params:=params,assign:=assign,body:=body,defers:=db })∧cU E fr tmps.toList∧∀ o,E.F ⟨l,o,none⟩=none
 | .map dP clock=>∃ g es,E.cC k 0=some (g,0,0)∧w.heap[g]?=some (.map es clock)∧gK E dP es.toList∧∀ o,E.F ⟨g,o,none⟩=none
 | .jJ m since seen last=>∃ g gm e c,E.cC k 0=some (g,0,0)∧E.cC m 0=some (gm,e,c)∧w.heap[g]?=some (.mapIter (some gm) since seen.toArray last)∧∀ o,E.F ⟨g,o,none⟩=none
 | .nL s pos=>∃ g,E.cC k 0=some (g,0,0)∧w.heap[g]?=some (.stringIter s pos)∧∀ o,E.F ⟨g,o,none⟩=none
 | .n5 T kb v l=>∃ g T' p s,E.cC k 0=some (g,0,0)∧w.heap[g]?=some (.cells #[p,s] T' (0,0))∧((p = .pointer none∧T'=T)∨p = .pointer (some ⟨g,0,none⟩))∧cY E (.ms kb v 0 l) s∧∀ o,E.F ⟨g,o,none⟩=none
 | .oW T v O=>(O=[]∧E.cC k v=none)∨∃ g cur c,E.cC k v=some (g,1,c)∧w.heap[g]?=some (.cells cur T (0,0))∧cur.size=c∧(O.length≤c∧c≤maxLen)∧(∀ (j:Nat) (b:UInt8),O[j]?=some b→cur[j]?=some (Value.int .u8 (b.toNat:Int)))∧∀ o,E.F ⟨g,o,none⟩=none
 | .og=>∃ g,E.cC k 0=some (g,0,0)∧w.heap[g]?=some (.mapIter none 0 #[] 0)∧∀ o,E.F ⟨g,o,none⟩=none
def bx.dZ:bx→Nat
 | .rows v _ _=>v
 | .rP v _ _=>v
 | .oW _ v _=>v
 | _=>0
def bx.held:bx→Bool
 | .hole|.dead=>false
 | _=>true
structure de (E:Env) (w:World) (a:Act) (st:St):Prop where
 F:∀ ad x,E.F ad=some x→w.cell? ad=some x
 lt:∀ k v g e c,E.cC k v=some (g,e,c)→g<w.heap.size
 mem:∀ k B,st.mem[k]?=some B→kL E w k B
 top:∀ k,st.mem.length≤k→∀ v,E.cC k v=none
 dZ:∀ k B,st.mem[k]?=some B→∀ v,B.dZ<v→E.cC k v=none
 apart:∀ k k' v v' g e c e' c',E.cC k v=some (g,e,c)→E.cC k' v'=some (g,e',c')→k=k'
 fr:cU E st.fr a.tmps.toList
theorem de.eval {E:Env} {w:World} {a:Act} {st:St} (h:de E w a st) (x:Operand):cY E (st.eval x) (a.eval x):=by cases x with|tmp t =>(simp only [St.eval,Act.eval];cases hv:st.fr[t]? with|none=>rw [eN,hv];exact .undef _ _|some v =>obtain⟨x,hx,hr⟩:=h.fr.get hv;rw [eN,hv,kU];simp only [dQ] at hx;rw [hx];exact hr)|const v=>exact kW E v|global g =>(simp only [St.eval,Act.eval];split;(·rename_i hg;refine .fq _ _ _ (fun _=>.int .i64 bB.n) (fun j c hc=>?_) fun j c hc=>?_;(·match j with|0=>exact E.gl.n g hg|j+1=>simp at hc);match j with|0=>simp at hc;subst hc;exact .gn _|j+1=>simp at hc);split;(·rename_i cs mO;refine .fq _ _ _ (fun j=>(cs[j]?).getD undef) (fun j c hc=>?_) fun j c hc=>?_;(·simp only [ak,bc] at hc;obtain⟨x,hx,rfl⟩:=hc;(have h1:(Addr.mk g 0 none).add j=⟨g,j,none⟩:=by unfold Addr.add;by_cases hj:j=0 <;> simp [hj]);rw [h1,hx];exact E.gl.t g cs j x mO hx);simp only [ak,bc] at hc;obtain⟨x,hx,rfl⟩:=hc;rw [hx];exact .sc _ _);exact .undef _ _)|func f=>exact .sc _ _
structure ic (E:Env) (w:World) (E':Env) (w':World):Prop where
 le:E.le E'
 cC:∀ k v g e c,E'.cC k v=some (g,e,c)→(∃ k0 v0 e0 c0,E.cC k0 v0=some (g,e0,c0))∨w.heap.size≤g
 F:∀ ad x,E'.F ad=some x→E.F ad=some x∨w.heap.size≤ad.block∨∃ k0 v0 e0 c0,E.cC k0 v0=some (ad.block,e0,c0)
 os:w'.os=w.os
 tape:w'.tape=w.tape
 output:w'.output=w.output
 size:w.heap.size≤w'.heap.size
 heap:∀ b,b<w.heap.size→(∀ k v e c,E.cC k v≠some (b,e,c))→w'.heap[b]?=w.heap[b]?
theorem ic.refl (E:Env) (w:World):ic E w E w :=
 ⟨E.le_refl,fun k v g e c h=>.inl ⟨k,v,e,c,h⟩,fun _ _ h=>.inl h,rfl,rfl,rfl,aB _,fun _ _ _=>rfl⟩
theorem ic.trans {E E1 E2:Env} {w w1 w2:World} (h:ic E w E1 w1) (k:ic E1 w1 E2 w2):ic E w E2 w2:=by
 refine⟨Env.le_trans h.le k.le,?_,?_,k.os.trans h.os,k.tape.trans h.tape,k.output.trans h.output,fX h.size k.size,?_⟩;·intro q v g e c hq;(rcases k.cC q v g e c hq with ⟨k0,v0,e0,c0,h0⟩|h0);(·exact h.cC _ _ _ _ _ h0);exact .inr (fX h.size h0)
 ·intro ad x hx;(rcases k.F ad x hx with h0|h0|⟨k0,v0,e0,c0,h0⟩);(·exact h.F _ _ h0);(·exact .inr (.inl (fX h.size h0)));(rcases h.cC _ _ _ _ _ h0 with h1|h1);(·exact .inr (.inr h1));exact .inr (.inl h1)
 intro b hb dL;rw [k.heap b (rm hb h.size) ?_,h.heap b hb dL];intro q v e c hq;rcases h.cC _ _ _ _ _ hq with ⟨k0,v0,e0,c0,h0⟩|h0
 ·exact dL _ _ _ _ h0
 omega
theorem ic.drew (E:Env) (w:World):ic E w E w.drew :=
 ⟨E.le_refl,fun k v g e c h=>.inl ⟨k,v,e,c,h⟩,fun _ _ h=>.inl h,rfl,rfl,rfl,aB _,fun _ _ _=>rfl⟩
theorem de.drew {E:Env} {w:World} {a:Act} {st:St} (h:de E w a st):de E w.drew a st :=
 ⟨h.F,h.lt,fun k B hB=>by have:=h.mem k B hB;cases B <;> exact this,h.top,h.dZ,h.apart,h.fr⟩
theorem de.put {E:Env} {w:World} {a:Act} {st:St} (h:de E w a st) (dst:Option Tmp) {v:V} {x:Value} (hr:cY E v x):de E w (a.put dst x) (st.put dst v):=by cases dst with|none=>exact h|some d=>exact⟨h.F,h.lt,h.mem,h.top,h.dZ,h.apart,by simpa [St.put,Act.put] using h.fr.set d hr⟩
end Go.Eng
end
section
namespace Go.Eng
variable [bB]
def jN (tt:Table) (T:TypeId) (cs:List V):Option V :=
 match tt T with
 | some i=>if i.agg then (if i.size≤cs.length then some (.agg (cs.take i.size)) else none) else cs.head?
 | none=>none
def rowOf (mem:List bx) (b v i:Nat):Option V :=
 match mem[b]? with
 | some (.rows v' _ rs)=>if v'=v then rs[i]? else none
 | some (.rP v' _ rs)=>if v'=v then rs[i]? else none
 | _=>none
def pV (tt:Table) (mem:List bx) (T:TypeId):V→Option V
 | .ptr b o=>match mem[b]? with|some (.box cs)=>jN tt T (cs.drop o)|_=>none
 | .iv b v i o=>match rowOf mem b v i with|some row=>jN tt T (row.cells.drop o)|none=>none
 | .fq cs=>jN tt T cs
 | _=>none
def TI (tt:Table) (S:TypeId) (f:Nat):Option Nat:=match tt S with|some i=>(match i.bD[f]? with|some p=>some p.1|none=>none)|none=>none
def j2 (tt:Table) (T:TypeId):Option TypeId:=match tt T with|some i=>i.elem|none=>none
def oX (tt:Table) (T:TypeId):Option Nat:=match tt T with|some i=>some i.size|none=>none
def fieldAt (off:Nat):V→Option V
 | .ptr b o=>some (.ptr b (o+off))
 | .iv b v i o=>some (.iv b v i (o+off))
 | .fq cs=>some (.fq (cs.drop off))
 | _=>none
def D1 (tt:Table) (S:TypeId) (f:Nat) (x:V):Option V:=match TI tt S f with|some off=>fieldAt off x|none=>none
def mF (mem:List bx) (b v:Nat):Option Nat :=
 match mem[b]? with
 | some (.rows v' e _)=>if v'=v then some e else none
 | some (.rP v' e _)=>if v'=v then some e else none
 | _=>none
def indexAt (mem:List bx) (size:Nat) (n:Int):V→Option V
 | .slice rows=>if 0≤n then (match rows[n.toNat]? with|some row=>if row.cells.length=size then some (.fq row.cells) else none|none=>none) else none
 | .ms b v s l=>if 0≤n∧n<l∧mF mem b v=some size then some (.iv b v (s+n.toNat) 0) else none
 | _=>none
def oh (tt:Table) (mem:List bx) (T:TypeId) (x i:V):Option V :=
 match i with
 | .sc (.int _ n)=>match j2 tt T with
  | some e=>match oX tt e with
   | some size=>indexAt mem size n x
   | none=>none
  | none=>none
 | _=>none
theorem add_add (a:Addr) (m n:Nat):(a.add m).add n=a.add (m+n):=by unfold Addr.add;by_cases hm:m=0 <;> by_cases hn:n=0 <;> simp [hm,hn,mr]
theorem add_lit (b o n:Nat):(Addr.mk b o none).add n=⟨b,o+n,none⟩:=by unfold Addr.add;by_cases hn:n=0 <;> simp [hn]
theorem bp {P:Program} {t:TypeId} {d:TypeDesc} (h:P.underlying t=some d) (w:World):(underlying t).run P w = .ok d w:=by simp [underlying,h]
theorem fp {P:Program} {t:TypeId} {i:TypeInfo} (h:P.info? t=some i) (w:World):(typeInfo t).run P w = .ok i w:=by simp [typeInfo,h]
theorem gw {P:Program} {t:TypeId} {i:TypeInfo} (h:P.info? t=some i) (w:World):(sizeOf t).run P w = .ok i.size w:=by simp [sizeOf,fp h]
theorem TT.isAgg {P:Program} {tt:Table} (h:TT P tt) {t:TypeId} {i:Ti} (ht:tt t=some i) (w:World):(isAgg t).run P w = .ok i.agg w:=by obtain⟨d,hd,ha,-⟩:=h.desc t i ht;simp only [Go.isAgg,Sem.run_bind,bp hd,Result.andThen_ok];cases hi:i.agg with|true =>(rcases ha.1 hi with ⟨fs,rfl⟩|⟨n,e,rfl⟩ <;> rfl)|false =>(have:¬ ((∃ fs,d = .struct fs)∨∃ n e,d = .array n e):=fun hh=>by rw [ha.2 hh] at hi;cases hi);cases d <;> first|rfl|(exfalso;apply this;first|exact .inl ⟨_,rfl⟩|exact .inr ⟨_,_,rfl⟩)
theorem TT.sizeOf {P:Program} {tt:Table} (h:TT P tt) {t:TypeId} {i:Ti} (ht:tt t=some i) (w:World):(Go.sizeOf t).run P w = .ok i.size w:=by obtain⟨info,h1,h2,-⟩:=h.size t i ht;rw [gw h1,h2]
def oY (E:Env) (w:World) (ad:Addr) (cs:List V):Prop:=∀ (j:Nat) (c:V),cs[j]?=some c→∃ x,w.cell? (ad.add j)=some x∧cY E c x
theorem oY.drop {E:Env} {w:World} {ad:Addr} {cs:List V} (h:oY E w ad cs) (n:Nat):oY E w (ad.add n) (cs.drop n):=fun j c hc=>by rw [add_add];exact h _ _ (by simpa using hc)
theorem yZ {P:Program} {tt:Table} (ht:TT P tt) {E:Env} {w:World} {ad:Addr} {cs:List V} {T:TypeId} {v:V} (h:oY E w ad cs) (hp:jN tt T cs=some v) :
  ∃ x,(loadVar T ad).run P w = .ok x w∧cY E v x:=by unfold jN at hp;cases hi:tt T with|none=>rw [hi] at hp;simp at hp|some i =>rw [hi] at hp;simp only at hp;cases ha:i.agg with|false =>simp only [ha,bF,if_false] at hp;obtain⟨x,hx,hr⟩:=h 0 v (by simpa [asv] using hp);(have h0:ad.add 0=ad:=by simp [Addr.add]);rw [h0] at hx;refine⟨x,?_,hr⟩;simp [loadVar,ht.isAgg hi,ha,hx]|true =>simp only [ha,if_true] at hp;split at hp;(·rename_i hle;simp only [aF] at hp;subst hp;(have hx:∀ j,j<i.size→∃ x,w.cell? (ad.add j)=some x∧∀ c,cs[j]?=some c→cY E c x:=fun j hj=>by (have II:j<cs.length:=by omega);obtain⟨x,hx,hr⟩:=h j _ (aw II);exact⟨x,hx,fun c hc=>by rw [aw II] at hc;cases hc;exact hr⟩);let f:Nat→Value:=fun j=>(w.cell? (ad.add j)).getD default;(have hf:∀ j,j<i.size→w.cell? (ad.add j)=some (f j):=fun j hj=>by obtain⟨x,hx,-⟩:=hx j hj;simp [f,hx]);refine⟨.agg ((List.range i.size).map f).toArray,?_,?_⟩;(·simp only [loadVar,Sem.run_bind,ht.isAgg hi,Result.andThen_ok,ha,if_true,ht.sizeOf hi];rw [run_loadCells w ad i.size f hf];simp);refine .agg _ _ _ (by simp;omega) fun j c x hc hxx=>?_;(have hj:j<i.size:=by by_cases hj:j<i.size;(·exact hj);rw [kz] at hc;simp [hj] at hc);rw [jI hj] at hc;obtain⟨y,hy,hr⟩:=hx j hj;simp [hj] at hxx;rw [← hxx];(have:f j=y:=by simp [f,hy]);rw [this];exact hr c hc);simp at hp
theorem IW {E:Env} {w:World} (hF:∀ ad x,E.F ad=some x→w.cell? ad=some x) {cs:List V} {x:Value} (h:cY E (.fq cs) x):∃ ad,x = .pointer (some ad)∧oY E w ad cs:=by cases h with|fq _ _ ad xf hf hr=>exact⟨ad,rfl,fun j c hc=>⟨xf j,hF _ _ (hf j c hc),(hr j c hc).mono E.s9⟩⟩
theorem nQ {w:World} {g:Nat} {xs:Array Value} {T:TypeId} {fz:Nat×Nat} (h:w.heap[g]?=some (.cells xs T fz)) (o:Nat):w.cell? ⟨g,o,none⟩=xs[o]?:=by simp [World.cell?,h]
theorem Mp {E:Env} {w:World} {a:Act} {st:St} (hs:de E w a st) {b o:Nat} {cs:List V} (hm:st.mem[b]?=some (.box cs)) {x:Value} (h:cY E (.ptr b o) x) :
  ∃ ad,x = .pointer (some ad)∧oY E w ad (cs.drop o):=by cases h with|ptr _ _ _ g e c hb =>obtain⟨g',T,xs,gD,hh,hr,-⟩:=hs.mem b _ hm;rw [hb] at gD;cases gD;refine⟨_,rfl,fun j c hc=>?_⟩;rw [add_lit,nQ hh];obtain⟨y,hy,OI⟩:=hr.get (i:=o+j) (by simpa using hc);exact⟨y,by simpa using hy,OI⟩
theorem IX {E:Env} {w:World} {a:Act} {st:St} (hs:de E w a st) {b v i o:Nat} {row:V} (hm:rowOf st.mem b v i=some row) {x:Value} (h:cY E (.iv b v i o) x) :
  ∃ ad,x = .pointer (some ad)∧oY E w ad (row.cells.drop o):=by cases h with|iv _ _ _ _ _ g e c hb =>refine⟨_,rfl,fun j cc hc=>?_⟩;rw [add_lit];(have hc':row.cells[o+j]?=some cc:=by simpa using hc);unfold rowOf at hm;split at hm;(·rename_i v' e' rs hk;split at hm;(·rename_i hv;subst hv;(rcases hs.mem b _ hk with ⟨rfl,-⟩|⟨g',T,xs,c',gD,hh,-,-,hr,-⟩);(·simp at hm);rw [hb] at gD;cases gD;obtain⟨-,h2⟩:=hr i row hm;obtain⟨y,hy,-,OI⟩:=h2 _ _ hc';exact⟨y,by rw [nQ hh,mr];exact hy,OI.mono E.s9⟩);cases hm);(·rename_i v' e' rs hk;split at hm;(·rename_i hv;subst hv;(rcases hs.mem b _ hk with ⟨rfl,-⟩|⟨g',c',gD,-,hr⟩);(·simp at hm);rw [hb] at gD;cases gD;obtain⟨-,h2⟩:=hr i row hm;obtain⟨y,hy,-,OI⟩:=h2 _ _ hc';exact⟨y,hs.F _ _ (by rw [mr];exact hy),OI.mono E.s9⟩);cases hm);simp at hm
theorem yd {P:Program} {tt:Table} (ht:TT P tt) {E:Env} {w:World} {a:Act} {st:St} (hs:de E w a st) {T:TypeId} {p v:V} {x:Value} (hr:cY E p x) (h:pV tt st.mem T p=some v) :
  ∃ y,(Instr.loadAt T x).run P w = .ok y w∧cY E v y:=by
 have key:∃ ad cs,x = .pointer (some ad)∧oY E w ad cs∧jN tt T cs=some v:=by unfold pV at h;split at h;(·split at h;(·rename_i hm;obtain⟨ad,h1,h2⟩:=Mp hs hm hr;exact⟨ad,_,h1,h2,h⟩);simp at h);(·split at h;(·rename_i hm;obtain⟨ad,h1,h2⟩:=IX hs hm hr;exact⟨ad,_,h1,h2,h⟩);simp at h);(·obtain⟨ad,h1,h2⟩:=IW hs.F hr;exact⟨ad,_,h1,h2,h⟩);simp at h
 obtain⟨ad,cs,rfl,hc,hp⟩:=key;obtain⟨y,hy,OI⟩:=yZ ht hc hp;exact⟨y,by simp [Instr.loadAt,Instr.sureAddr,hy],OI⟩
theorem D2 {P:Program} {tt:Table} (ht:TT P tt) {E:Env} {S:TypeId} {f:Nat} {p v:V} {x:Value} (hr:cY E p x) (h:D1 tt S f p=some v) (w:World) :
  ∃ y,(Instr.fieldAt S x f).run P w = .ok y w∧cY E v y:=by unfold D1 TI at h;cases hi:tt S with|none=>rw [hi] at h;simp at h|some i =>rw [hi] at h;simp only at h;cases ho:i.bD[f]? with|none=>rw [ho] at h;simp at h|some off =>rw [ho] at h;simp only at h;obtain⟨d,hd,-,-,aib⟩:=ht.desc S i hi;obtain⟨fs,fd,inf,rfl,-,hf,ho1,pw,qC,rH⟩:=aib f off.1 off.2 ho;(have kO:inf.size≠0:=by omega);obtain⟨off,sz⟩:=off;dsimp only at ho1;subst ho1;(have run:∀ ad,(Instr.fieldAt S (.pointer (some ad)) f).run P w = .ok (.pointer (some (ad.add fd.offset))) w:=fun ad=>by simp [Instr.fieldAt,bp hd,hf,Instr.sureAddr,fieldPlace,gw pw,kO]);unfold Eng.fieldAt at h;split at h;(·simp only [aF] at h;subst h;cases hr with|ptr _ _ _ g e c hb=>exact⟨_,run _,by rw [add_lit];exact .ptr _ _ _ g e c hb⟩);(·simp only [aF] at h;subst h;cases hr with|iv _ _ _ _ _ g e c hb=>exact⟨_,run _,by rw [add_lit,mr];exact .iv _ _ _ _ _ g e c hb⟩);(·simp only [aF] at h;subst h;cases hr with|fq _ _ ad xf hf hr=>exact⟨_,run _,.fq _ _ _ (fun j=>xf (fd.offset+j)) (fun j c hc=>by rw [add_add];exact hf _ _ (by simpa using hc)) fun j c hc=>hr _ _ (by simpa using hc)⟩);simp at h
theorem F1 {E:Env} {w:World} {a:Act} {st:St} (hs:de E w a st) {b v size g e c:Nat} (h:mF st.mem b v=some size) (hb:E.cC b v=some (g,e,c)):e=size:=by
 unfold mF at h;split at h;·rename_i hk;split at h;(·rename_i hv;subst hv;(rcases hs.mem b _ hk with ⟨-,hn⟩|⟨g',T',xs,c',gD,-⟩);(·rw [hb] at hn;cases hn);rw [hb] at gD;cases gD;simpa using h);cases h
 ·rename_i hk;split at h;(·rename_i hv;subst hv;(rcases hs.mem b _ hk with ⟨-,hn⟩|⟨g',c',gD,-⟩);(·rw [hb] at hn;cases hn);rw [hb] at gD;cases gD;simpa using h);cases h
 simp at h
theorem D3 {P:Program} {tt:Table} (ht:TT P tt) {E:Env} {w:World} {a:Act} {st:St} (hs:de E w a st) {T:TypeId} {p i v:V} {x y:Value} (hp:cY E p x) (hi:cY E i y) (h:oh tt st.mem T p i=some v) :
  ∃ z,(Instr.indexAt T x y).run P w = .ok z w∧cY E v z:=by
 unfold oh at h;split at h;·rename_i k n;cases hi with|sc =>unfold j2 oX at h;cases hT:tt T with|none=>rw [hT] at h;simp at h|some iT =>rw [hT] at h;simp only at h;cases he:iT.elem with|none=>rw [he] at h;simp at h|some e =>rw [he] at h;simp only at h;cases hE:tt e with|none=>rw [hE] at h;simp at h|some ie =>rw [hE] at h;simp only at h;obtain⟨d,hd,-,ve,-⟩:=ht.desc T iT hT;obtain rfl:=ve e he;(have run:∀ (ad:Addr) (len cap:Nat),0≤n→n<len→(Instr.indexAt T (.slice (some ad) len cap) (.int k n)).run P w = .ok (.pointer (some (ad.add (n.toNat*ie.size)))) w:=fun ad len cap h0 h1=>by simp [Instr.indexAt,asIntOf,bp hd,ht.sizeOf hE,h0,h1]);unfold Eng.indexAt at h;split at h;(·rename_i rows;split at h;(·rename_i h0;split at h;(·rename_i row pA;split at h;(·rename_i hlen;simp only [aF] at h;subst h;cases hp with|slice _ _ aa cap ux ad xf ha mh hz hF h1 hR =>have bL:n.toNat<rows.length:=(az.1 pA).1;(have dL:rows≠[]:=by rintro rfl;simp at bL);obtain rfl:=ha dL;(have aic:ux=ie.size:=by rw [← hz _ _ pA,hlen]);subst aic;exact⟨_,run ad _ cap h0 (by omega),.fq _ _ _ (fun j=>xf n.toNat j) (fun j c hc=>by rw [add_add];exact hF _ _ _ _ pA hc) fun j c hc=>hR _ _ _ _ pA hc⟩);simp at h);simp at h);simp at h);(·rename_i b v s l;split at h;(·rename_i h0;obtain⟨h0,h1,h2⟩:=h0;simp only [aF] at h;subst h;cases hp with|ja=>simp at h1;omega|ms _ _ _ _ _ g e' c aa cap hb hl Tg hc =>obtain rfl:=hl (by omega);have hee:e'=ie.size:=F1 hs h2 hb;subst hee;refine⟨_,run _ _ cap h0 h1,?_⟩;have:=cY.iv E b v (s+n.toNat) 0 g ie.size c hb;rw [add_lit,← jl];simpa using this);simp at h);simp at h
 simp at h
end Go.Eng
end
section
namespace Go.Eng
variable [bB]
def Ac:List V→Option (List Value)
 | []=>some []
 | .sc v :: r=>match Ac r with|some l=>some (v :: l)|none=>none
 | _ :: _=>none
def fe:V→Option Value
 | .sc v=>some v
 | .agg cs=>match Ac cs with|some l=>some (.agg l.toArray)|none=>none
 | _=>none
theorem CV {E:Env}:∀ {vs:List V} {xs:List Value} {l:List Value},cU E vs xs→Ac vs=some l→xs=l
 | [],xs,l,h,hl=>by simp [Ac] at hl;subst hl;exact h.of_nil
 | v :: vs,xs,l,h,hl=>by
  obtain⟨x,ys,rfl,h1,h2⟩:=h.of_cons
  cases v with
  | sc v =>
   simp only [Ac] at hl
   split at hl
   ·rename_i l' hl'
    simp only [aF] at hl;subst hl
    cases h1
    rw [CV h2 hl']
   simp at hl
  | _=>simp [Ac] at hl
theorem kA {E:Env} {v:V} {x y:Value} (h:cY E v x) (hv:fe v=some y):x=y:=by cases v with|sc v=>cases h;simpa [fe] using hv|agg cs =>(simp only [fe] at hv;split at hv;(·rename_i l hl;simp only [aF] at hv;subst hv;cases h with|agg _ _ xs hlen hr =>have:=CV (E:=E) (xs:=xs.toList) ⟨by simpa using hlen,fun i c x hc hx=>hr i c x hc (by simpa using hx)⟩ hl;rw [← this]);simp at hv)|_=>simp [fe] at hv
def tW (P:Program) (f:Value→Sem Value) (x:V):Option V :=
 match fe x with
 | some a=>match dc P (f a) with|some v=>some (ka v)|none=>none
 | none=>none
def dJ (P:Program) (f:Value→Value→Sem Value) (x y:V):Option V :=
 match fe x with
 | some a=>match fe y with
  | some b=>match dc P (f a b) with|some v=>some (ka v)|none=>none
  | none=>none
 | none=>none
theorem rQ {P:Program} {f:Value→Sem Value} {E:Env} {w:World} {x v:V} {a:Value} (hx:cY E x a) (h:tW P f x=some v):∃ y,(f a).run P w = .ok y w∧cY E v y:=by
 unfold tW at h;split at h;·rename_i a' ha;cases kA hx ha;split at h;(·rename_i y hy;simp only [aF] at h;subst h;exact⟨y,gM _ hy w,kW E y⟩);simp at h
 simp at h
theorem mX {P:Program} {f:Value→Value→Sem Value} {E:Env} {w:World} {x y v:V} {a b:Value} (hx:cY E x a) (hy:cY E y b) (h:dJ P f x y=some v) :
  ∃ z,(f a b).run P w = .ok z w∧cY E v z:=by
 unfold dJ at h;split at h;·rename_i a' ha;cases kA hx ha;split at h;(·rename_i b' hb;cases kA hy hb;split at h;(·rename_i z hz;simp only [aF] at h;subst h;exact⟨z,gM _ hz w,kW E z⟩);simp at h);simp at h
 simp at h
def XY:V→Option V
 | .ptr b o=>some (.ptr b o)
 | .iv b v i o=>some (.iv b v i o)
 | .fq cs=>some (.fq cs)
 | .iU (.func f) a b=>some (.iU (.func f) a b)
 | .sc (.func (.func f) a b)=>some (.sc (.func (.func f) a b))
 | _=>none
def gg (rows:List V) (l size:Nat):Bool:=match rows[l]? with|some row=>row.cells.length==size|none=>true
def cutAt (mem:List bx) (size:Nat) (l:Int) (h:Option Int):V→Option V
 | .slice rows =>
  if 0≤l∧l≤h.getD rows.length∧h.getD rows.length≤rows.length∧gg rows l.toNat size=true then some (.slice ((rows.drop l.toNat).take (h.getD rows.length-l).toNat)) else none
 | .ms b v s n =>
  if 0≤l∧l≤h.getD n∧h.getD n≤n∧mF mem b v=some size then some (.ms b v (s+l.toNat) (h.getD n-l).toNat) else none
 | _=>none
def F2:V→Option Int
 | .sc (.int _ n)=>some n
 | _=>none
def D4 (P:Program) (tt:Table) (mem:List bx) (T:TypeId) (x:V) (lo hi:Option V):Option V :=
 match x with
 | .sc a=>match lo with
  | none=>match hi with
   | none=>tW P (fun a=>Instr.sliceAt T a none none none) (.sc a)
   | some h=>dJ P (fun a h=>Instr.sliceAt T a none (some h) none) (.sc a) h
  | some l=>match hi with
   | none=>dJ P (fun a l=>Instr.sliceAt T a (some l) none none) (.sc a) l
   | some h=>match fe h with
    | some h=>dJ P (fun a l=>Instr.sliceAt T a (some l) (some h) none) (.sc a) l
    | none=>none
 | x=>match j2 tt T with
  | none=>none
  | some e=>match oX tt e with
   | none=>none
   | some size=>match lo with
    | none=>match hi with
     | none=>cutAt mem size 0 none x
     | some h=>match F2 h with|some h=>cutAt mem size 0 (some h) x|none=>none
    | some l=>match F2 l with
     | none=>none
     | some l=>match hi with
      | none=>cutAt mem size l none x
      | some h=>match F2 h with|some h=>cutAt mem size l (some h) x|none=>none
theorem rR {E:Env} {v:V} {x:Value} {n:Int} (h:cY E v x) (hv:F2 v=some n):∃ k,x = .int k n:=by
 unfold F2 at hv;split at hv;·cases h;simp at hv;subst hv;exact⟨_,rfl⟩
 simp at hv
theorem oZ {E:Env} {w:World} {a:Act} {st:St} (hs:de E w a st) {size:Nat} {l:Int} {h:Option Int} {x v:V} {y:Value} (hx:cY E x y) (hc:cutAt st.mem size l h x=some v) :
  ∃ aa len cap,y = .slice aa len cap∧0≤l∧l≤h.getD len∧h.getD len≤len∧len≤cap ∧
   cY E v (.slice (if cap=l.toNat then aa else aa.map (·.add (l.toNat*size))) (h.getD len-l).toNat (cap-l.toNat)):=by
 unfold cutAt at hc;split at hc
 ·rename_i rows;split at hc
  ·rename_i hh;obtain⟨h0,h1,h2,h3⟩:=hh;simp only [aF] at hc;subst hc
   cases hx with
   | slice _ _ aa cap ux ad xf ha mh hz hF qD hR =>
    refine⟨aa,rows.length,cap,rfl,h0,h1,h2,mh,?_⟩
    have hlen:((rows.drop l.toNat).take (h.getD rows.length-l).toNat).length=(h.getD rows.length-l).toNat:=by simp;omega
    have hg:∀ (i:Nat) (row:V),((rows.drop l.toNat).take (h.getD rows.length-l).toNat)[i]?=some row→rows[l.toNat+i]?=some row:=fun i row hi=>by
     rw [kz] at hi
     split at hi
     ·simpa using hi
     simp at hi
    suffices F3:cY E (.slice ((rows.drop l.toNat).take (h.getD rows.length-l).toNat)) (.slice (if cap=l.toNat then aa else aa.map (·.add (l.toNat*size))) ((rows.drop l.toNat).take (h.getD rows.length-l).toNat).length (cap-l.toNat)) by
     rw [hlen] at F3;exact F3
    refine .slice _ _ _ (cap-l.toNat) ux (ad.add (l.toNat*ux)) (fun i j=>xf (l.toNat+i) j) (fun dL=>?_) (by rw [hlen];omega) (fun i row hi=>hz _ _ (hg i row hi))
     (fun i row j c hi hj=>by rw [add_add,← mr,← jl];exact hF _ _ _ _ (hg i row hi) hj) (fun i row j c hi hj=>qD _ _ _ _ (hg i row hi) hj) fun i row j c hi hj=>hR _ _ _ _ (hg i row hi) hj
    have bL:l.toNat<rows.length:=by
     rcases bz l.toNat rows.length with bL|gq
     ·exact bL
     exact absurd (by rw [dI gq];simp) dL
    have D5:rows≠[]:=by rintro rfl;simp at bL
    rw [if_neg (by omega),ha D5]
    unfold gg at h3
    rw [aw bL] at h3
    simp only [beq_iff_eq] at h3
    rw [← h3,hz _ _ (aw bL)]
    rfl
  simp at hc
 ·rename_i b v s n;split at hc;(·rename_i hh;obtain⟨h0,h1,h2,h3⟩:=hh;simp only [aF] at hc;subst hc;cases hx with|ja =>refine⟨none,0,0,rfl,h0,h1,h2,aB _,?_⟩;(have e1:l.toNat=0:=by have:((0:Nat):Int)=0:=rfl;omega);(have e2:(h.getD (0:Nat)-l).toNat=0:=by have:((0:Nat):Int)=0:=rfl;omega);rw [e1,e2];exact .ja _ _ _ _|ms _ _ _ _ _ g e c aa cap hb hl Tg vf =>obtain rfl:=F1 hs h3 hb;refine⟨aa,n,cap,rfl,h0,h1,h2,vf.1,?_⟩;refine .ms _ _ _ _ _ g e c _ _ hb (fun hp=>?_) (fun hz=>?_) ⟨by omega,by omega,fun hp=>by rw [if_neg (by omega),vf.2.2 (by omega)];simp only [cx,add_lit,← jl]⟩;(·rw [if_neg (by omega),hl (by omega)];simp only [cx,add_lit,← jl]);obtain⟨h5,h6⟩:=Tg (by omega);(have:l.toNat=0:=by omega);rw [this,h5];refine⟨?_,by omega⟩;split;(·rfl);simp [Addr.add]);simp at hc
 simp at hc
theorem o0 {P:Program} {tt:Table} (ht:TT P tt) {T e:TypeId} {size:Nat} (he:j2 tt T=some e) (hz:oX tt e=some size) (w:World) (aa:Option Addr) (len cap:Nat) (lo hi:Option Value)
  (l:Int) (h:Option Int) (ru:(lo=none∧l=0)∨∃ k,lo=some (.int k l)) (uz:(hi=none∧h=none)∨∃ k n,hi=some (.int k n)∧h=some n)
  (h0:0≤l) (h1:l≤h.getD len) (h2:h.getD len≤len) (h3:len≤cap) :
  (Instr.sliceAt T (.slice aa len cap) lo hi none).run P w = .ok (.slice (if cap=l.toNat then aa else aa.map (·.add (l.toNat*size))) (h.getD len-l).toNat (cap-l.toNat)) w:=by unfold j2 at he;unfold oX at hz;cases hT:tt T with|none=>rw [hT] at he;simp at he|some iT =>rw [hT] at he;simp only at he;cases hE:tt e with|none=>rw [hE] at hz;simp at hz|some ie =>rw [hE] at hz;simp only [aF] at hz;subst hz;obtain⟨d,hd,-,ve,-⟩:=ht.desc T iT hT;obtain rfl:=ve e he;(have anx:∀ m:Int,(m-l).toNat=m.toNat-l.toNat:=fun m=>by omega);(rcases ru with ⟨rfl,rfl⟩|⟨k,rfl⟩ <;> rcases uz with ⟨rfl,rfl⟩|⟨k',n,rfl,rfl⟩ <;> simp only [arj,arI] at h1 h2 ⊢ <;> simp only [Instr.sliceAt,Instr.slice,Sem.run_bind,bp hd,Result.andThen_ok,Instr.sliceBounds,Instr.sliceBound,asIntOf,Sem.run_pure,ht.sizeOf hE,Option.isSome_none]);(·simp);(·rw [if_pos ⟨by omega,by omega⟩];simp);(·rw [if_pos ⟨by omega,by omega⟩];simp;omega);rw [if_pos ⟨by omega,by omega⟩];simp only [Sem.run_pure,Result.andThen_ok];rw [if_pos ⟨by omega,by omega⟩];simp;omega
end Go.Eng
end
section
namespace Go.Eng
variable [bB]
def gX (kind:TypeDesc) (k:Value):List (Value×Nat×V)→Nat→Option (Option (Nat×V))
 | [],_=>some none
 | e :: r,i=>match Instr.sameNow kind k e.1 with
  | some true=>some (some (i,e.2.2))
  | some false=>gX kind k r (i+1)
  | none=>none
def rS (P:Program) (T:TypeId) (k:Value):List (Value×Nat×V)→Nat→Option (Option (Nat×V))
 | [],_=>some none
 | e :: r,i=>match dc P (Op.equal T k e.1) with
  | some true=>some (some (i,e.2.2))
  | some false=>rS P T k r (i+1)
  | none=>none
def pW (P:Program) (T:TypeId) (k:Value) (dP:List (Value×Nat×V)):Option (Option (Nat×V)) :=
 match P.underlying T with
 | some d=>match gX d k dP 0 with
  | some r=>some r
  | none=>rS P T k dP 0
 | none=>none
def Found (E:Env) (dP:List (Value×Nat×V)) (es:List MapEntry):Option (Nat×V)→Option (Nat×Value)→Prop
 | none,none=>True
 | some (i,v),some (j,x)=>i=j∧cY E v x∧∃ kb e,dP[i]?=some kb∧es[i]?=some e∧kb.2.2=v∧e.val=x
 | _,_=>False
theorem gK.get {E:Env} {dP:List (Value×Nat×V)} {es:List MapEntry} (h:gK E dP es) {i:Nat} {kb:Value×Nat×V} (hk:dP[i]?=some kb):∃ e,es[i]?=some e∧e.key=kb.1∧e.born=kb.2.1∧cY E kb.2.2 e.val:=by
 have hi:i<es.length:=by rw [← h.1];exact (az.1 hk).1
 exact⟨es[i],aw hi,h.2 i kb _ hk (aw hi)⟩
theorem gK.drop {E:Env} {dP:List (Value×Nat×V)} {es:List MapEntry} (h:gK E dP es) (n:Nat):gK E (dP.drop n) (es.drop n) :=
 ⟨by simp [h.1],fun i k e hk he=>h.2 (n+i) k e (by simpa using hk) (by simpa using he)⟩
theorem gK.of_nil {E:Env} {es:List MapEntry} (h:gK E [] es):es=[]:=by have:=h.1;simp at this;exact cj.1 this.symm
theorem gK.of_cons {E:Env} {k:Value×Nat×V} {r:List (Value×Nat×V)} {es:List MapEntry} (h:gK E (k :: r) es):∃ e es',es=e :: es'∧e.key=k.1∧e.born=k.2.1∧cY E k.2.2 e.val∧gK E r es':=by cases es with|nil=>have:=h.1;simp at this|cons e es' =>obtain⟨h1,h2,h3⟩:=h.2 0 k e rfl rfl;exact⟨e,es',rfl,h1,h2,h3,by have:=h.1;simpa using this,fun i k' e' hk he=>h.2 (i+1) k' e' (by simpa using hk) (by simpa using he)⟩
theorem Ad {E:Env} {kind:TypeDesc} {k:Value} {dP:List (Value×Nat×V)} {es:List MapEntry} (h:gK E dP es):∀ (n:Nat) {r:Option (Nat×V)},gX kind k (dP.drop n) n=some r →
  ∃ r',Instr.findNow kind k (es.drop n) n=some r'∧Found E dP es r r':=by intro n;generalize hl:dP.length-n=m;induction m generalizing n with|zero =>intro r hr;have h1:dP.drop n=[]:=dI (by omega);have h2:es.drop n=[]:=dI (by have:=h.1;omega);rw [h1] at hr;rw [h2];simp only [gX,aF] at hr;subst hr;exact⟨none,rfl,trivial⟩|succ m ih =>intro r hr;(have hn:n<dP.length:=by omega);(have VX:n<es.length:=by have:=h.1;omega);rw [dT hn] at hr;rw [dT VX];have hk:=aw hn;have he:=aw VX;obtain⟨h1,h2,h3⟩:=h.2 n _ _ hk he;simp only [gX] at hr;simp only [Instr.findNow,h1];split at hr;(·rename_i hs;rw [hs];simp only [aF] at hr;subst hr;exact⟨_,rfl,rfl,h3,_,_,hk,he,rfl,rfl⟩);(·rename_i hs;rw [hs];exact ih (n+1) (by omega) hr);cases hr
theorem Cp {E:Env} {kind:TypeDesc} {k:Value} {dP:List (Value×Nat×V)} {es:List MapEntry} (h:gK E dP es):∀ (n:Nat),gX kind k (dP.drop n) n=none→Instr.findNow kind k (es.drop n) n=none:=by intro n;generalize hl:dP.length-n=m;induction m generalizing n with|zero =>intro hr;have h1:dP.drop n=[]:=dI (by omega);rw [h1] at hr;simp [gX] at hr|succ m ih =>intro hr;(have hn:n<dP.length:=by omega);(have VX:n<es.length:=by have:=h.1;omega);rw [dT hn] at hr;rw [dT VX];obtain⟨h1,h2,h3⟩:=h.2 n _ _ (aw hn) (aw VX);simp only [gX] at hr;simp only [Instr.findNow,h1];split at hr;(·cases hr);(·rename_i hs;rw [hs];exact ih (n+1) (by omega) hr);rename_i hs;rw [hs]
theorem Ae {P:Program} {E:Env} {T:TypeId} {k:Value} {dP:List (Value×Nat×V)} {es:List MapEntry} (h:gK E dP es) (w:World):∀ (n:Nat) {r:Option (Nat×V)},rS P T k (dP.drop n) n=some r →
  ∃ r',(Instr.findAsking T k (es.drop n) n).run P w = .ok r' w∧Found E dP es r r':=by intro n;generalize hl:dP.length-n=m;induction m generalizing n with|zero =>intro r hr;have h1:dP.drop n=[]:=dI (by omega);have h2:es.drop n=[]:=dI (by have:=h.1;omega);rw [h1] at hr;rw [h2];simp only [rS,aF] at hr;subst hr;exact⟨none,rfl,trivial⟩|succ m ih =>intro r hr;(have hn:n<dP.length:=by omega);(have VX:n<es.length:=by have:=h.1;omega);rw [dT hn] at hr;rw [dT VX];have hk:=aw hn;have he:=aw VX;obtain⟨h1,h2,h3⟩:=h.2 n _ _ hk he;simp only [rS] at hr;simp only [Instr.findAsking,h1,Sem.run_bind];split at hr;(·rename_i hs;rw [gM _ hs w];simp only [aF] at hr;subst hr;exact⟨_,rfl,rfl,h3,_,_,hk,he,rfl,rfl⟩);(·rename_i hs;rw [gM _ hs w];simpa using ih (n+1) (by omega) hr);cases hr
theorem iC {P:Program} {E:Env} {T:TypeId} {k:Value} {dP:List (Value×Nat×V)} {es:Array MapEntry} (h:gK E dP es.toList) (w:World) {r:Option (Nat×V)} (hr:pW P T k dP=some r) :
  ∃ r',(Instr.findKey T k es.toList).run P w = .ok r' w∧Found E dP es.toList r r':=by
 unfold pW at hr;split at hr;·rename_i d hd;simp only [Instr.findKey,Sem.run_bind,bp hd,Result.andThen_ok];split at hr;(·rename_i r1 h1;simp only [aF] at hr;subst hr;obtain⟨r',h2,h3⟩:=Ad h 0 (r:=r1) (by simpa using h1);simp only [j1] at h2;rw [h2];exact⟨r',rfl,h3⟩);rename_i h1;have h2:=Cp h 0 (by simpa using h1);simp only [j1] at h2;rw [h2];simpa using Ae h w 0 (r:=r) (by simpa using hr)
 cases hr
def tY (P:Program) (T:TypeId) (k:Value):Bool :=
 match P.underlying T with
 | some (.int _)=>true
 | some .string=>true
 | some .bool=>true
 | _=>match dc P (Instr.checkKey false 10000 T k),dc P (Instr.checkKey true 10000 T k) with
  | some _,some _=>true
  | _,_=>false
theorem o1 {P:Program} {T:TypeId} {k:Value} (h:tY P T k=true) (b:Bool) (w:World):(Instr.checkKey b 10000 T k).run P w = .ok () w:=by
 unfold tY at h;have XZ:∀ d,P.underlying T=some d→(∀ m,d ≠ .interface m)→(∀ n e,d ≠ .array n e)→(∀ fs,d ≠ .struct fs)→(Instr.checkKey b 10000 T k).run P w = .ok () w:=by intro d hd h1 h2 h3;show (Instr.checkKey b (9999+1) T k).run P w=_;rw [Instr.checkKey];simp only [Sem.run_bind,bp hd,Result.andThen_ok];cases d <;> first|(cases k <;> rfl)|exact absurd rfl (h1 _)|exact absurd rfl (h2 _ _)|exact absurd rfl (h3 _)
 split at h;·rename_i hd;exact XZ _ hd (by simp) (by simp) (by simp)
 ·rename_i hd;exact XZ _ hd (by simp) (by simp) (by simp)
 ·rename_i hd;exact XZ _ hd (by simp) (by simp) (by simp)
 split at h;·rename_i h1 h2;cases b;(·exact gM _ h1 w);exact gM _ h2 w
 cases h
def zeroV (P:Program) (T:TypeId):Option V :=
 match P.info? T with
 | some i=>match i.zero with|some z=>some (ka z)|none=>none
 | none=>none
theorem rT {P:Program} {T:TypeId} {v:V} (h:zeroV P T=some v) (E:Env) (w:World):∃ z,(zeroValue T).run P w = .ok z w∧cY E v z:=by
 unfold zeroV at h;split at h;·rename_i i hi;split at h;(·rename_i z hz;cases h;exact⟨z,by simp [zeroValue,fp hi,hz],kW E z⟩);cases h
 cases h
def jw (P:Program) (T:TypeId):Option (TypeId×TypeId):=match P.underlying T with|some (.map k e)=>some (k,e)|_=>none
theorem lz {P:Program} {T kt et:TypeId} (h:jw P T=some (kt,et)):P.underlying T=some (.map kt et):=by
 unfold jw at h;split at h;·rename_i hd;cases h;exact hd
 cases h
def VY (ok b:Bool) (v:V):V:=if ok=true then .eg [v,.sc (.bool b)] else v
theorem D6 {E:Env} {v:V} {x:Value} (h:cY E v x) (ok b:Bool):cY E (VY ok b v) (if ok=true then .tuple #[x,.bool b] else x):=by
 unfold VY;split;·refine .eg _ _ _ rfl fun i c y hc hy=>?_;match i with|0=>simp at hc hy;subst hc;subst hy;exact h|1=>simp at hc hy;subst hc;subst hy;exact .sc _ _|i+2=>simp at hc
 exact h
def pX (P:Program) (mem:List bx) (kt et:TypeId) (m:V) (key:Value) (ok:Bool):Option V :=
 match m with
 | .mp b=>match mem[b]? with
  | some (.map dP _)=>match pW P kt key dP with
   | some (some (_,v))=>some (VY ok true v)
   | some none=>match zeroV P et with|some z=>some (VY ok false z)|none=>none
   | none=>none
  | _=>none
 | .sc (.map none)=>match pW P kt key [] with
  | some none=>match zeroV P et with|some z=>some (VY ok false z)|none=>none
  | _=>none
 | _=>none
def kB (P:Program) (mem:List bx) (T:TypeId) (m i:V) (ok:Bool):Option V :=
 match jw P T with
 | some (kt,et)=>match fe i with
  | some key=>if tY P kt key=true then pX P mem kt et m key ok else none
  | none=>none
 | none=>none
theorem uA {E:Env} {b:Nat} {x:Value} (h:cY E (.mp b) x):∃ g e c,x = .map (some g)∧E.cC b 0=some (g,e,c):=by cases h with|mp _ _ l e c hb=>exact⟨l,e,c,rfl,hb⟩
theorem mP {E:Env} {w:World} {a:Act} {st:St} (hs:de E w a st) {b:Nat} {dP:List (Value×Nat×V)} {clock:Nat} (hm:st.mem[b]?=some (.map dP clock)) {g e c:Nat} (hb:E.cC b 0=some (g,e,c)) :
  ∃ es,w.heap[g]?=some (.map es clock)∧gK E dP es.toList∧(∀ o,E.F ⟨g,o,none⟩=none)∧(e,c)=(0,0):=by obtain⟨g',es,h1,h2,h3,h4⟩:=hs.mem b _ hm;rw [hb] at h1;cases h1;exact⟨es,h2,h3,h4,rfl⟩
theorem fN {P:Program} {w:World} {g:Nat} {es:Array MapEntry} {clock:Nat} (h:w.heap[g]?=some (.map es clock)):(getObj g).run P w = .ok (.map es clock) w:=by simp [getObj,Sem.run,h]
theorem jx {P:Program} {w:World} {g:Nat} {o o':Obj} (h:w.heap[g]?=some o) (hc:∀ a b c,o ≠ .cells a b c):(setObj g o').run P w = .ok () { w with heap:=w.heap.setIfInBounds g o' }:=by unfold setObj;rw [Sem.run,h];cases o <;> first|rfl|exact absurd rfl (hc _ _ _)
theorem ta {E:Env} {v y:Value} (h:cY E (.sc v) y):y=v:=by cases h;rfl
theorem Cq {P:Program} {E:Env} {w:World} {a:Act} {st:St} (hs:de E w a st) {T:TypeId} {m i v:V} {ok:Bool} {x y:Value} (hm:cY E m x) (hi:cY E i y) (h:kB P st.mem T m i ok=some v) :
  ∃ z,(Instr.lookup T x y ok).run P w = .ok z w∧cY E v z:=by
 unfold kB at h;split at h;·rename_i kt et hd;have hd:=lz hd;split at h;(·rename_i key ft;cases kA hi ft;split at h;(·rename_i gV;have Ol:=fun b=>o1 gV b w;unfold pX at h;split at h;(·rename_i b;obtain⟨g,e,c,rfl,hb⟩:=uA hm;split at h;(·rename_i dP clock hB;obtain⟨es,hh,hr,-⟩:=mP hs hB hb;split at h;(·rename_i j u hf;obtain⟨r',h1,h2⟩:=iC hr w hf;match r',h2 with|some (j',z),h2 =>cases h;exact⟨_,by simp [Instr.lookup,bp hd,fN hh,Ol,h1],D6 h2.2.1 ok true⟩);(·rename_i hf;obtain⟨r',h1,h2⟩:=iC hr w hf;match r',h2 with|none,h2 =>split at h;(·rename_i z hz;cases h;obtain⟨z',h3,h4⟩:=rT hz E w;exact⟨_,by simp [Instr.lookup,bp hd,fN hh,Ol,h1,h3],D6 h4 ok false⟩);cases h);cases h);cases h);(·obtain rfl:=ta hm;split at h;(·rename_i hf;obtain⟨r',h1,h2⟩:=iC (E:=E) (es := #[]) ⟨rfl,fun i k e h=>by simp at h⟩ w hf;match r',h2 with|none,h2 =>split at h;(·rename_i z hz;cases h;obtain⟨z',h3,h4⟩:=rT hz E w;exact⟨_,by simp at h1;simp [Instr.lookup,bp hd,Ol,h1,h3],D6 h4 ok false⟩);cases h);cases h);cases h);cases h);cases h
 cases h
def xh (mem:List bx) (ts:Array TypeId) (P:Program):List V→Option V
 | [.mp b]=>match mem[b]? with
  | some (.map dP _)=>match ts[0]? with
   | some T=>match jw P T with|some _=>some (.sc (.int .i64 dP.length))|none=>none
   | none=>none
  | _=>none
 | _=>none
theorem IY {P:Program} {E:Env} {w:World} {a:Act} {st:St} (hs:de E w a st) {ts:Array TypeId} {ty:TypeId} {xs:List V} {v:V} {ys:Array Value} (hx:cU E xs ys.toList) (h:xh st.mem ts P xs=some v) :
  ∃ z,(Builtin.len_ ts ty ys).run P w = .ok z w∧cY E v z:=by
 unfold xh at h;split at h;·rename_i b;split at h;(·rename_i dP clock hB;split at h;(·rename_i T h0;split at h;(·rename_i p hp;cases h;obtain⟨kt,et⟩:=p;have hd:=lz hp;obtain⟨x,r,hy,h1,h2⟩:=hx.of_cons;have:=h2.of_nil;subst this;(obtain rfl:ys = #[x]:=by rw [← cE (xs:=ys),hy]);obtain⟨g,e,c,rfl,hb⟩:=uA h1;obtain⟨es,hh,hr,-⟩:=mP hs hB hb;refine⟨.int .i64 es.size,by simp [Builtin.len_,h0,bp hd,fN hh,goInt],?_⟩;(have:dP.length=es.size:=by simpa using hr.1);rw [this];exact .sc _ _);cases h);cases h);cases h
 cases h
def Mq (mem:List bx) (it:V):Option V :=
 match it with
 | .ptr b 0=>match mem[b]? with
  | some (.jJ m _ seen last)=>match mem[m]? with
   | some (.map dP clock)=>if clock=last then (match seen.getLast? with
    | some F4=>match dP.find? (fun e=>e.2.1==F4) with
     | some e=>some (.eg [ka e.1,e.2.2])
     | none=>none
    | none=>none) else none
   | _=>none
  | _=>none
 | _=>none
theorem gK.find {E:Env} (p:Nat→Bool):∀ {dP:List (Value×Nat×V)} {es:List MapEntry} {k:Value×Nat×V},gK E dP es→dP.find? (fun e=>p e.2.1)=some k→∃ e,es.find? (fun e=>p e.born)=some e∧e.key=k.1∧cY E k.2.2 e.val
 | [],es,k,h,hf=>by simp at hf
 | c :: r,es,k,h,hf=>by
  obtain⟨e,es',rfl,h1,h2,h3,h4⟩:=h.of_cons
  rw [List.find?_cons] at hf ⊢
  rw [h2]
  split at hf
  ·rename_i hp;cases hf;exact⟨e,rfl,h1,h3⟩
  exact gK.find p h4 hf
theorem IZ {P:Program} {E:Env} {w:World} {a:Act} {st:St} (hs:de E w a st) {it v:V} {x:Value} (hi:cY E it x) (h:Mq st.mem it=some v):∃ z,(Instr.entry x).run P w = .ok z w∧cY E v z:=by
 unfold Mq at h;split at h;·rename_i b;split at h;(·rename_i m since seen last hB;split at h;(·rename_i dP clock hM;split at h;(·rename_i o2;split at h;(·rename_i F4 oN;split at h;(·rename_i e he;cases h;obtain⟨g,gm,em,cm,hb,Th,hh,hf⟩:=hs.mem b _ hB;obtain⟨es,hhm,hr,hfm,h0⟩:=mP hs hM Th;cases hi with|ptr _ _ _ g' e' c' gD =>rw [hb] at gD;cases gD;(have kX:(getObj g).run P w = .ok (.mapIter (some gm) since seen.toArray last) w:=by simp [getObj,Sem.run,hh]);obtain⟨en,h1,h2,h3⟩:=gK.find (fun n=>n==F4) hr he;(have acL:seen.toArray.back?=some F4:=by simpa using oN);(have F5:es.find? (fun e=>e.born==F4)=some en:=by rw [← List.find?_toArray,cE] at h1;exact h1);refine⟨.tuple #[en.key,en.val],?_,?_⟩;(·subst o2;simp only [Instr.entry,Sem.run_bind,kX,Result.andThen_ok,acL,fN hhm,bne_self_eq_false,bF,if_false,F5];rfl);refine .eg _ _ _ rfl fun i c y hc hy=>?_;match i with|0=>simp at hc hy;subst hc;subst hy;rw [h2];exact kW E _|1=>simp at hc hy;subst hc;subst hy;exact h3|i+2=>simp at hc);cases h);cases h);cases h);cases h);cases h
 cases h
end Go.Eng
end
section
namespace Go.Eng
variable [bB]
theorem fu {E:Env} {v y:Value} (h:cY E (.sc v) y):y=v:=by cases h;rfl
theorem I0 {P:Program} {tt:Table} (ht:TT P tt) {E:Env} {w:World} {a:Act} {st:St} (hs:de E w a st) {T:TypeId} {x v:V} {lo hi:Option Operand} {y:Value} (hx:cY E x y)
  (h:D4 P tt st.mem T x (lo.map st.eval) (hi.map st.eval)=some v):∃ z,(Instr.sliceAt T y (lo.map a.eval) (hi.map a.eval) none).run P w = .ok z w∧cY E v z:=by
 unfold D4 at h;split at h;·cases lo with|none =>(cases hi with|none=>exact rQ hx h|some hi=>exact mX (f:=fun a h=>Instr.sliceAt T a none (some h) none) hx (hs.eval hi) h)|some lo =>cases hi with|none=>exact mX (f:=fun a l=>Instr.sliceAt T a (some l) none none) hx (hs.eval lo) h|some hi =>simp only [cx] at h ⊢;split at h;(·rename_i hv hhv;rw [kA (hs.eval hi) hhv];exact mX (f:=fun a l=>Instr.sliceAt T a (some l) (some hv) none) hx (hs.eval lo) h);simp at h
 split at h;·simp at h
 rename_i e he;split at h;·simp at h
 rename_i size hz;cases lo with|none =>(cases hi with|none =>obtain⟨aa,len,cap,rfl,h0,h1,h2,h3,hr⟩:=oZ hs hx h;exact⟨_,o0 ht he hz w aa len cap none none 0 none (.inl ⟨rfl,rfl⟩) (.inl ⟨rfl,rfl⟩) h0 h1 h2 h3,hr⟩|some hi =>simp only [cx,arG] at h ⊢;split at h;(·rename_i n hn;obtain⟨k,hk⟩:=rR (hs.eval hi) hn;obtain⟨aa,len,cap,rfl,h0,h1,h2,h3,hr⟩:=oZ hs hx h;exact⟨_,o0 ht he hz w aa len cap none _ 0 (some n) (.inl ⟨rfl,rfl⟩) (.inr ⟨k,n,by rw [hk],rfl⟩) h0 h1 h2 h3,hr⟩);simp at h)|some lo =>simp only [cx] at h ⊢;split at h;(·simp at h);rename_i l hl;obtain⟨k,hk⟩:=rR (hs.eval lo) hl;cases hi with|none =>simp only [arG] at h ⊢;obtain⟨aa,len,cap,rfl,h0,h1,h2,h3,hr⟩:=oZ hs hx h;exact⟨_,o0 ht he hz w aa len cap _ none l none (.inr ⟨k,by rw [hk]⟩) (.inl ⟨rfl,rfl⟩) h0 h1 h2 h3,hr⟩|some hi =>simp only [cx] at h ⊢;split at h;(·rename_i n hn;obtain⟨k',lY⟩:=rR (hs.eval hi) hn;obtain⟨aa,len,cap,rfl,h0,h1,h2,h3,hr⟩:=oZ hs hx h;exact⟨_,o0 ht he hz w aa len cap _ _ l (some n) (.inr ⟨k,by rw [hk]⟩) (.inr ⟨k',n,by rw [lY],rfl⟩) h0 h1 h2 h3,hr⟩);simp at h
def pB:List V→Option (List Value)
 | []=>some []
 | v :: r=>match fe v with
  | some x=>match pB r with|some l=>some (x :: l)|none=>none
  | none=>none
theorem qE {E:Env}:∀ {vs:List V} {xs l:List Value},cU E vs xs→pB vs=some l→xs=l
 | [],xs,l,h,hl=>by simp [pB] at hl;subst hl;exact h.of_nil
 | v :: vs,xs,l,h,hl=>by
  obtain⟨x,ys,rfl,h1,h2⟩:=h.of_cons
  simp only [pB] at hl
  split at hl
  ·rename_i x' Tf
   split at hl
   ·rename_i l' hl'
    simp only [aF] at hl;subst hl
    rw [kA h1 Tf,qE h2 hl']
   simp at hl
  simp at hl
def iq (P:Program) (f:Array Value→Sem Value) (xs:List V):Option V :=
 match pB xs with
 | some l=>match dc P (f l.toArray) with|some v=>some (ka v)|none=>none
 | none=>none
theorem de.pY {E:Env} {w:World} {a:Act} {st:St} (hs:de E w a st) (xs:Array Operand):cU E (xs.toList.map st.eval) (xs.map a.eval).toList:=by refine⟨by simp,fun i v x hv hx=>?_⟩;simp only [ak,Array.toList_map,bc] at hv hx;obtain⟨o,ho,rfl⟩:=hv;obtain⟨o',VZ,rfl⟩:=hx;rw [ho] at VZ;cases VZ;exact hs.eval o
def D7 (P:Program) (tt:Table) (ts:Array TypeId) (ty:TypeId):List V→Option V
 | [.slice rows]=>match ts[0]? with
  | some t=>match j2 tt t with|some _=>some (.sc (.int .i64 rows.length))|none=>none
  | none=>none
 | [.ms _ _ _ l]=>match ts[0]? with
  | some t=>match j2 tt t with|some _=>some (.sc (.int .i64 l))|none=>none
  | none=>none
 | xs=>iq P (Builtin.len_ ts ty) xs
def al7 (tt:Table) (S:TypeId) (f:Nat) (T:TypeId) (x:V):Option V :=
 match x with
 | .agg cs=>match TI tt S f with
  | some off=>jN tt T (cs.drop off)
  | none=>none
 | _=>none
def Mr (k:Int):Bool:=match bB.κ k with|some b=>b|none=>decide (k≤bB.n)
theorem D8 (k:Int):Mr k=decide (k≤bB.n):=by
 unfold Mr;split;·rename_i b h;exact (bB.ok k b h).symm
 rfl
def KY (op:BinOp) (x y:V):Option V :=
 match y with
 | .gn=>match op,x with
  | .leq,.sc (.int .i64 k)=>some (.sc (.bool (Mr k)))
  | .gtr,.sc (.int .i64 k)=>some (.sc (.bool (!Mr k)))
  | _,_=>none
 | _=>none
theorem F6 {P:Program} {E:Env} {w:World} {op:BinOp} {T:TypeId} {x y v:V} {a b:Value} (xo yo:Operand) (hx:cY E x a) (hy:cY E y b) (h:KY op x y=some v) :
  ∃ z,(do eqGuard op T xo yo a b;binOp op T a b:Sem Value).run P w = .ok z w∧cY E v z:=by
 unfold KY at h;split at h;·cases hy;split at h;(·rename_i k;cases h;cases hx;refine⟨.bool (decide (k≤bB.n)),by simp [binOp,Op.intCmp,eqGuard],by rw [D8];exact .sc _ _⟩);(·rename_i k;cases h;cases hx;refine⟨.bool (decide (k>bB.n)),by simp [binOp,Op.intCmp,eqGuard],?_⟩;(have:(!Mr k)=decide (k>bB.n):=by rw [D8];by_cases h:k≤bB.n;(·rw [decide_eq_true h,decide_eq_false (by omega)];rfl);rw [decide_eq_false h,decide_eq_true (by omega)];rfl);rw [this];exact .sc _ _);cases h
 cases h
def xi (P:Program) (op:BinOp) (T:TypeId) (y:V):Option V :=
 match y with
 | .sc (.pointer none)=>match P.underlying T with
  | some (.pointer _)=>match op with
   | .eql=>some (.sc (.bool false))
   | .neq=>some (.sc (.bool true))
   | _=>none
  | _=>none
 | _=>none
def D9 (P:Program) (op:BinOp) (T:TypeId) (x y:V):Option V :=
 match x with
 | .fq _=>xi P op T y
 | .ptr _ _=>xi P op T y
 | .iv _ _ _ _=>xi P op T y
 | _=>none
theorem Ea {P:Program} {E:Env} {w:World} {op:BinOp} {T:TypeId} {x y v:V} {a b:Value} (xo yo:Operand) (hx:cY E x a) (hy:cY E y b) (h:D9 P op T x y=some v) :
  ∃ z,(do eqGuard op T xo yo a b;binOp op T a b:Sem Value).run P w = .ok z w∧cY E v z:=by
 have key:∀ ad:Addr,a = .pointer (some ad)→xi P op T y=some v→∃ z,(do eqGuard op T xo yo a b;binOp op T a b:Sem Value).run P w = .ok z w∧cY E v z:=by rintro ad rfl h;unfold xi at h;split at h;(·split at h;(·rename_i e hT;cases hy;(have he:(Op.equal T (.pointer (some ad)) (.pointer none)).run P w = .ok false w:=by show (Op.equalIn (9999+1) T _ _).run P w=_;unfold Op.equalIn;simp [bp hT]);split at h;(·cases h;exact⟨.bool false,by simp [binOp,eqGuard,he],.sc _ _⟩);(·cases h;exact⟨.bool true,by simp [binOp,eqGuard,he],.sc _ _⟩);cases h);cases h);cases h
 unfold D9 at h;split at h;·cases hx with|fq _ _ ad xf hF hR=>exact key ad rfl h
 ·cases hx with|ptr _ _ _ g e c hb=>exact key _ rfl h
 ·cases hx with|iv _ _ _ _ _ g e c hb=>exact key _ rfl h
 cases h
def lZ:List V→Option (List Int)
 | []=>some []
 | .sc (.int .u8 n) :: r=>match lZ r with|some l=>some (n :: l)|none=>none
 | _=>none
def qF (P:Program) (s d:TypeId) (rows:List V):Option V :=
 match P.underlying s with
 | some (.slice e)=>match P.underlying e with
  | some (.int .u8)=>match P.underlying d with
   | some .string=>match lZ rows with|some ns=>some (.sc (.string (strOfNums ns)))|none=>none
   | _=>none
  | _=>none
 | _=>none
def vp (P:Program) (mem:List bx) (s d:TypeId):V→Option V
 | .slice rows=>qF P s d rows
 | .ms b v o l=>match mem[b]? with
  | some (.rows v' e rs)=>if v'=v∧e=1∧o+l≤rs.length then qF P s d ((rs.drop o).take l) else none
  | some (.rP v' e rs)=>if v'=v∧e=1∧o+l≤rs.length then qF P s d ((rs.drop o).take l) else none
  | _=>none
 | x=>tW P (convert s d) x
theorem OJ (P:Program) (mem:List bx) (s d:TypeId) (x:Value):vp P mem s d (.sc x)=tW P (convert s d) (.sc x):=rfl
theorem F7 {P:Program} {mem:List bx} {s d e:TypeId} {rows:List V} {ns:List Int} (hs:P.underlying s=some (.slice e)) (he:P.underlying e=some (.int .u8)) (hd:P.underlying d=some .string) (hb:lZ rows=some ns) :
  vp P mem s d (.slice rows)=some (.sc (.string (strOfNums ns))):=by simp only [vp,qF,hs,he,hd,hb]
theorem rv:∀ {rows:List V} {ns:List Int},lZ rows=some ns→ns.length=rows.length
 | [],ns,h=>by simp [lZ] at h;subst h;rfl
 | r :: rs,ns,h=>by
  unfold lZ at h
  split at h
  ·rename_i heq;exact absurd heq (by simp)
  ·rename_i n l heq
   cases heq
   split at h
   ·rename_i l' hl
    cases h
    simp [rv hl]
   cases h
  cases h
theorem nR:∀ {rows:List V} {ns:List Int},lZ rows=some ns→∀ (i:Nat) (r:V),rows[i]?=some r→r = .sc (.int .u8 (ns.getD i 0))
 | [],ns,h,i,r,hr=>by simp at hr
 | r0 :: rs,ns,h,i,r,hr=>by
  unfold lZ at h
  split at h
  ·rename_i heq;exact absurd heq (by simp)
  ·rename_i n l heq
   cases heq
   split at h
   ·rename_i l' hl
    cases h
    cases i with
    | zero=>simp at hr;subst hr;rfl
    | succ i=>exact nR hl i r (by simpa using hr)
   cases h
  cases h
theorem qG {P:Program} {w:World} {E:Env} {s d:TypeId} {rows:List V} {v:V} {aa:Option Addr} {cap:Nat} (h:qF P s d rows=some v) (hn:rows≠[]→∃ g o,aa=some ⟨g,o,none⟩∧∀ (i:Nat) (r:V),rows[i]?=some r→∃ x,w.cell? ⟨g,o+i,none⟩=some x∧cY E r x) :
  ∃ y,(convert s d (.slice aa rows.length cap)).run P w = .ok y w∧cY E v y:=by
 unfold qF at h;split at h;·rename_i e hs;split at h;(·rename_i he;split at h;(·rename_i hd;split at h;(·rename_i ns hb;cases h;refine⟨_,?_,.sc _ _⟩;have hl:=rv hb;cases rows with|nil =>(have:ns=[]:=cj.1 hl;subst this;rw [run_convert_bytes_string w s d e aa _ cap hs he hd];cases aa with|none=>simp [Conv.bytesToString];rfl|some a0 =>have:=run_bytesToString (P:=P) w a0 0 cap [] (by simp [loadCells,loadCellsFrom]);have e0:strOfNums []=ByteArray.empty:=rfl;rw [e0];simpa using this)|cons r0 rr =>obtain⟨g,o,rfl,hc⟩:=hn (by simp);refine run_convert_bytes_arg w s e hs he g o _ cap ns hl (fun i hi=>?_) d hd;obtain⟨x,hx,hr⟩:=hc i _ (aw hi);rw [hx,nR hb i _ (aw hi)] at *;rw [fu hr]);cases h);cases h);cases h
 cases h
theorem ye {P:Program} {s d:TypeId} {rows:List V} {v:V} (h:qF P s d rows=some v):∃ ns,lZ rows=some ns:=by
 unfold qF at h;split at h;·split at h;(·split at h;(·split at h;(·rename_i ns hb;exact⟨ns,hb⟩);cases h);cases h);cases h
 cases h
theorem Ms {w:World} {ad:Addr} {x:Value} (h:w.cell? ad=some x):ad.spot=none:=by
 unfold World.cell? at h;split at h;·split at h;(·simp at h);rename_i h1;cases hs:ad.spot with|none=>rfl|some s=>simp [hs] at h1
 simp at h
theorem F8 {P:Program} {E:Env} {w:World} {a:Act} {st:St} (hs:de E w a st) {s d:TypeId} {x v:V} {y:Value} (hx:cY E x y) (h:vp P st.mem s d x=some v):∃ z,(convert s d y).run P w = .ok z w∧cY E v z:=by
 have ms:∀ (b v' o l e:Nat) (rs:List V),cY E (.ms b v' o l) y→e=1→o+l≤rs.length→(∀ g e' c,E.cC b v'=some (g,e',c)→e'=e∧mE E.pure e rs (fun k=>w.cell? ⟨g,k,none⟩)) →
   qF P s d ((rs.drop o).take l)=some v→∃ z,(convert s d y).run P w = .ok z w∧cY E v z:=by
  intro b v' o l e rs hr he hl mY hb
  obtain⟨ns,OK⟩:=ye hb
  have hlen:((rs.drop o).take l).length=l:=by simp;omega
  cases hr with
  | ja =>
   have h0:(rs.drop o).take 0=[]:=gQ
   rw [h0] at hb
   exact qG (aa:=none) (cap:=0) (w:=w) (E:=E) hb (fun dL=>absurd rfl dL)
  | ms _ _ _ _ _ g e' c aa cap fK uB Tg vf =>
   have gD:=hb
   rw [← hlen]
   refine qG hb fun dL=>?_
   have n6:0<l:=by
    rcases ark l with h0|h0
    ·subst h0;exact absurd gQ dL
    exact h0
   obtain⟨Tj,X0⟩:=mY g e' c fK
   subst he
   subst Tj
   refine⟨g,o*1,uB n6,fun i r hi=>?_⟩
   have hi':rs[o+i]?=some r:=by
    rw [kz] at hi
    split at hi
    ·simpa using hi
    simp at hi
   obtain⟨-,h2⟩:=X0 _ r hi'
   have Cr:=nR OK i r hi
   obtain⟨x,hx,-,OL⟩:=h2 0 r (by rw [Cr];rfl)
   refine⟨x,?_,OL.mono (Env.s9 E)⟩
   have:(o+i)*1+0=o*1+i:=by omega
   rw [← this];exact hx
 unfold vp at h;split at h;·rename_i rows;obtain⟨ns,OK⟩:=ye h;cases hx with|slice _ _ aa cap ux ad xf ha mh hz hF qD hR =>refine qG h fun dL=>?_;(have key:∀ (i:Nat) (r:V),rows[i]?=some r→∃ x,w.cell? (ad.add i)=some x∧cY E r x:=fun i r hi=>by have Cr:=nR OK i r hi;(have hc:r.cells=[r]:=by rw [Cr];rfl);(have he:ux=1:=by rw [← hz i r hi,hc];rfl);have h1:=hF i r 0 r hi (by rw [hc];rfl);have h2:=hR i r 0 r hi (by rw [hc];rfl);rw [he,rN,jm] at h1;exact⟨_,hs.F _ _ h1,h2.mono (Env.s9 E)⟩);(obtain⟨r0,h0⟩:∃ r0,rows[0]?=some r0:=by cases rows with|nil=>exact absurd rfl dL|cons r0 rr=>exact⟨r0,rfl⟩);obtain⟨x0,KZ,-⟩:=key 0 r0 h0;(have acM:ad.add 0=ad:=by simp [Addr.add]);have K0:=Ms KZ;rw [acM] at K0;obtain⟨g,o,sp⟩:=ad;obtain rfl:sp=none:=K0;refine⟨g,o,ha dL,fun i r hi=>?_⟩;obtain⟨x,hx,hr⟩:=key i r hi;exact⟨x,by rw [← hx];congr 1;unfold Addr.add;by_cases h0:i=0 <;> simp [h0],hr⟩
 ·rename_i b v' o l;split at h;(·rename_i v1 e rs hm;split at h;(·rename_i hc;obtain⟨rfl,rfl,hl⟩:=hc;refine ms b v1 o l 1 rs hx rfl hl (fun g e' c fK=>?_) h;(rcases hs.mem b _ hm with ⟨aih,hn⟩|⟨g',T,xs,c',gD,hh,-,-,mY,-⟩);(·rw [hn] at fK;cases fK);rw [gD] at fK;cases fK;refine⟨rfl,fun i row hi=>?_⟩;obtain⟨h1,h2⟩:=mY i row hi;refine⟨h1,fun j cc hj=>?_⟩;obtain⟨x,hx,h3⟩:=h2 j cc hj;exact⟨x,(nQ hh _).trans hx,h3⟩);cases h);(·rename_i v1 e rs hm;split at h;(·rename_i hc;obtain⟨rfl,rfl,hl⟩:=hc;refine ms b v1 o l 1 rs hx rfl hl (fun g e' c fK=>?_) h;(rcases hs.mem b _ hm with ⟨aih,hn⟩|⟨g',c',gD,-,mY⟩);(·rw [hn] at fK;cases fK);rw [gD] at fK;cases fK;refine⟨rfl,fun i row hi=>?_⟩;obtain⟨h1,h2⟩:=mY i row hi;refine⟨h1,fun j cc hj=>?_⟩;obtain⟨x,hx,h3⟩:=h2 j cc hj;exact⟨x,hs.F _ _ hx,h3⟩);cases h);cases h
 exact rQ hx h
def qw (op:BinOp) (T:TypeId) (x y:Operand):Value→Value→Sem Value:=fun u v=>do eqGuard op T x y u v;binOp op T u v
def Af (P:Program) (tt:Table) (T:TypeId) (x i:V):Option V :=
 match x with
 | .ptr b o=>match i with
  | .sc (.int _ n)=>match P.underlying T with
   | some (.array len e)=>match oX tt e with
    | some size=>if 0≤n∧n<len then some (.ptr b (o+n.toNat*size)) else none
    | none=>none
   | _=>none
  | _=>none
 | _=>none
theorem F9 {P:Program} {tt:Table} (ht:TT P tt) {E:Env} {T:TypeId} {p i v:V} {x y:Value} (hp:cY E p x) (hi:cY E i y) (h:Af P tt T p i=some v) (w:World) :
  ∃ z,(Instr.indexAt T x y).run P w = .ok z w∧cY E v z:=by
 unfold Af oX at h;split at h;·rename_i b o;split at h;(·rename_i k n;split at h;(·rename_i len e hd;cases hE:tt e with|none=>rw [hE] at h;simp at h|some ie =>rw [hE] at h;simp only at h;split at h;(·rename_i h0;cases h;cases hi with|sc =>cases hp with|ptr _ _ _ g e' c hb =>refine⟨.pointer (some ⟨g,o+n.toNat*ie.size,none⟩),?_,.ptr _ _ _ g e' c hb⟩;simp [Instr.indexAt,asIntOf,bp hd,Instr.sureAddr,ht.sizeOf hE,h0,add_lit]);cases h);cases h);cases h
 cases h
def V0 (rows:List V):Bool→V
 | true=>.full rows
 | false=>.slice rows
def K3 (tt:Table) (T:TypeId) (x h m:V):Option V :=
 match x with
 | .slice rows=>match F2 h with
  | some a=>match F2 m with
   | some b=>match j2 tt T with
    | some e=>match oX tt e with
     | some _=>if 0≤a∧a≤b∧b≤rows.length then some (V0 (rows.take a.toNat) (decide (a=b))) else none
     | none=>none
    | none=>none
   | none=>none
  | none=>none
 | _=>none
theorem Ga {P:Program} {tt:Table} (ht:TT P tt) {E:Env} {T:TypeId} {x h m v:V} {y z u:Value} (hx:cY E x y) (hh:cY E h z) (hm:cY E m u) (hc:K3 tt T x h m=some v) (w:World) :
  ∃ q,(Instr.sliceAt T y none (some z) (some u)).run P w = .ok q w∧cY E v q:=by
 unfold K3 at hc;split at hc;·rename_i rows;split at hc;(·rename_i a ha;split at hc;(·rename_i b hb;obtain⟨k1,rfl⟩:=rR hh ha;obtain⟨k2,rfl⟩:=rR hm hb;unfold j2 oX at hc;cases hT:tt T with|none=>rw [hT] at hc;simp at hc|some iT =>rw [hT] at hc;simp only at hc;cases he:iT.elem with|none=>rw [he] at hc;simp at hc|some e =>rw [he] at hc;simp only at hc;cases hE:tt e with|none=>rw [hE] at hc;simp at hc|some ie =>rw [hE] at hc;simp only at hc;obtain⟨d,hd,-,ve,-⟩:=ht.desc T iT hT;obtain rfl:=ve e he;split at hc;(·rename_i w8;obtain⟨h0,h1,h2⟩:=w8;cases hc;cases hx with|slice _ _ aa cap ux ad xf haa mh hz hF qD hR =>(have hlen:(rows.take a.toNat).length=a.toNat:=by rw [cQ];omega);(have fj:(Instr.sliceAt T (.slice aa rows.length cap) none (some (.int k1 a)) (some (.int k2 b))).run P w = .ok (.slice aa a.toNat b.toNat) w:=by simp only [Instr.sliceAt,Instr.slice,Sem.run_bind,bp hd,Result.andThen_ok,Instr.sliceBounds,Instr.sliceBound,asIntOf,Sem.run_pure,ht.sizeOf hE,Option.isSome_some];rw [if_pos ⟨by omega,by omega⟩];simp only [Sem.run_pure,Result.andThen_ok];rw [if_pos ⟨by omega,by omega⟩];simp [Addr.add]);refine⟨_,fj,?_⟩;(have hg:∀ (i:Nat) (row:V),(rows.take a.toNat)[i]?=some row→rows[i]?=some row:=fun i row hi=>by rw [kz] at hi;split at hi;(·exact hi);cases hi);have:=cY.slice E (rows.take a.toNat) aa b.toNat ux ad xf (fun dL=>haa fun h=>dL (by rw [h,z8])) (by omega) (fun i row hi=>hz _ _ (hg i row hi)) (fun i row j c hi hj=>hF _ _ _ _ (hg i row hi) hj) (fun i row j c hi hj=>qD _ _ _ _ (hg i row hi) hj) fun i row j c hi hj=>hR _ _ _ _ (hg i row hi) hj;rw [hlen] at this;by_cases TJ:a=b;(·rw [decide_eq_true TJ];(have X1:b.toNat=(rows.take a.toNat).length:=by rw [hlen,TJ]);(have h4:(Value.slice aa a.toNat b.toNat) = .slice aa (rows.take a.toNat).length (rows.take a.toNat).length:=by rw [← X1,← TJ]);rw [h4];exact .full _ _ _ (by rw [← h4];exact this));rw [decide_eq_false TJ];exact this);cases hc);cases hc);cases hc
 cases hc
def Eb (P:Program) (tt:Table) (S:TypeId) (f:Nat) (x:V):Option V :=
 match x with
 | .agg cs=>match P.underlying S with
  | some (.struct fs)=>match fs[f]? with
   | some fd=>jN tt fd.type (cs.drop fd.offset)
   | none=>none
  | _=>none
 | _=>none
theorem Cs {P:Program} {tt:Table} (ht:TT P tt) {E:Env} {S:TypeId} {f:Nat} {x v:V} {y:Value} (hx:cY E x y) (h:Eb P tt S f x=some v) (w:World):∃ z,(Instr.field S y f).run P w = .ok z w∧cY E v z:=by
 unfold Eb at h;split at h;·rename_i cs;split at h;(·rename_i fs hu;split at h;(·rename_i fd hf;cases hx with|agg _ _ xs hl hr =>simp only [Instr.field,Sem.run_bind,bp hu,Result.andThen_ok,hf];unfold jN at h;cases hi:tt fd.type with|none=>rw [hi] at h;simp at h|some i =>rw [hi] at h;simp only at h;cases ha:i.agg with|false =>simp only [ha,bF,if_false] at h;(have h0:cs[fd.offset]?=some v:=by simpa [asv] using h);(have bL:fd.offset<xs.size:=by rw [← hl];exact (az.1 h0).1);refine⟨xs[fd.offset],?_,hr _ _ _ h0 (cd bL)⟩;simp [part,asAgg,ht.isAgg hi,ha,cd bL]|true =>simp only [ha,if_true] at h;split at h;(·rename_i hle;simp only [aF] at h;subst h;rw [dw] at hle;refine⟨.agg (xs.extract fd.offset (fd.offset+i.size)),?_,.agg _ _ _ (by simp;omega) fun j c z hc hz=>?_⟩;(·simp [part,asAgg,ht.isAgg hi,ha,ht.sizeOf hi]);(have hj:j<i.size:=by by_cases hj:j<i.size;(·exact hj);rw [kz] at hc;simp [hj] at hc);rw [jI hj,arM] at hc;refine hr (fd.offset+j) c z hc ?_;rw [Array.getElem?_extract] at hz;split at hz;(·exact hz);cases hz);cases h);cases h);cases h
 cases h
def iY (P:Program) (tt:Table) (st:St) (o:Oper):Option V :=
 match o.op with
 | .move x=>some (st.eval x)
 | .assign x=>some (st.eval x)
 | .pick c a b=>match st.eval c with|.sc (.bool t)=>some (if t=true then st.eval a else st.eval b)|_=>none
 | .load T x=>pV tt st.mem T (st.eval x)
 | .nilCheck x=>XY (st.eval x)
 | .binOp op T x y _=>match KY op (st.eval x) (st.eval y) with
  | some v=>some v
  | none=>match D9 P op T (st.eval x) (st.eval y) with
   | some v=>some v
   | none=>dJ P (qw op T x y) (st.eval x) (st.eval y)
 | .unOp op _ x=>tW P (Op.unary op) (st.eval x)
 | .convert s d x=>vp P st.mem s d (st.eval x)
 | .makeFunc fn first cap=>some (.iU fn (first.toList.map st.eval) (cap.toList.map st.eval))
 | .slice T x lo hi none=>D4 P tt st.mem T (st.eval x) (lo.map st.eval) (hi.map st.eval)
 | .fieldAddr S x f=>D1 tt S f (st.eval x)
 | .field S x f=>Eb P tt S f (st.eval x)
 | .slice T x none (some h) (some m)=>K3 tt T (st.eval x) (st.eval h) (st.eval m)
 | .indexAddr T x i=>match oh tt st.mem T (st.eval x) (st.eval i) with
  | some v=>some v
  | none=>Af P tt T (st.eval x) (st.eval i)
 | .index T x i=>dJ P (Instr.index T) (st.eval x) (st.eval i)
 | .extract t i=>match st.eval t with|.eg vs=>vs[i]?|_=>none
 | .lookup T x i ok=>kB P st.mem T (st.eval x) (st.eval i) ok
 | .entry it=>Mq st.mem (st.eval it)
 | .call { callee:=.builtin .len,args:=xs,argTypes:=ts }=>match xh st.mem ts P (xs.toList.map st.eval) with
  | some v=>some v
  | none=>D7 P tt ts o.type (xs.toList.map st.eval)
 | .call { callee:=.builtin .max,args:=xs,argTypes:=ts }=>iq P (Builtin.max_ ts o.type) (xs.toList.map st.eval)
 | .call { callee:=.builtin .min,args:=xs,argTypes:=ts }=>iq P (Builtin.min_ ts o.type) (xs.toList.map st.eval)
 | _=>none
theorem rU {P:Program} {f:Array Value→Sem Value} {E:Env} {w:World} {xs:List V} {v:V} {ys:Array Value} (hx:cU E xs ys.toList) (h:iq P f xs=some v):∃ z,(f ys).run P w = .ok z w∧cY E v z:=by
 unfold iq at h;split at h;·rename_i l hl;have:=qE hx hl;split at h;(·rename_i z hz;simp only [aF] at h;subst h;subst this;exact⟨z,gM _ (by simpa using hz) w,kW E z⟩);simp at h
 simp at h
theorem Ec {P:Program} {tt:Table} (ht:TT P tt) {ts:Array TypeId} {ty t e:TypeId} (h0:ts[0]?=some t) (he:j2 tt t=some e) (w:World) (aa:Option Addr) (len cap:Nat) :
  (Builtin.len_ ts ty #[.slice aa len cap]).run P w = .ok (.int .i64 len) w:=by unfold j2 at he;cases hT:tt t with|none=>rw [hT] at he;simp at he|some iT =>rw [hT] at he;simp only at he;obtain⟨d,hd,-,ve,-⟩:=ht.desc t iT hT;obtain rfl:=ve e he;simp [Builtin.len_,h0,bp hd,goInt]
theorem I1 {P:Program} {tt:Table} (ht:TT P tt) {E:Env} {w:World} {ts:Array TypeId} {ty:TypeId} {xs:List V} {v:V} {ys:Array Value} (hx:cU E xs ys.toList) (h:D7 P tt ts ty xs=some v) :
  ∃ z,(Builtin.len_ ts ty ys).run P w = .ok z w∧cY E v z:=by
 unfold D7 at h;split at h;·split at h;(·rename_i t h0;split at h;(·rename_i e he;simp only [aF] at h;subst h;obtain⟨x,r,hy,h1,h2⟩:=hx.of_cons;have:=h2.of_nil;subst this;(obtain rfl:ys = #[x]:=by rw [← cE (xs:=ys),hy]);cases h1 with|slice _ _ aa cap ux ad xf ha mh hz hF qD hR=>exact⟨_,Ec ht h0 he w aa _ cap,.sc _ _⟩);simp at h);simp at h
 ·split at h;(·rename_i t h0;split at h;(·rename_i e he;simp only [aF] at h;subst h;obtain⟨x,r,hy,h1,h2⟩:=hx.of_cons;have:=h2.of_nil;subst this;(obtain rfl:ys = #[x]:=by rw [← cE (xs:=ys),hy]);cases h1 with|ja=>exact⟨_,Ec ht h0 he w none _ 0,.sc _ _⟩|ms _ _ _ _ _ g e' c aa cap hb hl Tg vf=>exact⟨_,Ec ht h0 he w aa _ cap,.sc _ _⟩);simp at h);simp at h
 exact rU hx h
theorem dz {P:Program} {s:Sem Value} {w:World} {x:Value} (h:s.run P w = .ok x w):(do pure (Next.value (← s)):Sem Next).run P w = .ok (.value x) w:=by simp [h]
theorem tb {P:Program} {tt:Table} (ht:TT P tt) {E:Env} {w:World} {a:Act} {st:St} (hs:de E w a st) {o:Oper} {v:V} (h:iY P tt st o=some v) :
  ∃ x,(execOp a.eval o).run P w = .ok (.value x) w∧cY E v x:=by
 obtain⟨dst,op,type,pos,after,guard⟩:=o;unfold iY at h;dsimp only at h;split at h;·simp only [aF] at h;subst h;exact⟨_,rfl,hs.eval _⟩
 ·simp only [aF] at h;subst h;exact⟨_,rfl,hs.eval _⟩
 ·rename_i c x y;split at h;(·rename_i t hc;simp only [aF] at h;subst h;have:=hs.eval c;rw [hc] at this;refine⟨if t=true then a.eval x else a.eval y,?_,?_⟩;(·simp [execOp,fu this,asBool]);cases t <;> exact hs.eval _);simp at h
 ·obtain⟨y,h1,h2⟩:=yd ht hs (hs.eval _) h;exact⟨y,dz h1,h2⟩
 ·rename_i x;have hx:=hs.eval x;generalize hy:a.eval x=y at hx;(have fj:∀ z,(∀ m f c,z ≠ .func (.method m) f c)→z ≠ .pointer none→z ≠ .nilIface→z ≠ .nilFunc→a.eval x=z→(execOp a.eval { dst,op:=.nilCheck x,type,pos,after,guard }).run P w = .ok (.value z) w:=by intro z h1 h2 h3 h4 he;simp only [execOp,he];rfl);unfold XY at h;split at h <;> simp only [aF,reduceCtorEq] at h <;> subst h <;> rename_i hv <;> rw [hv] at hx;(·cases hx with|ptr _ _ _ g e c hb=>exact⟨_,fj _ (by simp) (by simp) (by simp) (by simp) hy,.ptr _ _ _ g e c hb⟩);(·cases hx with|iv _ _ _ _ _ g e c hb=>exact⟨_,fj _ (by simp) (by simp) (by simp) (by simp) hy,.iv _ _ _ _ _ g e c hb⟩);(·cases hx with|fq _ _ ad xf hF hr=>exact⟨_,fj _ (by simp) (by simp) (by simp) (by simp) hy,.fq _ _ _ xf hF hr⟩);(·cases hx with|iU _ f first cap xs ys h1 h2 h3 h4=>exact⟨_,fj _ (by simp) (by simp) (by simp) (by simp) hy,.iU _ _ _ _ _ _ h1 h2 h3 h4⟩);have:=fu hx;subst this;exact⟨_,fj _ (by simp) (by simp) (by simp) (by simp) hy,.sc _ _⟩
 ·rename_i op T x y _;split at h;(·rename_i hg;cases h;obtain⟨z,h1,h2⟩:=F6 (P:=P) (w:=w) (T:=T) x y (hs.eval x) (hs.eval y) hg;exact⟨z,dz h1,h2⟩);split at h;(·rename_i hg;cases h;obtain⟨z,h1,h2⟩:=Ea (P:=P) (w:=w) (T:=T) x y (hs.eval x) (hs.eval y) hg;exact⟨z,dz h1,h2⟩);obtain⟨z,h1,h2⟩:=mX (w:=w) (hs.eval x) (hs.eval y) h;exact⟨z,dz h1,h2⟩
 ·obtain⟨z,h1,h2⟩:=rQ (w:=w) (hs.eval _) h;exact⟨z,dz h1,h2⟩
 ·obtain⟨z,h1,h2⟩:=F8 (w:=w) hs (hs.eval _) h;exact⟨z,dz h1,h2⟩
 ·(rename_i fn first cap);simp only [aF] at h;subst h;(have h1:=hs.pY first);have h2:=hs.pY cap;exact⟨_,dz rfl,.iU _ _ _ _ _ _ (by simp) (by simp) (fun i c x hc hx=>h1.2 i c x hc (by simpa using hx)) fun i c x hc hx=>h2.2 i c x hc (by simpa using hx)⟩
 ·obtain⟨z,h1,h2⟩:=I0 ht hs (hs.eval _) h;exact⟨z,dz h1,h2⟩
 ·obtain⟨z,h1,h2⟩:=D2 ht (hs.eval _) h w;exact⟨z,dz h1,h2⟩
 ·obtain⟨z,h1,h2⟩:=Cs ht (hs.eval _) h w;exact⟨z,dz h1,h2⟩
 ·obtain⟨z,h1,h2⟩:=Ga ht (hs.eval _) (hs.eval _) (hs.eval _) h w;exact⟨z,dz h1,h2⟩
 ·split at h;(·rename_i hv;cases h;obtain⟨z,h1,h2⟩:=D3 ht hs (hs.eval _) (hs.eval _) hv;exact⟨z,dz h1,h2⟩);obtain⟨z,h1,h2⟩:=F9 ht (hs.eval _) (hs.eval _) h w;exact⟨z,dz h1,h2⟩
 ·obtain⟨z,h1,h2⟩:=mX (w:=w) (hs.eval _) (hs.eval _) h;exact⟨z,dz h1,h2⟩
 ·rename_i t i;split at h;(·rename_i vs hv;have:=hs.eval t;rw [hv] at this;generalize hy:a.eval t=y at this;cases this with|eg _ _ xs hl hr =>(have hi:i<xs.size:=by rw [← hl];exact (az.1 h).1);exact⟨xs[i],dz (by simp [hy,Instr.extract,cd hi]),hr i v _ h (cd hi)⟩);simp at h
 ·obtain⟨z,h1,h2⟩:=Cq hs (hs.eval _) (hs.eval _) h;exact⟨z,dz h1,h2⟩
 ·obtain⟨z,h1,h2⟩:=IZ hs (hs.eval _) h;exact⟨z,dz h1,h2⟩
 ·split at h;(·rename_i hl;cases h;obtain⟨z,h1,h2⟩:=IY hs (hs.pY _) hl;exact⟨z,dz h1,h2⟩);obtain⟨z,h1,h2⟩:=I1 ht (w:=w) (hs.pY _) h;exact⟨z,dz h1,h2⟩
 ·obtain⟨z,h1,h2⟩:=rU (w:=w) (hs.pY _) h;exact⟨z,dz h1,h2⟩
 ·obtain⟨z,h1,h2⟩:=rU (w:=w) (hs.pY _) h;exact⟨z,dz h1,h2⟩
 simp at h
end Go.Eng
end
section
namespace Go.Eng
variable [bB]
open Go.RowKit (Below)
def dm (mem:List bx) (key:Nat) (B:bx):List bx:=if key<mem.length then mem.set key B else mem++[B]
def iZ (mem:List bx) (key:Nat):Prop:=mem[key]?=some .hole∨key=mem.length
def Env.with (E:Env) (key dZ:Nat) (t:Nat×Nat×Nat):Env := { F:=E.F,cC:=fun k v=>if k=key∧v=dZ then some t else E.cC k v,gl:=E.gl }
theorem qH {mem:List bx} {key:Nat} (h:key≤mem.length) (B:bx) (k:Nat):(dm mem key B)[k]?=if k=key then some B else mem[k]?:=by
 unfold dm;split;·rename_i bL;rw [bX];by_cases hk:key=k;(·subst hk;simp [bL]);rw [if_neg hk,if_neg (fun e=>hk e.symm)]
 rename_i gq;have ft:key=mem.length:=by omega
 by_cases hk:k=key;·subst hk;rw [if_pos rfl,ft];simp
 rw [if_neg hk,oV];split;·rfl
 rw [ec (by simp;omega),ec (by omega)]
theorem tZ {mem:List bx} {key:Nat} (h:key≤mem.length) (B:bx):mem.length≤(dm mem key B).length∧key<(dm mem key B).length:=by unfold dm;split <;> simp <;> omega
theorem iZ.le {mem:List bx} {key:Nat} (h:iZ mem key):key≤mem.length:=by
 rcases h with h|h
 ·exact Nat.le_of_lt (az.1 h).1
 omega
theorem de.free {E:Env} {w:World} {a:Act} {st:St} (hs:de E w a st) {key:Nat} (h:iZ st.mem key):∀ v,E.cC key v=none:=by
 rcases h with h|h
 ·exact hs.mem _ _ h
 exact hs.top _ (by omega)
theorem Env.mQ {E:Env} {key dZ:Nat} (h:E.cC key dZ=none) (t:Nat×Nat×Nat):E.le (E.with key dZ t) :=
 ⟨fun _ _ h=>h,fun b v u hb=>by
  show (if b=key∧v=dZ then some t else E.cC b v)=some u
  rw [if_neg (fun e=>by rw [e.1,e.2,h] at hb;cases hb)];exact hb⟩
theorem kL.mono {E E':Env} {w w':World} {k:Nat} {B:bx} (h:kL E w k B) (hle:E.le E') (K4:∀ v,E.cC k v=none→E'.cC k v=none)
  (vq:∀ g e c,E.cC k B.dZ=some (g,e,c)→w'.heap[g]?=w.heap[g]?) (hF:∀ g e c o,E.cC k B.dZ=some (g,e,c)→E.F ⟨g,o,none⟩=none→E'.F ⟨g,o,none⟩=none):kL E' w' k B:=by
 have mY:∀ {e rs} {f f':Nat→Option Value},(∀ o x,f o=some x→f' o=some x)→mE E.pure e rs f→mE E'.pure e rs f':=fun hf hr i row hi=>by obtain⟨h1,h2⟩:=hr i row hi;exact⟨h1,fun j c hj=>let ⟨x,hx,h1,hr⟩:=h2 j c hj;⟨x,hf _ _ hx,h1,hr.mono (Env.lq hle)⟩⟩
 cases B with|hole=>exact fun v=>K4 v (h v)|dead=>trivial|box cs =>obtain⟨g,T,xs,hb,hh,hr,hf⟩:=h;exact⟨g,T,xs,hle.cC _ _ _ hb,(vq _ _ _ hb).trans hh,hr.mono hle,fun o=>hF _ _ _ o hb (hf o)⟩|rows v e rs =>((rcases h with ⟨h1,h2⟩|⟨g,T,xs,c,hb,hh,kO,hl,hr,hf⟩);(·exact .inl ⟨h1,K4 _ h2⟩);exact .inr ⟨g,T,xs,c,hle.cC _ _ _ hb,(vq _ _ _ hb).trans hh,kO,hl,mY (fun _ _ h=>h) hr,fun o=>hF _ _ _ o hb (hf o)⟩)|loop s nP fr params assign body =>obtain⟨l,fn,tmps,db,hb,hh,hr,hf⟩:=h;exact⟨l,fn,tmps,db,hle.cC _ _ _ hb,(vq _ _ _ hb).trans hh,hr.mono hle,fun o=>hF _ _ _ o hb (hf o)⟩|map dP clock =>obtain⟨g,es,hb,hh,hr,hf⟩:=h;exact⟨g,es,hle.cC _ _ _ hb,(vq _ _ _ hb).trans hh,hr.mono hle,fun o=>hF _ _ _ o hb (hf o)⟩|jJ m since seen last =>obtain⟨g,gm,e,c,hb,hm,hh,hf⟩:=h;exact⟨g,gm,e,c,hle.cC _ _ _ hb,hle.cC _ _ _ hm,(vq _ _ _ hb).trans hh,fun o=>hF _ _ _ o hb (hf o)⟩|n5 T kb v l =>obtain⟨g,T',p,s,hb,hh,hp,hr,hf⟩:=h;exact⟨g,T',p,s,hle.cC _ _ _ hb,(vq _ _ _ hb).trans hh,hp,hr.mono hle,fun o=>hF _ _ _ o hb (hf o)⟩|oW T v O =>((rcases h with ⟨h1,h2⟩|⟨g,cur,c,hb,hh,h3,h4,h5,hf⟩);(·exact .inl ⟨h1,K4 _ h2⟩);exact .inr ⟨g,cur,c,hle.cC _ _ _ hb,(vq _ _ _ hb).trans hh,h3,h4,h5,fun o=>hF _ _ _ o hb (hf o)⟩)|nL s pos =>obtain⟨g,hb,hh,hf⟩:=h;exact⟨g,hle.cC _ _ _ hb,(vq _ _ _ hb).trans hh,fun o=>hF _ _ _ o hb (hf o)⟩|og =>obtain⟨g,hb,hh,hf⟩:=h;exact⟨g,hle.cC _ _ _ hb,(vq _ _ _ hb).trans hh,fun o=>hF _ _ _ o hb (hf o)⟩|rP v e rs =>(rcases h with ⟨h1,h2⟩|⟨g,c,hb,hl,hr⟩);(·exact .inl ⟨h1,K4 _ h2⟩);exact .inr ⟨g,c,hle.cC _ _ _ hb,hl,mY (fun _ _ h=>hle.F _ _ h) hr⟩
theorem de.new {E:Env} {w:World} {a:Act} {st:St} (hs:de E w a st) {key:Nat} (hk:iZ st.mem key) {obj:Obj} {B:bx} {e c:Nat} (I2:B.dZ=0)
  (hB:kL (E.with key 0 (w.heap.size,e,c)) (w.alloc obj) key B) :
  de (E.with key 0 (w.heap.size,e,c)) (w.alloc obj) a { st with mem:=dm st.mem key B }∧ic E w (E.with key 0 (w.heap.size,e,c)) (w.alloc obj):=by
 have CW:=hs.free hk;have hle:=Env.mQ (CW 0) (w.heap.size,e,c);have gY:∀ k v,¬ (k=key∧v=0)→(E.with key 0 (w.heap.size,e,c)).cC k v=E.cC k v:=fun k v dL=>if_neg dL;have ft:(E.with key 0 (w.heap.size,e,c)).cC key 0=some (w.heap.size,e,c):=if_pos ⟨rfl,rfl⟩;have ua:∀ k v,k≠key→(E.with key 0 (w.heap.size,e,c)).cC k v=E.cC k v:=fun k v dL=>gY k v fun h=>dL h.1;refine⟨⟨fun ad x hx=>?_,fun k v g e' c' hb=>?_,fun k B' ub=>?_,fun k lY v=>?_,fun k B' ub v hv=>?_,?_,hs.fr.mono hle⟩,hle,fun k v g e' c' hb=>?_,fun ad x hx=>.inl hx,rfl,rfl,rfl,by simp,fun b hb _=>ed w _ b hb⟩;·rw [World.cell?_alloc_lt w _ ad (World.block_lt_of_cell? w ad (hs.F ad x hx))];exact hs.F ad x hx
 ·by_cases fJ:k=key∧v=0;(·obtain⟨rfl,rfl⟩:=fJ;rw [ft] at hb;cases hb;simp);rw [gY k v fJ] at hb;have:=hs.lt _ _ _ _ _ hb;simp;omega
 ·rw [qH hk.le] at ub;split at ub;(·rename_i fJ;subst fJ;cases ub;exact hB);rename_i fJ;exact (hs.mem k B' ub).mono hle (fun v h=>by rw [ua k v fJ];exact h) (fun g e' c' hb=>ed w _ g (hs.lt _ _ _ _ _ hb)) fun _ _ _ o _ h=>h
 ·have:=tZ hk.le B;dsimp only at lY;rw [ua k v (by omega)];exact hs.top k (by omega) v
 ·dsimp only at ub;rw [qH hk.le] at ub;split at ub;(·rename_i fJ;subst fJ;cases ub;rw [gY k v (by omega)];exact CW v);rename_i fJ;rw [ua k v fJ];exact hs.dZ k B' ub v hv
 ·intro k k' v v' g e1 c1 e2 c2 h5 h6;by_cases fJ:k=key∧v=0 <;> by_cases Ed:k'=key∧v'=0;(·rw [fJ.1,Ed.1]);(·obtain⟨rfl,rfl⟩:=fJ;rw [ft] at h5;cases h5;rw [gY k' _ Ed] at h6;have:=hs.lt _ _ _ _ _ h6;omega);(·obtain⟨rfl,rfl⟩:=Ed;rw [ft] at h6;cases h6;rw [gY k _ fJ] at h5;have:=hs.lt _ _ _ _ _ h5;omega);rw [gY k _ fJ] at h5;rw [gY k' _ Ed] at h6;exact hs.apart _ _ _ _ _ _ _ _ _ h5 h6
 by_cases fJ:k=key∧v=0;·obtain⟨rfl,rfl⟩:=fJ;rw [ft] at hb;cases hb;exact .inr (aB _)
 rw [gY k v fJ] at hb;exact .inl ⟨_,_,_,_,hb⟩
theorem de.OM {E:Env} {w:World} {a:Act} {st:St} (hs:de E w a st) {key:Nat} (hk:iZ st.mem key) {xs:Array Value} {cs:List V} (hr:cU E cs xs.toList) (T:TypeId) :
  ∃ E',de E' (w.alloc (.cells xs T (0,0))) a { st with mem:=dm st.mem key (.box cs) }∧ic E w E' (w.alloc (.cells xs T (0,0)))∧cY E' (.ptr key 0) (.pointer (some ⟨w.heap.size,0,none⟩)):=by
 have hle:=Env.mQ (hs.free hk 0) (w.heap.size,0,0);have:=hs.new (obj:=.cells xs T (0,0)) (B:=.box cs) (e:=0) (c:=0) hk rfl ⟨w.heap.size,T,xs,if_pos ⟨rfl,rfl⟩,heap_alloc_new w _,hr.mono hle,fun o=>?_⟩;·exact⟨_,this.1,this.2,.ptr _ _ _ _ 0 0 (if_pos ⟨rfl,rfl⟩)⟩
 show E.F _=none;cases hx:E.F ⟨w.heap.size,o,none⟩ with|none=>rfl|some x=>have:=World.block_lt_of_cell? w _ (hs.F _ _ hx);simp at this
theorem de.vt {E:Env} {w:World} {a:Act} {st:St} (hs:de E w a st) {key:Nat} (hk:iZ st.mem key) {xs:Array Value} {rs:List V} {e c:Nat} (T:TypeId) (kO:xs.size=c*e) (hl:rs.length≤c)
  (hr:mE E.pure e rs (fun o=>xs[o]?)) :
  ∃ E',de E' (w.alloc (.cells xs T (0,0))) a { st with mem:=dm st.mem key (.rows 0 e rs) }∧ic E w E' (w.alloc (.cells xs T (0,0)))∧cY E' (.ms key 0 0 rs.length) (.slice (some ⟨w.heap.size,0,none⟩) rs.length c):=by
 have hle:=Env.mQ (hs.free hk 0) (w.heap.size,e,c);have:=hs.new (obj:=.cells xs T (0,0)) (B:=.rows 0 e rs) (e:=e) (c:=c) hk rfl (.inr ⟨w.heap.size,T,xs,c,if_pos ⟨rfl,rfl⟩,heap_alloc_new w _,kO,hl,fun i row hi=>?_,fun o=>?_⟩);·exact⟨_,this.1,this.2,.ms _ _ _ _ _ w.heap.size e c _ _ (if_pos ⟨rfl,rfl⟩) (fun _=>by simp) (fun _=>⟨rfl,rfl⟩) ⟨hl,cr _,fun _=>by simp⟩⟩
 ·obtain⟨h1,h2⟩:=hr i row hi;exact⟨h1,fun j c' hj=>let ⟨x,hx,h1,hr⟩:=h2 j c' hj;⟨x,hx,h1,hr.mono (Env.lq hle)⟩⟩
 show E.F _=none;cases hx:E.F ⟨w.heap.size,o,none⟩ with|none=>rfl|some x=>have:=World.block_lt_of_cell? w _ (hs.F _ _ hx);simp at this
theorem de.TK {E:Env} {w:World} {a:Act} {st:St} (hs:de E w a st) {key:Nat} (hk:iZ st.mem key) (e:Nat):de E w a { st with mem:=dm st.mem key (.rows 0 e []) }:=by
 have hn:=hs.free hk;refine⟨hs.F,hs.lt,fun k B hB=>?_,fun k lY=>hs.top k ?_,fun k B hB v hv=>?_,hs.apart,hs.fr⟩;·rw [qH hk.le] at hB;split at hB;(·rename_i fJ;subst fJ;cases hB;exact .inl ⟨rfl,hn 0⟩);exact hs.mem k B hB
 ·have:=tZ hk.le (.rows 0 e []);dsimp only at lY;omega
 dsimp only at hB;rw [qH hk.le] at hB;split at hB;·rename_i fJ;subst fJ;exact hn v
 exact hs.dZ k B hB v hv
end Go.Eng
end
section
namespace Go.Eng
variable [bB]
open Go.RowKit (Below)
def j3 (xs:Array Value) (o:Nat):List Value→Array Value
 | []=>xs
 | v :: r=>j3 (xs.setIfInBounds o v) (o+1) r
def kC (cs:List V) (o:Nat):List V→List V
 | []=>cs
 | v :: r=>kC (cs.set o v) (o+1) r
theorem l0 (vs:List Value):∀ (xs:Array Value) (o:Nat),(j3 xs o vs).size=xs.size:=by induction vs with|nil=>intro xs o;rfl|cons v r ih=>intro xs o;simp [j3,ih]
theorem Ag (vs:List V):∀ (cs:List V) (o:Nat),(kC cs o vs).length=cs.length:=by induction vs with|nil=>intro cs o;rfl|cons v r ih=>intro cs o;simp [kC,ih]
theorem yf {E:Env} (vs:List V):∀ (ys:List Value) (cs:List V) (xs:Array Value) (o:Nat),cU E vs ys→cU E cs xs.toList→cU E (kC cs o vs) (j3 xs o ys).toList:=by induction vs with|nil=>intro ys cs xs o h k;have:=h.of_nil;subst this;exact k|cons v r ih =>intro ys cs xs o h k;obtain⟨y,ys,rfl,h1,h2⟩:=h.of_cons;exact ih ys _ _ _ h2 (by simpa using k.set o h1)
theorem kc (vs:List Value):∀ (xs:Array Value) (o k:Nat),o+vs.length≤xs.size→(j3 xs o vs)[k]?=if o≤k∧k<o+vs.length then vs[k-o]? else xs[k]?:=by induction vs with|nil=>intro xs o k _;simp [j3];intro h1 h2;omega|cons v r ih =>intro xs o k h;simp only [af] at h;rw [j3,ih _ _ _ (by simp;omega)];by_cases h1:o+1≤k∧k<o+1+r.length;(·rw [if_pos h1,if_pos ⟨by omega,by simp;omega⟩];(have:k-o=(k-(o+1))+1:=by omega);rw [this,cp]);rw [if_neg h1];by_cases h2:k=o;(·subst h2;rw [if_pos ⟨aB _,by simp⟩];simp only [dR,aJ];rw [Array.getElem?_setIfInBounds_self_of_lt (by omega)]);rw [if_neg (by simp only [af];omega),DY (fun e=>h2 e.symm)]
theorem Gb (vs:List V):∀ (cs:List V) (o k:Nat),o+vs.length≤cs.length→(kC cs o vs)[k]?=if o≤k∧k<o+vs.length then vs[k-o]? else cs[k]?:=by induction vs with|nil=>intro xs o k _;simp [kC];intro h1 h2;omega|cons v r ih =>intro xs o k h;simp only [af] at h;rw [kC,ih _ _ _ (by simp;omega)];by_cases h1:o+1≤k∧k<o+1+r.length;(·rw [if_pos h1,if_pos ⟨by omega,by simp;omega⟩];(have:k-o=(k-(o+1))+1:=by omega);rw [this,cp]);rw [if_neg h1];by_cases h2:k=o;(·subst h2;rw [if_pos ⟨aB _,by simp⟩];simp only [dR,aJ];rw [bX];simp;omega);rw [if_neg (by simp only [af];omega),cP (fun e=>h2 e.symm)]
structure o3 (w w':World) (g:Nat):Prop where
 os:w'.os=w.os
 tape:w'.tape=w.tape
 output:w'.output=w.output
 size:w'.heap.size=w.heap.size
 heap:∀ b,b≠g→w'.heap[b]?=w.heap[b]?
theorem lA {P:Program} {g:Nat} {T:TypeId} (o:Nat):∀ (vs:List Value) (i:Nat) (w:World) (xs:Array Value),w.heap[g]?=some (.cells xs T (0,0))→o+i+vs.length≤xs.size →
  (∀ v∈vs,v.oneCell'=true)→∃ w',(storeCells ⟨g,o,none⟩ vs i).run P w = .ok () w'∧w'.heap[g]?=some (.cells (j3 xs (o+i) vs) T (0,0))∧o3 w w' g:=by intro vs;induction vs with|nil=>intro i w xs hh _ _;exact⟨w,rfl,hh,rfl,rfl,rfl,rfl,fun _ _=>rfl⟩|cons v r ih =>intro i w xs hh hl h1;simp only [af] at hl;(have hc:w.cell? ⟨g,o+i,none⟩=some (xs[o+i]'(by omega)):=by rw [nQ hh,cd]);(have hf:w.frozen? ⟨g,o+i,none⟩=false:=by simp [World.frozen?,hh]);(have IJ:(w.setCell ⟨g,o+i,none⟩ v).heap[g]?=some (.cells (xs.setIfInBounds (o+i) v) T (0,0)):=by simp [World.setCell,arl,hh]);obtain⟨w',h2,h3,h4⟩:=ih (i+1) _ _ IJ (by simp;omega) (fun v hv=>h1 v (ct _ hv));refine⟨w',?_,by rw [j3];exact h3,h4.os,h4.tape,h4.output,by rw [h4.size];simp,fun b hb=>(h4.heap b hb).trans (Go.RowKit.Below.heap_setCell w _ v b hb)⟩;rw [storeCells];simp only [Sem.run_bind,add_lit];rw [run_store P w _ v .plain (h1 v (cA ..))];simp [stored,hc,hf,h2]
def Ee:V→Bool
 | .sc v=>v.oneCell'
 | .undef=>false
 | .agg _=>false
 | .eg _=>false
 | _=>true
def l4:V→Option (List V)
 | .agg cs=>if cs.all Ee then some cs else none
 | v=>if Ee v then some [v] else none
theorem Gc {E:Env} {c:V} {x:Value} (h:cY E c x) (ho:Ee c=true):x.oneCell'=true:=by cases h <;> first|rfl|exact ho|simp [Ee] at ho
theorem qI {E:Env} {v:V} {x:Value} {cs:List V} (h:cY E v x) (hc:l4 v=some cs):cU E cs x.cells.toList∧∀ y∈x.cells.toList,y.oneCell'=true:=by
 have key:∀ (cs:List V) (xs:List Value),cU E cs xs→cs.all Ee=true→∀ y∈xs,y.oneCell'=true:=by intro cs;induction cs with|nil=>intro xs h _ y hy;rw [h.of_nil] at hy;simp at hy|cons c r ih =>intro xs h ha y hy;obtain⟨x,ys,rfl,h1,h2⟩:=h.of_cons;simp only [cH,aL] at ha;(rcases cI.1 hy with rfl|hy);(·exact Gc h1 ha.1);exact ih ys h2 ha.2 y hy
 unfold l4 at hc;split at hc;·split at hc;(·rename_i uc dN;simp only [aF] at hc;subst hc;have:=h.cells (by simp) (by simp);exact⟨this,key _ _ this dN⟩);simp at hc
 split at hc;·rename_i dL qD;simp only [aF] at hc;subst hc;have h1:x.oneCell'=true:=Gc h qD;(have hx:x.cells = #[x]:=by cases x <;> first|rfl|simp [Value.oneCell'] at h1);rw [hx];exact⟨.cons h (.nil _),fun y hy=>by simp at hy;subst hy;exact h1⟩
 simp at hc
theorem de.Ef {E:Env} {w:World} {a:Act} {st:St} (hs:de E w a st) {g:Nat} (hf:∀ o,E.F ⟨g,o,none⟩=none) {ad:Addr} {x:Value} (hx:E.F ad=some x):ad.block≠g:=by
 intro he;have hc:=hs.F ad x hx;have K0:ad.spot=none:=by unfold World.cell? at hc;split at hc;(·split at hc;(·simp at hc);rename_i h;cases K0:ad.spot with|none=>rfl|some s=>simp [K0] at h);simp at hc
 have:ad=⟨g,ad.off,none⟩:=by cases ad;simp_all
 rw [this,hf] at hx;cases hx
theorem de.Ah {E:Env} {w w':World} {a:Act} {st:St} (hs:de E w a st) {b g e c:Nat} {B B':bx} (hm:st.mem[b]?=some B) (hh:B.held=true) (TL:B'.dZ=B.dZ) (hb:E.cC b B.dZ=some (g,e,c)) (hf:∀ o,E.F ⟨g,o,none⟩=none)
  (ho:o3 w w' g) (hB:kL E w' b B'):de E w' a { st with mem:=st.mem.set b B' }∧ic E w E w':=by
 have bL:b<st.mem.length:=(az.1 hm).1
 refine⟨⟨fun ad x hx=>?_,fun k v g' e' c' hk=>by rw [ho.size];exact hs.lt _ _ _ _ _ hk,fun k B1 hk=>?_,fun k hk=>hs.top k (by simpa using hk),fun k B1 hk v hv=>?_,hs.apart,hs.fr⟩,
  E.le_refl,fun k v g e c h=>.inl ⟨k,v,e,c,h⟩,fun _ _ h=>.inl h,ho.os,ho.tape,ho.output,by rw [ho.size];exact aB _,fun b' gD dL=>ho.heap b' fun e=>by subst e;exact dL _ _ _ _ hb⟩
 ·have dL:=hs.Ef hf hx;have:w'.heap[ad.block]?=w.heap[ad.block]?:=ho.heap _ dL;rw [← hs.F ad x hx];simp [World.cell?,this]
 ·rw [bX] at hk;by_cases kD:b=k;(·subst kD;simp only [if_true,bL] at hk;cases hk;exact hB);rw [if_neg kD] at hk;cases Om:B1.held with|false=>(cases B1 <;> first|exact hs.mem k _ hk|trivial|simp [bx.held] at Om)|true =>refine (hs.mem k B1 hk).mono E.le_refl (fun _ h=>h) (fun g' e' c' fK=>ho.heap _ fun e=>?_) fun _ _ _ _ _ h=>h;subst e;exact kD (hs.apart _ _ _ _ _ _ _ _ _ hb fK)
 dsimp only at hk;rw [bX] at hk;by_cases hqb:b=k;·subst hqb;simp only [if_true,bL] at hk;cases hk;exact hs.dZ b B hm v (by omega)
 rw [if_neg hqb] at hk;exact hs.dZ k B1 hk v hv
def kY:V→Bool
 | .gn=>true
 | .sc _=>true
 | .slice _=>true
 | .fq _=>true
 | .undef=>true
 | _=>false
theorem Eg {E:Env} {v:V} {x:Value} (h:cY E v x) (hp:kY v=true):cY E.pure v x:=by cases h with|undef=>exact .undef _ _|gn=>exact .gn _|sc=>exact .sc _ _|slice _ rows a cap ux ad xf ha mh hz hF h1 hR=>exact .slice _ _ _ _ ux ad xf ha mh hz hF h1 hR|fq _ cs ad xf hF hR=>exact .fq _ _ _ xf hF hR|_=>simp [kY] at hp
def setRow (row:V) (o:Nat) (new:List V):V :=
 match row with
 | .agg cs=>.agg (kC cs o new)
 | r=>match o,new with
  | 0,[c]=>c
  | _,_=>r
theorem Eh {row:V} {o:Nat} {new:List V} (ho:o+new.length≤row.cells.length) (qD:new.all Ee=true) (dL:new≠[]):(setRow row o new).cells=kC row.cells o new:=by cases row with|agg cs=>rfl|_ =>simp only [V.cells,af,ai] at ho ⊢;match new,dL with|[c],_ =>((obtain rfl:o=0:=by simp at ho;omega);simp only [cH,dS,aO] at qD;cases c <;> first|rfl|simp [Ee] at qD)|_ :: _ :: _,_=>simp at ho;omega
def nz (tt:Table) (mem:List bx) (T:TypeId) (p v:V):Option (List bx) :=
 match l4 v with
 | none=>none
 | some new =>
  if oX tt T=some new.length then
   match p with
   | .ptr b o=>match mem[b]? with
    | some (.box cs)=>if o+new.length≤cs.length then some (mem.set b (.box (kC cs o new))) else none
    | _=>none
   | .iv b v i o=>match mem[b]? with
    | some (.rows v' e rs)=>match rs[i]? with
     | some row=>if v'=v∧o+new.length≤row.cells.length∧new≠[]∧new.all kY=true∧new.all Ee=true then some (mem.set b (.rows v' e (rs.set i (setRow row o new)))) else none
     | none=>none
    | _=>none
   | _=>none
  else none
instance (new:List V):Decidable (new≠[]):=match new with|[]=>.isFalse (by simp)|_ :: _=>.isTrue (by simp)
theorem cU.pure {E:Env}:∀ {vs:List V} {xs:List Value},cU E vs xs→vs.all kY=true→cU E.pure vs xs
 | [],xs,h,_=>by rw [h.of_nil];exact .nil _
 | v :: vs,xs,h,hp=>by
  obtain⟨x,ys,rfl,h1,h2⟩:=h.of_cons
  simp only [cH,aL] at hp
  exact .cons (Eg h1 hp.1) (cU.pure h2 hp.2)
theorem vu {P:Program} {tt:Table} (ht:TT P tt) {E:Env} {w:World} {a:Act} {st:St} (hs:de E w a st) {T:TypeId} {p v:V} {x y:Value} {bS:List bx} (hp:cY E p x) (hv:cY E v y)
  (h:nz tt st.mem T p v=some bS):∃ w',(Instr.storeAt T x y).run P w = .ok () w'∧de E w' a { st with mem:=bS }∧ic E w E w':=by
 unfold nz at h;split at h;·simp at h
 rename_i new pC;obtain⟨hr,qD⟩:=qI hv pC;split at h
 ·rename_i kO;have hlen:y.cells.size=new.length:=by have:=hr.1;simp at this;exact this.symm
  have fj:∀ {g o:Nat} {xs:Array Value} {T':TypeId},w.heap[g]?=some (.cells xs T' (0,0))→o+new.length≤xs.size →
    ∃ w',(Instr.storeAt T (.pointer (some ⟨g,o,none⟩)) y).run P w = .ok () w'∧w'.heap[g]?=some (.cells (j3 xs o y.cells.toList) T' (0,0))∧o3 w w' g:=fun {g o xs T'} hh hle=>by
   obtain⟨w',h1,h2,h3⟩:=lA (P:=P) o y.cells.toList 0 w xs hh (by have:=hr.1;simp at this ⊢;omega) qD
   refine⟨w',?_,by simpa using h2,h3⟩
   unfold oX at kO
   split at kO
   ·rename_i i hi
    simp only [aF] at kO
    simp only [Instr.storeAt,Instr.sureAddr,Sem.run_bind,Sem.run_pure,Result.andThen_ok,storeVar,ht.sizeOf hi,hlen,kO,ne_eq,not_true_eq_false,if_false]
    exact h1
   simp at kO
  split at h;·rename_i b o;split at h;(·rename_i cs hm;split at h;(·rename_i hle;simp only [aF] at h;subst h;cases hp with|ptr _ _ _ g e c hb =>obtain⟨g',T',xs,gD,hh,CX,hf⟩:=hs.mem b _ hm;rw [hb] at gD;cases gD;obtain⟨w',h1,h2,h3⟩:=fj (o:=o) hh (by have:=CX.1;simp at this;omega);exact⟨w',h1,hs.Ah hm rfl rfl hb hf h3 ⟨g,T',_,hb,h2,yf _ _ _ _ _ hr CX,hf⟩⟩);simp at h);simp at h
  ·rename_i b vv i o;split at h;(·rename_i v' e rs hm;split at h;(·rename_i row pA;split at h;(·rename_i rV;obtain⟨rfl,hle,dL,CY,acN⟩:=rV;simp only [aF] at h;subst h;cases hp with|iv _ _ _ _ _ g e' c hb =>(rcases hs.mem b _ hm with ⟨rfl,-⟩|⟨g',T',xs,c',gD,hh,n7,o2,CX,hf⟩);(·simp at pA);rw [hb] at gD;cases gD;obtain⟨K5,hrc⟩:=CX i row pA;have hi:i<rs.length:=(az.1 pA).1;(have hmul:i*e+e≤xs.size:=by rw [n7,← nJ];exact lJ e (by omega));obtain⟨w',h1,h2,h3⟩:=fj (o:=i*e+o) hh (by omega);refine⟨w',h1,hs.Ah hm rfl rfl hb hf h3 (.inr ⟨g,T',_,c,hb,h2,by rw [l0];exact n7,by simpa using o2,?_,hf⟩)⟩;have hyl:y.cells.toList.length=new.length:=hr.1.symm;intro i' aii Gd;rw [bX] at Gd;by_cases hii:i=i';(·subst hii;simp only [if_true,hi] at Gd;cases Gd;have hc:=Eh hle acN dL;refine⟨by rw [hc,Ag];exact K5,fun j cc hj=>?_⟩;rw [hc,Gb _ _ _ _ hle] at hj;dsimp only;rw [kc _ _ _ _ (by rw [hyl];omega),hyl];by_cases pw:o≤j∧j<o+new.length;(·rw [if_pos pw] at hj;rw [if_pos ⟨by omega,by omega⟩];obtain⟨z,hz,hzr⟩:=(hr.pure CY).get hj;exact⟨z,by rw [← hz];congr 1;omega,qD z (aE hz),hzr⟩);rw [if_neg pw] at hj;rw [if_neg (by omega)];exact hrc j cc hj);rw [if_neg hii] at Gd;obtain⟨h5,h6⟩:=CX i' aii Gd;refine⟨h5,fun j cc hj=>?_⟩;obtain⟨z,hz,hz1,hzr⟩:=h6 j cc hj;(have II:j<e:=by rw [← h5];exact (az.1 hj).1);refine⟨z,?_,hz1,hzr⟩;dsimp only;rw [kc _ _ _ _ (by rw [hyl];omega),hyl,if_neg ?_];(·exact hz);intro pw;(rcases Nat.lt_or_gt_of_ne hii with bL|hgt);(·have:(i+1)*e≤i'*e:=lJ e bL;rw [nJ] at this;omega);have:(i'+1)*e≤i*e:=lJ e hgt;rw [nJ] at this;omega);simp at h);simp at h);simp at h
  simp at h
 simp at h
end Go.Eng
end
section
namespace Go.Eng
variable [bB]
open Go.RowKit (Below)
def vw (E:Env) (e:Nat) (rs:List V) (ys:Array Value):Prop:=ys.size=rs.length*e∧mE E e rs (fun o=>ys[o]?)
theorem Ai {i n j e:Nat} (hi:i<n) (hj:j<e):i*e+j<n*e:=by have:(i+1)*e≤n*e:=lJ e hi;rw [nJ] at this;omega
theorem CZ {P:Program} {E:Env} {w:World} {ad:Addr} {rows:List V} {size:Nat} (hz:∀ (i:Nat) (row:V),rows[i]?=some row→row.cells.length=size)
  (h:∀ (i:Nat) (row:V) (j:Nat) (c:V),rows[i]?=some row→row.cells[j]?=some c→∃ x,w.cell? (ad.add (i*size+j))=some x∧x.oneCell'=true∧cY E c x) :
  ∃ ys:Array Value,(loadCells ad (rows.length*size)).run P w = .ok ys w∧vw E size rows ys:=by
 let f:Nat→Value:=fun k=>(w.cell? (ad.add k)).getD default;have hf:∀ k,k<rows.length*size→w.cell? (ad.add k)=some (f k):=fun k hk=>by (have hs:0<size:=asf fun e=>by subst e;simp at hk);(have hi:k / size<rows.length:=by rwa [ass hs]);have hj:k % size<size:=arA _ hs;have pA:=aw hi;have o2:=hz _ _ pA;obtain⟨x,hx,-⟩:=h _ _ (k % size) _ pA (aw (by rw [o2];exact hj));rw [Nat.mul_comm,ar4] at hx;simp [f,hx]
 refine⟨((List.range (rows.length*size)).map f).toArray,run_loadCells w ad _ f hf,by simp,fun i row hi=>⟨hz i row hi,fun j c hj=>?_⟩⟩;obtain⟨x,hx,h1,hr⟩:=h i row j c hi hj;have TN:i<rows.length:=(az.1 hi).1;have II:j<size:=by rw [← hz i row hi];exact (az.1 hj).1
 refine⟨x,?_,h1,hr⟩;have:=Ai TN II;simp [this,f,hx]
def rowsOf (mem:List bx) (size:Nat):V→Option (List V)
 | .slice rows=>if gg rows 0 size=true then some rows else none
 | .ms b v s l=>match mem[b]? with
  | some (.rows v' e rs)=>if v'=v∧e=size∧s+l≤rs.length then some ((rs.drop s).take l) else none
  | some (.rP v' e rs)=>if v'=v∧e=size∧s+l≤rs.length then some ((rs.drop s).take l) else none
  | _=>none
 | .sc (.slice none 0 0)=>some []
 | _=>none
theorem zv {rs:List V} {s l i:Nat} {row:V} (h:((rs.drop s).take l)[i]?=some row):rs[s+i]?=some row:=by
 rw [kz] at h;split at h;·simpa using h
 simp at h
theorem kE {P:Program} {E:Env} {w:World} {a:Act} {st:St} (hs:de E w a st) {size:Nat} {v:V} {x:Value} {rows:List V} (hr:cY E v x) (h:rowsOf st.mem size v=some rows) :
  ∃ aa cap,x = .slice aa rows.length cap∧rows.length≤cap∧∃ ys:Array Value,(Builtin.firstCells size rows.length x).run P w = .ok ys w∧vw E.pure size rows ys:=by
 have Ei:∀ n,n=0→∃ ys:Array Value,(Builtin.firstCells size n (.slice none n 0)).run P w = .ok ys w∧vw E.pure size [] ys:=fun n hn=>by subst hn;exact⟨#[],rfl,by simp,fun i row hi=>by simp at hi⟩
 unfold rowsOf at h;split at h;·rename_i oi;split at h;(·rename_i xj;simp only [aF] at h;subst h;cases hr with|slice _ _ aa cap ux ad xf ha mh hz hF qD hR =>refine⟨aa,cap,rfl,mh,?_⟩;cases mY:oi with|nil =>(subst mY;cases aa with|none=>exact Ei 0 rfl|some a0=>exact⟨#[],by simp [Builtin.firstCells,loadCells,loadCellsFrom],by simp,fun i row hi=>by simp at hi⟩)|cons r0 rr =>(have dL:oi≠[]:=by simp [mY]);(have he:ux=size:=by unfold gg at xj;(have h0:oi[0]?=some r0:=by simp [mY]);rw [h0] at xj;simp only [beq_iff_eq] at xj;rw [← xj,hz 0 _ h0]);subst he;obtain rfl:=ha dL;rw [← mY];exact CZ (P:=P) hz fun i row j c hi hj=>⟨_,hs.F _ _ (hF i row j c hi hj),qD i row j c hi hj,hR i row j c hi hj⟩);simp at h
 ·rename_i b v s l
  have V1:∀ (rs:List V),s+l≤rs.length→rows=(rs.drop s).take l→(∀ g e c,E.cC b v=some (g,e,c)→e=size∧mE E.pure size rs (fun o=>w.cell? ⟨g,o,none⟩)) →
    ∃ aa cap,x = .slice aa rows.length cap∧rows.length≤cap∧∃ ys:Array Value,(Builtin.firstCells size rows.length x).run P w = .ok ys w∧vw E.pure size rows ys:=by
   intro rs hl mY hb
   have hlen:rows.length=l:=by rw [mY];simp;omega
   cases hr with
   | ja =>
    have:rows=[]:=cj.1 hlen
    subst this
    exact⟨none,0,rfl,aB _,Ei 0 rfl⟩
   | ms _ _ _ _ _ g e c aa cap fK uB Tg vf =>
    obtain⟨rfl,hrk⟩:=hb g e c fK
    rw [← hlen]
    refine⟨aa,cap,rfl,by omega,?_⟩
    by_cases n6:0<l
    ·obtain rfl:=uB n6
     refine CZ (P:=P) (fun i row hi=>?_) fun i row j c hi hj=>?_
     ·rw [mY] at hi;exact (hrk _ _ (zv hi)).1
     rw [mY] at hi
     obtain⟨x,hx,h1,h2⟩:=(hrk _ _ (zv hi)).2 j c hj
     exact⟨x,by rw [add_lit,← hx];congr 2;rw [jl];omega,h1,h2⟩
    have:rows=[]:=cj.1 (by omega)
    subst this
    cases aa with
    | none=>exact⟨#[],rfl,by simp,fun i row hi=>by simp at hi⟩
    | some a0=>exact⟨#[],by simp [Builtin.firstCells,loadCells,loadCellsFrom],by simp,fun i row hi=>by simp at hi⟩
  split at h;·rename_i v' e rs hm;split at h;(·rename_i hc;obtain⟨rfl,hc⟩:=hc;simp only [aF] at h;refine V1 rs hc.2 h.symm fun g e' c hb=>?_;(rcases hs.mem b _ hm with ⟨-,hn⟩|⟨g',T',xs,c',gD,hh,-,-,CX,-⟩);(·rw [hb] at hn;cases hn);rw [hb] at gD;cases gD;refine⟨hc.1,?_⟩;rw [hc.1] at CX;intro i row hi;obtain⟨h1,h2⟩:=CX i row hi;exact⟨h1,fun j c hj=>by dsimp only;rw [nQ hh];exact h2 j c hj⟩);simp at h
  ·rename_i v' e rs hm;split at h;(·rename_i hc;obtain⟨rfl,hc⟩:=hc;simp only [aF] at h;refine V1 rs hc.2 h.symm fun g e' c hb=>?_;(rcases hs.mem b _ hm with ⟨-,hn⟩|⟨g',c',gD,-,CX⟩);(·rw [hb] at hn;cases hn);rw [hb] at gD;cases gD;refine⟨hc.1,?_⟩;rw [hc.1] at CX;intro i row hi;obtain⟨h1,h2⟩:=CX i row hi;exact⟨h1,fun j c hj=>let ⟨x,hx,h⟩:=h2 j c hj;⟨x,hs.F _ _ hx,h⟩⟩);simp at h
  simp at h
 ·simp only [aF] at h;subst h;obtain rfl:=fu hr;exact⟨none,0,rfl,aB _,Ei 0 rfl⟩
 simp at h
def pZ:V→V
 | .sc (.slice none 0 0)=>.slice []
 | v=>v
theorem vz {E:Env} {v:V} {x:Value} (h:cY E v x):cY E (pZ v) x:=by
 unfold pZ;split;·obtain rfl:=fu h;exact .slice _ [] none 0 0 default (fun _ _=>default) (by simp) (by simp) (by simp) (by simp) (by simp) (by simp)
 exact h
def TO:V→V
 | .agg cs=>.agg (cs.map pZ)
 | v=>pZ v
theorem I3 {v:V} {cs:List V} (h:l4 v=some cs):(TO v).cells=cs.map pZ:=by
 unfold l4 at h;split at h;·split at h;(·simp only [aF] at h;subst h;rfl);simp at h
 rename_i dL;split at h;·simp only [aF] at h;subst h;(cases v <;> first|exact absurd rfl (dL _)|rfl|skip);rename_i v;simp only [TO,pZ,bT,jo];split <;> rfl
 simp at h
theorem cU.pZ {E:Env}:∀ {vs:List V} {xs:List Value},cU E vs xs→cU E (vs.map pZ) xs
 | [],xs,h=>h
 | v :: vs,xs,h=>by
  obtain⟨x,ys,rfl,h1,h2⟩:=h.of_cons
  exact .cons (vz h1) (cU.pZ h2)
def tc (size:Nat):List V→Option (List V)
 | []=>some []
 | v :: r=>match l4 v with
  | some cs=>if cs.length=size∧cs.all kY=true then (match tc size r with|some rs=>some (TO v :: rs)|none=>none) else none
  | none=>none
def rW:Nat→List (Nat×Operand)→Bool
 | _,[]=>true
 | k,(i,_) :: r=>i==k&&rW (k+1) r
theorem yg (off:Nat):∀ (l:List Value) (n:Nat) (cs:Array Value),(l.zipIdx n).foldl (fun cs (x:Value×Nat)=>cs.setIfInBounds (off+x.2) x.1) cs=j3 cs (off+n) l:=by intro l;induction l with|nil=>intro n cs;rfl|cons v r ih=>intro n cs;rw [List.zipIdx_cons,ew,ih,j3,mr]
theorem ON {E:Env} {size:Nat}:∀ (parts:List (Nat×Operand)) (k:Nat) (ev:Operand→V) (av:Operand→Value) (Z:Array Value) (rs:List V),(∀ p∈parts,cY E (ev p.2) (av p.2))→rW k parts=true →
  tc size (parts.map fun p=>ev p.2)=some rs→(k+parts.length)*size≤Z.size →
  ∃ Z',Instr.fill (fun i=>some (i*size,size)) Z (parts.map fun p=>(p.1,av p.2))=some Z'∧Z'.size=Z.size∧rs.length=parts.length∧(∀ o,o<k*size→Z'[o]?=Z[o]?) ∧
   mE E.pure size rs (fun o=>Z'[k*size+o]?):=by intro parts;induction parts with|nil =>intro k ev av Z rs _ _ hl _;simp only [jo,tc,aF] at hl;subst hl;exact⟨Z,rfl,rfl,rfl,fun _ _=>rfl,fun i row hi=>by simp at hi⟩|cons p r ih =>intro k ev av Z rs kF Mt hl kO;obtain⟨i,o⟩:=p;simp only [rW,aL,beq_iff_eq] at Mt;obtain⟨rfl,Mt⟩:=Mt;simp only [bT,tc] at hl;split at hl;(·rename_i cs mO;split at hl;(·rename_i hc;split at hl;(·rename_i mZ X2;simp only [aF] at hl;subst hl;obtain⟨hr,qD⟩:=qI (kF (i,o) (cA ..)) mO;(have V2:(av o).cells.size=size:=by have:=hr.1;simp at this;omega);simp only [af] at kO;(have hmul:i*size+size≤Z.size:=by have:(i+1)*size≤(i+(r.length+1))*size:=lJ _ (by omega);rw [nJ] at this;omega);obtain⟨Z',h1,h2,h3,h4,h5⟩:=ih (i+1) ev av (j3 Z (i*size) (av o).cells.toList) mZ (fun p hp=>kF p (ct _ hp)) Mt X2 (by rw [l0];rw [show i+1+r.length=i+(r.length+1) from by omega];exact kO);(have hlen:(av o).cells.toList.length=size:=by simpa using V2);(have K0:∀ q,(j3 Z (i*size) (av o).cells.toList)[q]?=if i*size≤q∧q<i*size+size then (av o).cells.toList[q-i*size]? else Z[q]?:=fun q=>by rw [kc _ _ _ _ (by rw [hlen];exact hmul),hlen]);refine⟨Z',?_,by rw [h2,l0],by simp [h3],fun q hq=>?_,fun q row hq=>?_⟩;(·simp only [bT,Instr.fill,V2];rw [if_neg (by simp;omega)];rw [← h1];congr 1;rw [← arN,asp];exact yg (i*size) (av o).cells.toList 0 Z);(·rw [h4 q (by rw [nJ];omega),K0,if_neg (by omega)]);cases q with|zero =>simp only [aJ,aF] at hq;subst hq;rw [I3 mO];refine⟨by simpa using hc.1,fun j c hj=>?_⟩;(have II:j<size:=by rw [← hc.1];simpa using (az.1 hj).1);obtain⟨x,hx,OL⟩:=(hr.pure hc.2).pZ.get hj;refine⟨x,?_,qD x (aE hx),OL⟩;dsimp only;rw [Nat.zero_mul,cr,h4 _ (by rw [nJ];omega),K0,if_pos ⟨by omega,by omega⟩,← hx];congr 1;omega|succ q =>simp only [cp] at hq;obtain⟨h6,h7⟩:=h5 q row hq;refine⟨h6,fun j c hj=>?_⟩;obtain⟨x,hx,ry,OL⟩:=h7 j c hj;refine⟨x,?_,ry,OL⟩;dsimp only at hx ⊢;rw [← hx];congr 1;rw [nJ,nJ];omega);simp at hl);simp at hl);simp at hl
def xk (tt:Table) (T:TypeId) (len:Nat) (parts:List (Nat×Operand)) (ev:Operand→V):Option (Nat×List V) :=
 match j2 tt T with
 | some e=>match oX tt e with
  | some size=>if rW 0 parts=true∧parts.length=len∧len*size≤65536 then (match tc size (parts.map fun p=>ev p.2) with|some rs=>some (size,rs)|none=>none) else none
  | none=>none
 | none=>none
theorem Ej {P:Program} {tt:Table} (ht:TT P tt) {E:Env} {w:World} {a:Act} {ev:Operand→V} {T:TypeId} {len size:Nat} {parts:Array (Nat×Operand)} {rs:List V} (gE:∀ p∈parts.toList,cY E (ev p.2) (a.eval p.2))
  (h:xk tt T len parts.toList ev=some (size,rs)) :
  ∃ (Z:Array Value) (e:TypeId),(Instr.buildSlice T len (parts.map fun (i,x)=>(i,a.eval x))).run P w = .ok (.slice (some ⟨w.heap.size,0,none⟩) len len) (w.alloc (.cells Z e (0,0)))∧Z.size=len*size∧rs.length=len∧mE E.pure size rs (fun o=>Z[o]?):=by unfold xk j2 oX at h;cases hT:tt T with|none=>rw [hT] at h;simp at h|some iT =>rw [hT] at h;simp only at h;cases he:iT.elem with|none=>rw [he] at h;simp at h|some e =>rw [he] at h;simp only at h;cases hE:tt e with|none=>rw [hE] at h;simp at h|some ie =>rw [hE] at h;simp only at h;split at h;(·rename_i hc;obtain⟨Mt,hlen,anD⟩:=hc;split at h;(·rename_i mZ w9;simp only [aF,dy] at h;obtain⟨rfl,rfl⟩:=h;obtain⟨d,hd,-,ve,-⟩:=ht.desc T iT hT;obtain rfl:=ve e he;obtain⟨info,ud,On,-,z,hz,C0⟩:=ht.size e ie hE;(have hzero:∀ w':World,(zeroValue e).run P w' = .ok z w':=fun w'=>by simp [zeroValue,fp ud,hz]);obtain⟨zc,hzc⟩:∃ zc:Array Value,zc=if len*ie.size=0 then #[] else z.cells:=⟨_,rfl⟩;obtain⟨Z',h1,h2,h3,-,h5⟩:=ON (size:=ie.size) parts.toList 0 ev a.eval ((Array.range (len*ie.size)).map (zc[· % zc.size]!)) mZ gE Mt w9 (by simp [hlen]);refine⟨Z',e,?_,by simpa using h2,by omega,by simpa using h5⟩;(have uC:(parts.map fun (i,x)=>(i,a.eval x)).toList=parts.toList.map fun p=>(p.1,a.eval p.2):=by simp);unfold Instr.buildSlice;simp only [Sem.run_bind,bp hd,Result.andThen_ok,ht.sizeOf hE];rw [if_neg (by omega)];by_cases h0:len*ie.size=0;(·simp only [h0,if_true,Sem.run_pure,Result.andThen_ok,uC];rw [if_pos h0] at hzc;subst hzc;rw [h0] at h1;simp only [Sem.run_bind,Sem.run_pure,Result.andThen_ok,uC];simp only [h1];simp [newRow]);simp only [h0,if_false,Sem.run_bind,hzero,Sem.run_pure,Result.andThen_ok,uC];rw [if_neg h0] at hzc;subst hzc;simp only [h1];simp [newRow]);simp at h);simp at h
end Go.Eng
end
section
namespace Go.Eng
variable [bB]
open Go.RowKit (Below)
section
variable {P:Program} {w:World}
theorem o4 {t u ty e e':TypeId} {i:TypeInfo} (ht:P.underlying t=some (.slice e)) (hu:P.underlying u=some (.slice e')) (hi:P.info? e=some i) (c:Nat) (aa:Option Addr) (news:Array Value)
  (hf:(Builtin.firstCells i.size 0 (.slice aa 0 c)).run P w = .ok news w) :
  (Builtin.append_ #[t,u] ty #[.slice none 0 0,.slice aa 0 c]).run P w = .ok (.slice none 0 0) w:=by simp [Builtin.append_,bp ht,bp hu,gw hi,Builtin.lenOf,hf]
theorem Aj {t u ty e e':TypeId} {i:TypeInfo} {z:Value} (ht:P.underlying t=some (.slice e)) (hu:P.underlying u=some (.slice e')) (hi:P.info? e=some i) (hz:i.zero=some z) (base:Option Addr) (kZ gZ n c:Nat)
  (aa:Option Addr) (OO news:Array Value) (Mu:(Builtin.firstCells i.size kZ (.slice base kZ gZ)).run P w.drew = .ok OO w.drew) (hf:(Builtin.firstCells i.size n (.slice aa n c)).run P w.drew = .ok news w.drew)
  (hg:gZ<kZ+n) (h63:((kZ+n:Nat):Int)≤9223372036854775807) (I4:Builtin.nextslicecap (kZ+n) gZ*i.bytes≤281474976710656) :
  (Builtin.append_ #[t,u] ty #[.slice base kZ gZ,.slice aa n c]).run P w =
   .ok (.slice (some ⟨w.heap.size,0,none⟩) (kZ+n) (grownCap w (kZ+n) gZ e))
    (w.drew.alloc (.cells (OO++news++Builtin.zeroCells z.cells (grownCap w (kZ+n) gZ e-(kZ+n))) e)):=by
 have hn:¬ (kZ+n≤gZ):=by omega
 have X3:¬ (9223372036854775807<((kZ:Int)+(n:Int))):=by omega
 have X4:¬ (281474976710656<Builtin.nextslicecap (kZ+n) gZ*i.bytes):=by omega
 simp [Builtin.append_,bp ht,bp hu,fp hi,gw hi,zeroValue,hz,Builtin.lenOf,hn,X3,X4,Question.forced,hf,Mu,newRow,grownCap]
end
structure Ek (P:Program) (u:TypeId) (z:Value) (n:Nat):Prop where
 len:Builtin.lenOf z=pure n
 ty:P.underlying u=some .string∨∃ e,P.underlying u=some (.slice e)
section
variable {P:Program} {w:World}
theorem y0 {t u ty e:TypeId} {i:TypeInfo} (ht:P.underlying t=some (.slice e)) (hi:P.info? e=some i) (g kZ gZ n:Nat) {z:Value} (hu:Ek P u z n) (news:Array Value)
  (hf:(Builtin.firstCells i.size n z).run P w = .ok news w) (vF:kZ+n≤gZ) {w':World} (oN:(storeCells ⟨g,kZ*i.size,none⟩ news.toList).run P w = .ok () w') :
  (Builtin.append_ #[t,u] ty #[.slice (some ⟨g,0,none⟩) kZ gZ,z]).run P w = .ok (.slice (some ⟨g,0,none⟩) (kZ+n) gZ) w':=by obtain⟨hl,hu⟩:=hu;rcases hu with hu|⟨_,hu⟩ <;> simp [Builtin.append_,bp ht,bp hu,gw hi,hl,vF,hf,add_lit,oN]
theorem oj {t u ty e:TypeId} {i:TypeInfo} (ht:P.underlying t=some (.slice e)) (hi:P.info? e=some i) {z:Value} (hu:Ek P u z 0) (news:Array Value)
  (hf:(Builtin.firstCells i.size 0 z).run P w = .ok news w) :
  (Builtin.append_ #[t,u] ty #[.slice none 0 0,z]).run P w = .ok (.slice none 0 0) w:=by obtain⟨hl,hu⟩:=hu;rcases hu with hu|⟨_,hu⟩ <;> simp [Builtin.append_,bp ht,bp hu,gw hi,hl,hf]
theorem nA {t u ty e:TypeId} {i:TypeInfo} {zz:Value} (ht:P.underlying t=some (.slice e)) (hi:P.info? e=some i) (hz:i.zero=some zz) (base:Option Addr) (kZ gZ n:Nat)
  {z:Value} (hu:Ek P u z n) (OO news:Array Value) (Mu:(Builtin.firstCells i.size kZ (.slice base kZ gZ)).run P w.drew = .ok OO w.drew) (hf:(Builtin.firstCells i.size n z).run P w.drew = .ok news w.drew)
  (hg:gZ<kZ+n) (h63:((kZ+n:Nat):Int)≤9223372036854775807) (I4:Builtin.nextslicecap (kZ+n) gZ*i.bytes≤281474976710656) :
  (Builtin.append_ #[t,u] ty #[.slice base kZ gZ,z]).run P w =
   .ok (.slice (some ⟨w.heap.size,0,none⟩) (kZ+n) (grownCap w (kZ+n) gZ e))
    (w.drew.alloc (.cells (OO++news++Builtin.zeroCells zz.cells (grownCap w (kZ+n) gZ e-(kZ+n))) e)):=by
 have hn:¬ (kZ+n≤gZ):=by omega
 have X3:¬ (9223372036854775807<((kZ:Int)+(n:Int))):=by omega
 have X4:¬ (281474976710656<Builtin.nextslicecap (kZ+n) gZ*i.bytes):=by omega
 obtain⟨hl,hu⟩:=hu;rcases hu with hu|⟨_,hu⟩ <;> simp [Builtin.append_,bp ht,bp hu,fp hi,gw hi,zeroValue,hz,hl,hn,X3,X4,Question.forced,hf,Mu,newRow,grownCap]
end
def j4 (s:ByteArray):List V:=s.data.toList.map fun b=>.sc (.int .u8 (b.toNat:Int))
def rX (tt:Table) (mem:List bx) (u:TypeId) (size:Nat) (x:V):Option (List V) :=
 match tt u with
 | some iu=>match iu.elem with
  | some _=>rowsOf mem size x
  | none=>match x with
   | .sc (.string s)=>if uy iu.zero=true∧iu.agg=false∧size=1 then some (j4 s) else none
   | _=>none
 | none=>none
theorem yh {P:Program} {tt:Table} (ht:TT P tt) {E:Env} {w:World} {a:Act} {st:St} (hs:de E w a st) {u:TypeId} {size:Nat} {x:V} {z:Value} {rows:List V} (hr:cY E x z) (h:rX tt st.mem u size x=some rows) :
  Ek P u z rows.length∧∃ ys:Array Value,(Builtin.firstCells size rows.length z).run P w = .ok ys w∧vw E.pure size rows ys:=by
 unfold rX at h;split at h;·rename_i iu hU;split at h;(·rename_i e' he;obtain⟨aa,cap,rfl,-,ys,h1,h2⟩:=kE (P:=P) hs hr h;obtain⟨d,hd,-,ve,-⟩:=ht.desc u iu hU;exact⟨⟨rfl,.inr ⟨e',by rw [hd,ve e' he]⟩⟩,ys,h1,h2⟩);split at h;(·rename_i s;split at h;(·rename_i hc;obtain⟨hz,hag,rfl⟩:=hc;simp only [aF] at h;subst h;obtain rfl:=fu hr;(have kO:(j4 s).length=s.size:=by unfold j4;rw [au,gb];rfl);refine⟨⟨by rw [kO];rfl,.inl (ht.str u iu hU hz hag)⟩,s.data.map fun b=>.int .u8 b.toNat,?_,?_,?_⟩;(·rw [kO];simp only [Builtin.firstCells];rw [show s.extract 0 s.size=s from ByteArray.extract_zero_size];rfl);(·simp [j4]);intro i row hi;unfold j4 at hi;rw [ak,dQ] at hi;cases hb:s.data[i]? with|none=>rw [hb] at hi;simp at hi|some b =>rw [hb] at hi;simp only [cx,aF] at hi;subst hi;refine⟨rfl,fun j c hj=>?_⟩;cases j with|succ j=>simp [V.cells] at hj|zero =>simp only [V.cells,aJ,aF] at hj;subst hj;refine⟨.int .u8 (b.toNat:Int),?_,rfl,.sc _ _⟩;dsimp only;rw [rN,jm,arO,hb];rfl);cases h);cases h
 cases h
def jb (mem:List bx) (size:Nat):V→Option (Option (Nat×Nat)×List V)
 | .sc (.slice none 0 0)=>some (none,[])
 | .full rows=>if gg rows 0 size=true then some (none,rows) else none
 | .ms b v 0 l=>match mem[b]? with
  | some (.rows v' e rs)=>if v'=v∧e=size∧rs.length=l then some (some (b,v),rs) else none
  | _=>none
 | _=>none
def Ge:V→List V→Bool
 | .full _,[]=>false
 | _,_=>true
theorem Ak (b v s l:Nat) (xs:List V):Ge (.ms b v s l) xs=true:=rfl
theorem OP (v:Value) (xs:List V):Ge (.sc v) xs=true:=rfl
theorem I5 (v x:V) (xs:List V):Ge v (x :: xs)=true:=by cases v <;> rfl
def fh (tt:Table) (mem:List bx) (ts:List TypeId) (s x:V):Option (Nat×Option (Nat×Nat)×List V) :=
 match ts with
 | [t,u]=>match tt t with
  | some it=>match it.elem with
   | some e=>match tt e with
     | some i =>
      if 0<i.size∧i.bytes≤4096∧i.zero.length=i.size then
       match jb mem i.size s with
       | some (rY,rs)=>match rX tt mem u i.size x with
        | some xs=>if rs.length+xs.length≤34359738368 then (if Ge s xs=true then some (i.size,rY,rs++xs) else none) else none
        | none=>none
       | none=>none
      else none
     | none=>none
   | none=>none
  | none=>none
 | _=>none
def eM (mem:List bx) (key size:Nat) (rows:List V):Option (Nat×Nat)→List bx×V
 | none=>(dm mem key (.rows 0 size rows),.ms key 0 0 rows.length)
 | some (b,v)=>(mem.set b (.rows (v+1) size rows),.ms b (v+1) 0 rows.length)
theorem de.renew {E:Env} {w w':World} {a:Act} {st:St} (hs:de E w a st) {b v e0 g e c:Nat} {rs rows:List V} (hm:st.mem[b]?=some (.rows v e0 rs)) (hF:∀ ad x,E.F ad=some x→w'.cell? ad=some x) (kO:w.heap.size≤w'.heap.size)
  (hg:g<w'.heap.size) (X5:∀ k B',k≠b→st.mem[k]?=some B'→B'.held=true→∀ g' e' c',E.cC k B'.dZ=some (g',e',c')→w'.heap[g']?=w.heap[g']?∧g'≠g)
  (hB:kL (E.with b (v+1) (g,e,c)) w' b (.rows (v+1) e rows)) (zw:∀ k v' e' c',E.cC k v'=some (g,e',c')→k=b):de (E.with b (v+1) (g,e,c)) w' a { st with mem:=st.mem.set b (.rows (v+1) e rows) }:=by
 have hn:∀ v',v<v'→E.cC b v'=none:=fun v' Ab=>hs.dZ b _ hm v' Ab;have hle:E.le (E.with b (v+1) (g,e,c)):=Env.mQ (hn _ (oM v)) _;have ft:(E.with b (v+1) (g,e,c)).cC b (v+1)=some (g,e,c):=if_pos ⟨rfl,rfl⟩;have gY:∀ k v',¬ (k=b∧v'=v+1)→(E.with b (v+1) (g,e,c)).cC k v'=E.cC k v':=fun k v' dL=>if_neg dL;have ua:∀ k v',k≠b→(E.with b (v+1) (g,e,c)).cC k v'=E.cC k v':=fun k v' dL=>gY k v' fun h=>dL h.1;have bL:b<st.mem.length:=(az.1 hm).1;have kX:∀ (k:Nat) (B:bx),(st.mem.set b (.rows (v+1) e rows))[k]?=some B→(k=b∧B = .rows (v+1) e rows)∨(k≠b∧st.mem[k]?=some B):=fun k B hk=>by rw [bX] at hk;by_cases kD:b=k;(·subst kD;simp only [if_true,bL] at hk;cases hk;exact .inl ⟨rfl,rfl⟩);rw [if_neg kD] at hk;exact .inr ⟨fun e=>kD e.symm,hk⟩
 refine⟨hF,fun k v' g' e' c' hb=>?_,fun k B hk=>?_,fun k hk v'=>?_,fun k B hk v' Ab=>?_,fun k k' v1 v2 g' e1 c1 e2 c2 h5 h6=>?_,hs.fr.mono hle⟩;·by_cases hq:k=b∧v'=v+1;(·obtain⟨rfl,rfl⟩:=hq;rw [ft] at hb;cases hb;exact hg);rw [gY k v' hq] at hb;exact rm (hs.lt _ _ _ _ _ hb) kO
 ·(rcases kX k B hk with ⟨rfl,rfl⟩|⟨kD,lY⟩);(·exact hB);cases Om:B.held with|false =>(have:=hs.mem k B lY;cases B with|hole=>(exact fun v'=>by rw [ua k v' kD];exact this v')|dead=>trivial|_=>simp [bx.held] at Om)|true=>exact (hs.mem k B lY).mono hle (fun v' h=>by rw [ua k v' kD];exact h) (fun g' e' c' fK=>(X5 k B kD lY Om g' e' c' fK).1) fun _ _ _ _ _ h=>h
 ·(have lY:st.mem.length≤k:=by simpa using hk);rw [ua k v' (by omega)];exact hs.top k lY v'
 ·(rcases kX k B hk with ⟨rfl,rfl⟩|⟨kD,lY⟩);(·have:v+1<v':=Ab;rw [gY k v' (by omega)];exact hn v' (by omega));rw [ua k v' kD];exact hs.dZ k B lY v' Ab
 by_cases hq:k=b∧v1=v+1 <;> by_cases Tl:k'=b∧v2=v+1;·rw [hq.1,Tl.1]
 ·obtain⟨rfl,rfl⟩:=hq;rw [ft] at h5;cases h5;rw [gY k' _ Tl] at h6;exact (zw _ _ _ _ h6).symm
 ·obtain⟨rfl,rfl⟩:=Tl;rw [ft] at h6;cases h6;rw [gY k _ hq] at h5;exact zw _ _ _ _ h5
 rw [gY k _ hq] at h5;rw [gY k' _ Tl] at h6;exact hs.apart _ _ _ _ _ _ _ _ _ h5 h6
theorem de.Gf {E:Env} {w:World} {a:Act} {st:St} (hs:de E w a st) {b v e0 e:Nat} {rs:List V} (hm:st.mem[b]?=some (.rows v e0 rs)):de E w a { st with mem:=st.mem.set b (.rows (v+1) e []) }:=by
 have hn:∀ v',v<v'→E.cC b v'=none:=fun v' Ab=>hs.dZ b _ hm v' Ab;have bL:b<st.mem.length:=(az.1 hm).1;have kX:∀ (k:Nat) (B:bx),(st.mem.set b (.rows (v+1) e []))[k]?=some B→(k=b∧B = .rows (v+1) e [])∨(k≠b∧st.mem[k]?=some B):=fun k B hk=>by rw [bX] at hk;by_cases kD:b=k;(·subst kD;simp only [if_true,bL] at hk;cases hk;exact .inl ⟨rfl,rfl⟩);rw [if_neg kD] at hk;exact .inr ⟨fun e=>kD e.symm,hk⟩
 refine⟨hs.F,hs.lt,fun k B hk=>?_,fun k hk v'=>hs.top k (by simpa using hk) v',fun k B hk v' Ab=>?_,hs.apart,hs.fr⟩;·(rcases kX k B hk with ⟨rfl,rfl⟩|⟨kD,lY⟩);(·exact .inl ⟨rfl,hn _ (oM v)⟩);exact hs.mem k B lY
 rcases kX k B hk with ⟨rfl,rfl⟩|⟨kD,lY⟩
 ·exact hn v' (Nat.lt_of_succ_lt Ab)
 exact hs.dZ k B lY v' Ab
theorem mR {E:Env} {e:Nat} {rs xs:List V} {A B C:Array Value} (h1:vw E e rs A) (h2:vw E e xs B):mE E e (rs++xs) (fun o=>(A++B++C)[o]?):=by
 intro i row hi;rw [oV] at hi;split at hi;·rename_i bL;obtain⟨h3,h4⟩:=h1.2 i row hi;refine⟨h3,fun j c hj=>?_⟩;obtain⟨x,hx,hr⟩:=h4 j c hj;dsimp only at hx;have X6:i*e+j<A.size:=(dO.1 hx).1;refine⟨x,?_,hr⟩;dsimp only;rw [asg,ar1 X6,hx]
 rename_i gq;obtain⟨h3,h4⟩:=h2.2 (i-rs.length) row hi;refine⟨h3,fun j c hj=>?_⟩;obtain⟨x,hx,hr⟩:=h4 j c hj;dsimp only at hx;have X6:(i-rs.length)*e+j<B.size:=(dO.1 hx).1;refine⟨x,?_,hr⟩;dsimp only;have hmul:i*e=A.size+(i-rs.length)*e:=by rw [h1.1,← jl];congr 1;omega
 rw [asg,asB (by omega),ar1 (by omega),← hx];congr 1;omega
theorem El {E:Env} {b v s l:Nat} {x:Value} (h:cY E (.ms b v s l) x):(l=0∧x = .slice none 0 0) ∨
  ∃ g e c a cap,x = .slice a l cap∧E.cC b v=some (g,e,c)∧(0<l→a=some ⟨g,s*e,none⟩)∧(s=0→a=some ⟨g,0,none⟩∧cap=c)∧(l≤cap∧s+cap=c∧(0<cap→a=some ⟨g,s*e,none⟩)):=by cases h with|ja=>exact .inl ⟨rfl,rfl⟩|ms _ _ _ _ _ g e c a cap hb hl h0 hc=>exact .inr ⟨g,e,c,a,cap,rfl,hb,hl,h0,hc⟩
theorem yi {E:Env} {e:Nat} {xs:List V} {A:Array Value} (nS:0<e) (h:vw E e xs A):∀ v∈A.toList,v.oneCell'=true:=by
 intro v hv;obtain⟨q,hq,rfl⟩:=List.mem_iff_getElem.1 hv;have Tl:q<xs.length*e:=by rw [← h.1];simpa using hq
 have hiq:q / e<xs.length:=by rwa [ass nS]
 have pA:=aw hiq;obtain⟨ail,p8⟩:=h.2 _ _ pA;obtain⟨vv,X7,IK,-⟩:=p8 (q % e) _ (aw (by rw [ail];exact arA _ nS));dsimp only at X7;rw [Nat.mul_comm,ar4] at X7;have:A.toList[q]=vv:=by (have mi:q<A.size:=by simpa using hq);rw [cd mi] at X7;simpa using X7
 rw [this];exact IK
theorem pD {P:Program} {tt:Table} (ht:TT P tt) {E:Env} {w:World} {a:Act} {st:St} (hs:de E w a st) {ts:Array TypeId} {ty:TypeId} {s x:V} {y z:Value} {size:Nat} {rY:Option (Nat×Nat)} {rows:List V} {key:Nat}
  (hk:iZ st.mem key) (uD:cY E s y) (OL:cY E x z) (h:fh tt st.mem ts.toList s x=some (size,rY,rows)) :
  ∃ v w' E',(Builtin.append_ ts ty #[y,z]).run P w = .ok v w'∧de E' w' a { st with mem:=(eM st.mem key size rows rY).1 }∧ic E w E' w'∧cY E' (eM st.mem key size rows rY).2 v:=by
 unfold fh at h;split at h
 ·rename_i t u zy;obtain rfl:ts = #[t,u]:=by rw [← cE (xs:=ts),zy]
  split at h
  ·rename_i it hT;split at h
   ·rename_i e he
    first
    |skip
     split at h
     ·rename_i i hE
      split at h
      ·rename_i hc
       obtain⟨nS,Al,C0⟩:=hc
       split at h
       ·rename_i anH rs nM
        split at h
        ·rename_i xs n7
         split at h
         ·rename_i hlen
          split at h
          case isFalse=>cases h
          rename_i aim
          simp only [aF,dy] at h
          obtain⟨rfl,rfl,rfl⟩:=h
          obtain⟨d,hd,-,ve,-⟩:=ht.desc t it hT
          obtain rfl:=ve e he
          obtain⟨info,ud,On,TP,z0,OQ,hz1⟩:=ht.size e i hE
          have OS:z0.cells.size=info.size:=by rw [On,← C0,← hz1];simp
          rw [← On] at n7 nM nS ⊢
          rw [← TP] at Al
          have V3:de E w.drew a st:=hs.drew
          obtain⟨IL,xA,ry,td⟩:=yh ht hs OL n7
          obtain⟨-,xB,hx3,X8⟩:=yh ht V3 OL n7
          have I4:∀ gZ,gZ<rs.length+xs.length→Builtin.nextslicecap (rs.length+xs.length) gZ*info.bytes≤281474976710656:=fun gZ bL =>
           growslice_fits bL (fX (ar2 hlen Al) (by decide))
          have K5:(rs++xs).length=rs.length+xs.length:=by simp
          have gq:∀ gZ,rs.length+xs.length≤grownCap w (rs.length+xs.length) gZ e:=fun gZ=>grownCap_ge w (rs.length+xs.length) gZ e
          have rZ:∀ (gZ:Nat) (A:Array Value),vw E.pure info.size rs A→(A++xB++Builtin.zeroCells z0.cells (grownCap w (rs.length+xs.length) gZ e-(rs.length+xs.length))).size=grownCap w (rs.length+xs.length) gZ e*info.size:=fun gZ A hrA=>by
           simp only [acH,size_zeroCells,OS,hrA.1,X8.1,← jl]
           congr 1;have:=gq gZ;omega
          unfold jb at nM
          split at nM
          ·
           simp only [aF,dy] at nM
           obtain⟨rfl,rfl⟩:=nM
           obtain rfl:=fu uD
           by_cases h0:xs.length=0
           ·have acR:xs=[]:=cj.1 h0
            subst acR
            exact⟨_,w,E,oj (ty:=ty) hd ud IL xA ry,hs.TK hk info.size,ic.refl E w,.ja _ _ _ _⟩
           have fj:=nA (ty:=ty) hd ud OQ none 0 0 xs.length IL #[] xB rfl hx3 (by omega) (by omega) (I4 0 (by simp;omega))
           obtain⟨E',h5,h6,h7⟩:=de.vt V3 (key:=key) hk (xs := #[]++xB++Builtin.zeroCells z0.cells (grownCap w (([]:List V).length+xs.length) 0 e-(([]:List V).length+xs.length))) (rs:=[]++xs) (e:=info.size)
            (c:=grownCap w (([]:List V).length+xs.length) 0 e) e (rZ 0 #[] ⟨by simp,fun i row hi=>by simp at hi⟩) (by rw [K5];exact gq 0) (mR ⟨by simp,fun i row hi=>by simp at hi⟩ X8)
           refine⟨_,_,E',fj,h5,(ic.drew E w).trans h6,?_⟩
           simp only [eM]
           rw [K5] at h7 ⊢
           exact h7
          ·
           rename_i oi
           split at nM
           case isFalse=>cases nM
           rename_i xj
           simp only [aF,dy] at nM
           obtain⟨rfl,rfl⟩:=nM
           have KZ:0<xs.length:=by
            cases xs with
            | nil=>simp [Ge] at aim
            | cons _ _=>simp
           cases uD with
           | full _ _ sa uD =>
           have X0:rowsOf st.mem info.size (.slice oi)=some oi:=by simp only [rowsOf];rw [if_pos xj]
           obtain⟨sa',sc,heq,hsc,A,FV,Gg⟩:=kE (P:=P) V3 uD X0
           simp only [Value.slice.injEq] at heq
           obtain⟨rfl,-,rfl⟩:=heq
           have fj:=nA (ty:=ty) hd ud OQ sa oi.length oi.length xs.length IL A xB FV hx3 (by omega) (by omega) (I4 _ (by omega))
           obtain⟨E',h5,h6,h7⟩:=de.vt V3 (key:=key) hk (xs:=A++xB++Builtin.zeroCells z0.cells (grownCap w (oi.length+xs.length) oi.length e-(oi.length+xs.length))) (rs:=oi++xs) (e:=info.size)
            (c:=grownCap w (oi.length+xs.length) oi.length e) e (rZ oi.length A Gg) (by rw [K5];exact gq _) (mR Gg X8)
           refine⟨_,_,E',fj,h5,(ic.drew E w).trans h6,?_⟩
           simp only [eM]
           rw [K5] at h7 ⊢
           exact h7
          ·rename_i b v l
           split at nM
           ·rename_i v' eb mZ hm
            split at nM
            ·rename_i xl
             obtain⟨rfl,rfl,Mv⟩:=xl
             simp only [aF,dy] at nM
             obtain⟨rfl,rfl⟩:=nM
             have X0:rowsOf st.mem info.size (.ms b v' 0 l)=some mZ:=by
              simp [rowsOf,hm,Mv]
              rw [← Mv];simp
             obtain⟨sa,sc,rfl,hsc,A,FV,Gg⟩:=kE (P:=P) V3 uD X0
             simp only [eM]
             by_cases vF:mZ.length+xs.length≤sc
             ·
              rcases El uD with ⟨n6,OT⟩|⟨g,eb',c,sa',sc',OT,hb,hl,Tg,vf⟩
              ·simp only [Value.slice.injEq] at OT
               obtain⟨rfl,ain,rfl⟩:=OT
               have KZ:xs=[]:=cj.1 (by omega)
               have Ct:mZ=[]:=cj.1 (by omega)
               subst KZ;subst Ct
               exact⟨_,w,E,oj (ty:=ty) hd ud IL xA ry,hs.Gf hm,ic.refl E w,.ja _ _ _ _⟩
              simp only [Value.slice.injEq] at OT
              obtain⟨rfl,-,rfl⟩:=OT
              obtain⟨rfl,hce⟩:=Tg rfl
              have aio:=hce.symm
              subst aio
              rcases hs.mem b _ hm with ⟨-,hn⟩|⟨g',T',cur,c',gD,hh,mO,o2,CX,hf⟩
              ·rw [hb] at hn;cases hn
              rw [hb] at gD;cases gD
              have Am:mZ.length*info.size+xA.toList.length≤cur.size:=by
               have:=td.1
               simp only [gb]
               rw [this,mO,← jl];exact lJ _ vF
              obtain⟨w',oN,IJ,Cu⟩:=lA (P:=P) (g:=g) (T:=T') (mZ.length*info.size) xA.toList 0 w cur hh (by simpa using Am) (yi nS td)
              have fj:=y0 (ty:=ty) hd ud g mZ.length c xs.length IL xA ry vF oN
              have hle:E.le (E.with b (v'+1) (g,info.size,c)):=Env.mQ (hs.dZ b _ hm _ (oM v')) _
              have ft:(E.with b (v'+1) (g,info.size,c)).cC b (v'+1)=some (g,info.size,c):=if_pos ⟨rfl,rfl⟩
              refine⟨_,w',E.with b (v'+1) (g,info.size,c),fj,hs.renew hm (fun ad y hy=>?_) (by rw [Cu.size];exact aB _) (by rw [Cu.size];exact hs.lt _ _ _ _ _ hb) (fun k B' kD lY IN g' e' c' fK=>?_) ?_ (fun k v2 e2 c2 h=>hs.apart _ _ _ _ _ _ _ _ _ h hb),
               ⟨hle,fun k q g' e' c' kD=>?_,fun ad y hy=>.inl hy,Cu.os,Cu.tape,Cu.output,by rw [Cu.size];exact aB _,fun b' gD dL=>Cu.heap b' fun e=>by subst e;exact dL _ _ _ _ hb⟩,?_⟩
              ·have dL:=hs.Ef hf hy
               rw [← hs.F ad y hy];simp [World.cell?,Cu.heap _ dL]
              ·have hgg:g'≠g:=fun e=>by
                subst e
                exact kD (hs.apart _ _ _ _ _ _ _ _ _ fK hb)
               exact⟨Cu.heap _ hgg,hgg⟩
              ·refine .inr ⟨g,T',_,c,ft,IJ,by rw [l0];exact mO,by rw [K5];exact vF,?_,hf⟩
               intro q row hq
               simp only [jm]
               have Gh:xA.toList.length=xs.length*info.size:=by simpa using td.1
               rw [oV] at hq
               split at hq
               ·rename_i bL
                obtain⟨h3,h4⟩:=CX q row hq
                refine⟨h3,fun j cc hj=>?_⟩
                obtain⟨v,hv,IK,I6⟩:=h4 j cc hj
                have II:j<info.size:=by rw [← h3];exact (az.1 hj).1
                refine⟨v,?_,IK,I6⟩
                rw [kc _ _ _ _ Am,if_neg (by have:=Ai bL II;omega)]
                exact hv
               rename_i aip
               obtain⟨h3,h4⟩:=td.2 _ row hq
               refine⟨h3,fun j cc hj=>?_⟩
               obtain⟨v,hv,IK,I6⟩:=h4 j cc hj
               have II:j<info.size:=by rw [← h3];exact (az.1 hj).1
               have C1:q-mZ.length<xs.length:=(az.1 hq).1
               have hmul:q*info.size=mZ.length*info.size+(q-mZ.length)*info.size:=by rw [← jl];congr 1;omega
               refine⟨v,?_,IK,I6⟩
               rw [kc _ _ _ _ Am,if_pos (by have:=Ai C1 II;omega)]
               dsimp only at hv
               rw [← hv,dQ]
               congr 1;omega
              ·by_cases hq:k=b∧q=v'+1
               ·obtain⟨rfl,rfl⟩:=hq;rw [ft] at kD;cases kD;exact .inl ⟨_,_,_,_,hb⟩
               have:(E.with b (v'+1) (g,info.size,c)).cC k q=E.cC k q:=if_neg hq
               rw [this] at kD;exact .inl ⟨_,_,_,_,kD⟩
              rw [K5]
              exact .ms _ _ _ _ _ g info.size c _ _ ft (fun _=>by simp) (fun _=>⟨rfl,rfl⟩) ⟨vF,cr _,fun _=>by simp⟩
             have bL:sc<mZ.length+xs.length:=by omega
             have fj:=nA (ty:=ty) hd ud OQ sa mZ.length sc xs.length IL A xB FV hx3 bL (by omega) (I4 sc bL)
             have hle:E.le (E.with b (v'+1) (w.heap.size,info.size,grownCap w (mZ.length+xs.length) sc e)):=Env.mQ (hs.dZ b _ hm _ (oM v')) _
             have ft:(E.with b (v'+1) (w.heap.size,info.size,grownCap w (mZ.length+xs.length) sc e)).cC b (v'+1)=some (w.heap.size,info.size,grownCap w (mZ.length+xs.length) sc e):=if_pos ⟨rfl,rfl⟩
             refine⟨_,_,E.with b (v'+1) (w.heap.size,info.size,grownCap w (mZ.length+xs.length) sc e),fj,hs.renew hm (fun ad y hy=>?_) (by simp) (by simp) (fun k B' kD lY IN g' e' c' fK=>?_) ?_ (fun k v2 e2 c2 h=>absurd (hs.lt _ _ _ _ _ h) (ans _)),
              ⟨hle,fun k q g' e' c' kD=>?_,fun ad y hy=>.inl hy,rfl,rfl,rfl,by simp,fun b' gD dL=>ed w.drew _ b' gD⟩,?_⟩
             ·rw [World.cell?_alloc_lt w.drew _ ad (World.block_lt_of_cell? w ad (hs.F ad y hy))];exact hs.F ad y hy
             ·have:=hs.lt _ _ _ _ _ fK
              exact⟨ed w.drew _ g' this,by omega⟩
             ·refine .inr ⟨w.heap.size,e,_,_,ft,heap_alloc_new w.drew _,rZ sc A Gg,by rw [K5];exact gq sc,?_,fun o=>?_⟩
              ·intro q row hq
               obtain⟨h3,h4⟩:=mR (C:=Builtin.zeroCells z0.cells (grownCap w (mZ.length+xs.length) sc e-(mZ.length+xs.length))) Gg X8 q row hq
               exact⟨h3,fun j cc hj=>let ⟨v,hv,IK,I6⟩:=h4 j cc hj;⟨v,hv,IK,I6.mono (Env.lq hle)⟩⟩
              show E.F _=none
              cases hx:E.F ⟨w.heap.size,o,none⟩ with
              | none=>rfl
              | some x=>have:=World.block_lt_of_cell? w _ (hs.F _ _ hx);simp at this
             ·by_cases hq:k=b∧q=v'+1
              ·obtain⟨rfl,rfl⟩:=hq;rw [ft] at kD;cases kD;exact .inr (aB _)
              have:(E.with b (v'+1) (w.heap.size,info.size,grownCap w (mZ.length+xs.length) sc e)).cC k q=E.cC k q:=if_neg hq
              rw [this] at kD;exact .inl ⟨_,_,_,_,kD⟩
             rw [K5]
             exact .ms _ _ _ _ _ w.heap.size info.size _ _ _ ft (fun _=>by simp) (fun _=>⟨rfl,rfl⟩) ⟨gq sc,cr _,fun _=>by simp⟩
            simp at nM
           simp at nM
          simp at nM
         simp at h
        simp at h
       simp at h
      simp at h
     simp at h
   simp at h
  simp at h
 simp at h
end Go.Eng
end
section
namespace Go.Eng
variable [bB]
theorem gK.set {E:Env} {dP:List (Value×Nat×V)} {es:List MapEntry} (h:gK E dP es) (i:Nat) {kb:Value×Nat×V} {e:MapEntry} (h1:e.key=kb.1) (h2:e.born=kb.2.1) (h3:cY E kb.2.2 e.val):gK E (dP.set i kb) (es.set i e):=by
  refine⟨by simp [h.1],fun j k e' hk he=>?_⟩;by_cases IP:i=j;·subst IP;rw [bX] at hk he;simp only [if_true] at hk he;split at hk;(·split at he;(·cases hk;cases he;exact⟨h1,h2,h3⟩);·cases he);·cases hk
  ·rw [cP IP] at hk he;exact h.2 j k e' hk he
theorem gK.push {E:Env} {dP:List (Value×Nat×V)} {es:List MapEntry} (h:gK E dP es) {kb:Value×Nat×V} {e:MapEntry} (h1:e.key=kb.1) (h2:e.born=kb.2.1) (h3:cY E kb.2.2 e.val):gK E (dP++[kb]) (es++[e]):=by
  refine⟨by simp [h.1],fun j k e' hk he=>?_⟩;by_cases hj:j<dP.length;·rw [bA hj] at hk;rw [bA (by have:=h.1;omega)] at he;exact h.2 j k e' hk he
  ·rw [a8 (by omega)] at hk;rw [a8 (by have:=h.1;omega)] at he;rw [h.1] at hk;cases hd:j-es.length with|zero=>rw [hd] at hk he;simp at hk he;subst hk;subst he;exact⟨h1,h2,h3⟩|succ n=>rw [hd] at hk;simp at hk
theorem gK.erase {E:Env}:∀ {dP:List (Value×Nat×V)} {es:List MapEntry},gK E dP es→∀ (i:Nat),gK E (dP.eraseIdx i) (es.eraseIdx i)
  | [],es,h,i=>by rw [h.of_nil];exact⟨rfl,fun j k e hk=>by simp at hk⟩
  | k :: r,es,h,i=>by
    obtain⟨e,es',rfl,h1,h2,h3,h4⟩:=h.of_cons
    cases i with
    | zero=>exact h4
    | succ i =>
      have h5:=gK.erase h4 i
      simp only [List.eraseIdx_cons_succ]
      refine⟨by simp [h5.1],fun j k' e' hk he=>?_⟩
      cases j with
      | zero=>simp at hk he;subst hk;subst he;exact⟨h1,h2,h3⟩
      | succ j=>exact h5.2 j k' e' (by simpa using hk) (by simpa using he)
def insertAt (P:Program) (kt:TypeId) (key:Value) (v:V) (dP:List (Value×Nat×V)) (clock:Nat):Option (List (Value×Nat×V)×Nat) :=
  match pW P kt key dP with
  | some (some (i,_))=>match dP[i]? with
    | some e=>if Instr.sameBits 10000 e.1 key=true then some (dP.set i (key,e.2.1,v),clock) else none
    | none=>none
  | some none=>some (dP++[(key,clock,v)],clock+1)
  | none=>none
def dU (P:Program) (mem:List bx) (T:TypeId) (m k v:V):Option (List bx) :=
  match jw P T with
  | some (kt,_)=>match fe k with
    | some key=>if tY P kt key=true then
        match m with
        | .mp b=>match mem[b]? with
          | some (.map dP clock)=>match insertAt P kt key v dP clock with
            | some (kvs',clock')=>some (mem.set b (.map kvs' clock'))
            | none=>none
          | _=>none
        | _=>none
      else none
    | none=>none
  | none=>none
def K6 (P:Program) (kt et:TypeId) (key:Value) (dP:List (Value×Nat×V)) (clock:Nat):Option (List (Value×Nat×V)×Nat×V) :=
  match pW P kt key dP with
  | some (some (i,v))=>match dP[i]? with
    | some e=>if Instr.sameBits 10000 e.1 key=true then some (dP.set i (key,e.2.1,e.2.2),clock,.eg [v,.sc (.int .i64 e.2.1)]) else none
    | none=>none
  | some none=>match zeroV P et with
    | some z=>some (dP++[(key,clock,z)],clock+1,.eg [z,.sc (.int .i64 clock)])
    | none=>none
  | none=>none
def xm (P:Program) (mem:List bx) (T:TypeId) (m k:V):Option (List bx×V) :=
  match jw P T with
  | some (kt,et)=>match fe k with
    | some key=>if tY P kt key=true then
        match m with
        | .mp b=>match mem[b]? with
          | some (.map dP clock)=>match K6 P kt et key dP clock with
            | some (kvs',clock',v)=>some (mem.set b (.map kvs' clock'),v)
            | none=>none
          | _=>none
        | _=>none
      else none
    | none=>none
  | none=>none
def xn (mem:List bx) (m s v:V):Option (List bx) :=
  match m,s with
  | .mp b,.sc (.int _ n)=>match mem[b]? with
    | some (.map dP clock)=>match dP.findIdx? (fun e=>(e.2.1:Int)==n) with
      | some i=>match dP[i]? with
        | some e=>some (mem.set b (.map (dP.set i (e.1,e.2.1,v)) clock))
        | none=>none
      | none=>none
    | _=>none
  | _,_=>none
def te (P:Program) (mem:List bx) (ts:Array TypeId):List V→Option (List bx)
  | [.mp b,k]=>match ts[0]? with
    | some T=>match jw P T with
      | some (kt,_)=>match fe k with
        | some key=>if tY P kt key=true then
            match mem[b]? with
            | some (.map dP clock)=>match pW P kt key dP with
              | some (some (i,_))=>some (mem.set b (.map (dP.eraseIdx i) clock))
              | some none=>some (mem.set b (.map dP clock))
              | none=>none
            | _=>none
          else none
        | none=>none
      | none=>none
    | none=>none
  | _=>none
theorem r5 {w:World} {g:Nat} {o:Obj}:o3 w { w with heap:=w.heap.setIfInBounds g o } g :=
  ⟨rfl,rfl,rfl,by simp,fun b hb=>DY (fun e=>hb e.symm)⟩
theorem heap_set {w:World} {g:Nat} {o o':Obj} (h:w.heap[g]?=some o):({ w with heap:=w.heap.setIfInBounds g o' }:World).heap[g]?=some o':=by
  have:g<w.heap.size:=by (rcases bz g w.heap.size with h1|h1);(·exact h1);·rw [arn h1] at h;cases h
  simp [this]
theorem de.qJ {E:Env} {w:World} {a:Act} {st:St} (hs:de E w a st) {b g e c:Nat} {dP kvs':List (Value×Nat×V)} {clock clock':Nat} {es es':Array MapEntry} (hm:st.mem[b]?=some (.map dP clock)) (hb:E.cC b 0=some (g,e,c)) (hh:w.heap[g]?=some (.map es clock))
    (hf:∀ o,E.F ⟨g,o,none⟩=none) (hr:gK E kvs' es'.toList) :
    de E { w with heap:=w.heap.setIfInBounds g (.map es' clock') } a { st with mem:=st.mem.set b (.map kvs' clock') }∧ic E w E { w with heap:=w.heap.setIfInBounds g (.map es' clock') }:=by obtain⟨-,-,-,-,h0⟩:=mP hs hm hb;cases h0;exact hs.Ah hm rfl (B':=.map kvs' clock') rfl hb hf r5 ⟨g,es',hb,heap_set hh,hr,hf⟩
theorem uE {es:Array MapEntry} {i:Nat} {e:MapEntry} (h:es[i]?=some e) (f:MapEntry→MapEntry):(es.modify i f).toList=es.toList.set i (f e):=by
  apply dM;intro j;rw [dQ,arl,bX];by_cases IP:i=j;·subst IP;have:i<es.size:=(dO.1 h).1;have he:es[i]=e:=(dO.1 h).2;simp [this,he]
  ·simp [IP]
theorem C2 {P:Program} {w:World} {rY new:Value} (h:Instr.sameBits 10000 rY new=true):(Instr.keyThatStays rY new).run P w = .ok new w:=by simp [Instr.keyThatStays,h]
theorem ue {P:Program} {E:Env} {w:World} {a:Act} {st:St} (hs:de E w a st) {T:TypeId} {m k v:V} {x y z:Value} {bS:List bx} (hm:cY E m x) (hk:cY E k y) (hv:cY E v z) (h:dU P st.mem T m k v=some bS) :
    ∃ w',(Instr.mapUpdate T x y z).run P w = .ok () w'∧de E w' a { st with mem:=bS }∧ic E w E w':=by
  unfold dU at h;split at h;·rename_i kt et hd;have hd:=lz hd;split at h;(·rename_i key ft;cases kA hk ft;split at h;(·rename_i gV;have Ol:=fun b=>o1 gV b w;split at h;(·rename_i b;obtain⟨g,e,c,rfl,hb⟩:=uA hm;split at h;(·rename_i dP clock hB;obtain⟨es,hh,hr,hf,-⟩:=mP hs hB hb;split at h;(·rename_i kvs' clock' hi;cases h;unfold insertAt at hi;split at hi;(·rename_i i u OU;obtain⟨r',h1,h2⟩:=iC hr w OU;match r',h2 with|some (j',z'),h2 =>obtain⟨rfl,h3,kb,en,h4,h5,h6,h7⟩:=h2;(have X9:es[i]?=some en:=by simpa using h5);split at hi;(·rename_i kb' kD;rw [kD] at h4;cases h4;split at hi;(·rename_i OV;cases hi;obtain⟨p1,p2,p3⟩:=hr.2 i _ _ kD h5;(have fj:(Instr.mapUpdate T (.map (some g)) y z).run P w = .ok () { w with heap:=w.heap.setIfInBounds g (.map (es.modify i fun e => { e with key:=y,val:=z }) clock) }:=by have:=jx (P:=P) (o':=.map (es.modify i fun e => { e with key:=y,val:=z }) clock) hh (by simp);simp [Instr.mapUpdate,bp hd,fN hh,Ol,h1,X9,p1,C2 OV,this]);obtain⟨q1,q2⟩:=hs.qJ hB hb hh hf (clock':=clock) (kvs':=dP.set i (y,kb.2.1,v)) (es':=es.modify i fun e => { e with key:=y,val:=z }) (by rw [uE X9];exact hr.set i rfl p2 hv);exact⟨_,fj,q1,q2⟩);·cases hi);·cases hi);(·rename_i OU;obtain⟨r',h1,h2⟩:=iC hr w OU;match r',h2 with|none,h2 =>cases hi;(have fj:(Instr.mapUpdate T (.map (some g)) y z).run P w = .ok () { w with heap:=w.heap.setIfInBounds g (.map (es.push { key:=y,val:=z,born:=clock }) (clock+1)) }:=by have:=jx (P:=P) (o':=.map (es.push { key:=y,val:=z,born:=clock }) (clock+1)) hh (by simp);simp [Instr.mapUpdate,bp hd,fN hh,Ol,h1,this]);obtain⟨q1,q2⟩:=hs.qJ hB hb hh hf (clock':=clock+1) (kvs':=dP++[(y,clock,v)]) (es':=es.push { key:=y,val:=z,born:=clock }) (by rw [asc];exact hr.push rfl rfl hv);exact⟨_,fj,q1,q2⟩);·cases hi);·cases h);·cases h);·cases h);·cases h);·cases h
  ·cases h
theorem Gi {E:Env} {v:V} {x:Value} (h:cY E v x) (n:Nat):cY E (.eg [v,.sc (.int .i64 n)]) (.tuple #[x,goInt n]):=by refine .eg _ _ _ rfl fun i c y hc hy=>?_;match i with|0=>simp at hc hy;subst hc;subst hy;exact h|1=>simp at hc hy;subst hc;subst hy;exact .sc _ _|i+2=>simp at hc
theorem En {P:Program} {E:Env} {w:World} {a:Act} {st:St} (hs:de E w a st) {T:TypeId} {m k v:V} {x y:Value} {bS:List bx} (hm:cY E m x) (hk:cY E k y) (h:xm P st.mem T m k=some (bS,v)) :
    ∃ z w',(Instr.mapEntry T x y).run P w = .ok z w'∧de E w' a { st with mem:=bS }∧ic E w E w'∧cY E v z:=by
  unfold xm at h;split at h;·rename_i kt et hd;have hd:=lz hd;split at h;(·rename_i key ft;cases kA hk ft;split at h;(·rename_i gV;have Ol:=fun b=>o1 gV b w;split at h;(·rename_i b;obtain⟨g,e,c,rfl,hb⟩:=uA hm;split at h;(·rename_i dP clock hB;obtain⟨es,hh,hr,hf,-⟩:=mP hs hB hb;split at h;(·rename_i kvs' clock' v' hi;cases h;unfold K6 at hi;split at hi;(·rename_i i u OU;obtain⟨r',h1,h2⟩:=iC hr w OU;match r',h2 with|some (j',z'),h2 =>obtain⟨rfl,h3,kb,en,h4,h5,h6,h7⟩:=h2;(have X9:es[i]?=some en:=by simpa using h5);split at hi;(·rename_i kb' kD;rw [kD] at h4;cases h4;split at hi;(·rename_i OV;cases hi;obtain⟨p1,p2,p3⟩:=hr.2 i _ _ kD h5;(have fj:(Instr.mapEntry T (.map (some g)) y).run P w = .ok (.tuple #[z',goInt en.born]) { w with heap:=w.heap.setIfInBounds g (.map (es.modify i fun e => { e with key:=y }) clock) }:=by have:=jx (P:=P) (o':=.map (es.modify i fun e => { e with key:=y }) clock) hh (by simp);simp [Instr.mapEntry,bp hd,fN hh,Ol,h1,X9,p1,C2 OV,this]);obtain⟨q1,q2⟩:=hs.qJ hB hb hh hf (clock':=clock) (kvs':=dP.set i (y,kb.2.1,kb.2.2)) (es':=es.modify i fun e => { e with key:=y }) (by rw [uE X9];exact hr.set i rfl p2 p3);exact⟨_,_,fj,q1,q2,by rw [p2];exact Gi h3 _⟩);·cases hi);·cases hi);(·rename_i OU;obtain⟨r',h1,h2⟩:=iC hr w OU;match r',h2 with|none,h2 =>split at hi;(·rename_i z0 OQ;cases hi;obtain⟨zz,h3,h4⟩:=rT OQ E w;(have fj:(Instr.mapEntry T (.map (some g)) y).run P w = .ok (.tuple #[zz,goInt clock]) { w with heap:=w.heap.setIfInBounds g (.map (es.push { key:=y,val:=zz,born:=clock }) (clock+1)) }:=by have:=jx (P:=P) (o':=.map (es.push { key:=y,val:=zz,born:=clock }) (clock+1)) hh (by simp);simp [Instr.mapEntry,bp hd,fN hh,Ol,h1,h3,this]);obtain⟨q1,q2⟩:=hs.qJ hB hb hh hf (clock':=clock+1) (kvs':=dP++[(y,clock,z0)]) (es':=es.push { key:=y,val:=zz,born:=clock }) (by rw [asc];exact hr.push rfl rfl h4);exact⟨_,_,fj,q1,q2,Gi h4 _⟩);·cases hi);·cases hi);·cases h);·cases h);·cases h);·cases h);·cases h
  ·cases h
theorem yj {E:Env} (n:Int):∀ {dP:List (Value×Nat×V)} {es:List MapEntry},gK E dP es→dP.findIdx? (fun e=>(e.2.1:Int)==n)=es.findIdx? (fun e=>(e.born:Int)==n)
  | [],es,h=>by rw [h.of_nil];rfl
  | k :: r,es,h=>by
    obtain⟨e,es',rfl,h1,h2,h3,h4⟩:=h.of_cons
    rw [ash,ash,h2,yj n h4]
theorem Eo {P:Program} {E:Env} {w:World} {a:Act} {st:St} (hs:de E w a st) {T:TypeId} {m s v:V} {x y z:Value} {bS:List bx} (hm:cY E m x) (hk:cY E s y) (hv:cY E v z) (h:xn st.mem m s v=some bS) :
    ∃ w',(Instr.entryStore T x y z).run P w = .ok () w'∧de E w' a { st with mem:=bS }∧ic E w E w':=by
  unfold xn at h;split at h;·rename_i b k n;obtain⟨g,e,c,rfl,hb⟩:=uA hm;obtain rfl:=ta hk;split at h;(·rename_i dP clock hB;obtain⟨es,hh,hr,hf,-⟩:=mP hs hB hb;split at h;(·rename_i i hi;split at h;(·rename_i kb kD;cases h;obtain⟨en,h5,p1,p2,p3⟩:=hr.get kD;(have X9:es[i]?=some en:=by simpa using h5);(have Ya:es.findIdx? (fun e=>(e.born:Int)==n)=some i:=by rw [yj n hr,← List.findIdx?_toArray,cE] at hi;exact hi);(have fj:(Instr.entryStore T (.map (some g)) (.int k n) z).run P w = .ok () { w with heap:=w.heap.setIfInBounds g (.map (es.modify i fun e => { e with val:=z }) clock) }:=by have:=jx (P:=P) (o':=.map (es.modify i fun e => { e with val:=z }) clock) hh (by simp);simp [Instr.entryStore,fN hh,asInt,asIntOf,Ya,this]);obtain⟨q1,q2⟩:=hs.qJ hB hb hh hf (clock':=clock) (kvs':=dP.set i (kb.1,kb.2.1,v)) (es':=es.modify i fun e => { e with val:=z }) (by rw [uE X9];exact hr.set i p1 p2 hv);exact⟨_,fj,q1,q2⟩);·cases h);·cases h);·cases h
  ·cases h
theorem Cv {P:Program} {E:Env} {w:World} {a:Act} {st:St} (hs:de E w a st) {ts:Array TypeId} {ty:TypeId} {xs:List V} {ys:Array Value} {bS:List bx} (hx:cU E xs ys.toList) (h:te P st.mem ts xs=some bS) :
    ∃ w',(Builtin.delete_ ts ty ys).run P w = .ok (.tuple #[]) w'∧de E w' a { st with mem:=bS }∧ic E w E w':=by
  unfold te at h;split at h;·rename_i b k;obtain⟨x,r,hy,Cr,hx⟩:=hx.of_cons;obtain⟨y,r2,hz,Gj,hx⟩:=hx.of_cons;have:=hx.of_nil;subst this;subst hz;(obtain rfl:ys = #[x,y]:=by rw [← cE (xs:=ys),hy]);obtain⟨g,e,c,rfl,hb⟩:=uA Cr;split at h;(·rename_i T h0;split at h;(·rename_i kt et hd;have hd:=lz hd;split at h;(·rename_i key ft;cases kA Gj ft;split at h;(·rename_i gV;have Ol:=fun b=>o1 gV b w;split at h;(·rename_i dP clock hB;obtain⟨es,hh,hr,hf,-⟩:=mP hs hB hb;split at h;(·rename_i i u OU;cases h;obtain⟨r',h1,h2⟩:=iC hr w OU;match r',h2 with|some (j',z'),h2 =>obtain⟨rfl,h3,kb,en,h4,h5,h6,h7⟩:=h2;(have fj:(Builtin.delete_ ts ty #[.map (some g),y]).run P w = .ok (.tuple #[]) { w with heap:=w.heap.setIfInBounds g (.map (es.eraseIdxIfInBounds i) clock) }:=by have:=jx (P:=P) (o':=.map (es.eraseIdxIfInBounds i) clock) hh (by simp);simp [Builtin.delete_,h0,bp hd,fN hh,Ol,h1,this]);obtain⟨q1,q2⟩:=hs.qJ hB hb hh hf (clock':=clock) (kvs':=dP.eraseIdx i) (es':=es.eraseIdxIfInBounds i) (by rw [Array.toList_eraseIdxIfInBounds];exact hr.erase i);exact⟨_,fj,q1,q2⟩);(·rename_i OU;cases h;obtain⟨r',h1,h2⟩:=iC hr w OU;match r',h2 with|none,h2 =>(have fj:(Builtin.delete_ ts ty #[.map (some g),y]).run P w = .ok (.tuple #[]) { w with heap:=w.heap.setIfInBounds g (.map es clock) }:=by have:=jx (P:=P) (o':=.map es clock) hh (by simp);simp [Builtin.delete_,h0,bp hd,fN hh,Ol,h1,this]);obtain⟨q1,q2⟩:=hs.qJ hB hb hh hf (clock':=clock) (kvs':=dP) (es':=es) hr;exact⟨_,fj,q1,q2⟩);·cases h);·cases h);·cases h);·cases h);·cases h);·cases h
  ·cases h
def leftOf (dP:List (Value×Nat×V)) (seen:List Nat):List (Value×Nat×V):=dP.filter fun e=>!seen.contains e.2.1
def An (dP:List (Value×Nat×V)) (seen:List Nat) (since:Nat):List (Value×Nat×V):=(leftOf dP seen).filter fun e=>e.2.1<since
def OW (dP:List (Value×Nat×V)) (seen:List Nat) (since:Nat):List (Value×Nat×V):=(leftOf dP seen).filter fun e=>e.2.1≥since
def Ep (dP:List (Value×Nat×V)) (seen:List Nat) (last:Nat):Bool:=!seen.isEmpty && !dP.isEmpty&&dP.all fun e=>e.2.1≥last
def Ao:V:=.eg [.sc (.bool false)]
def OX (e:Value×Nat×V):V:=.eg [.sc (.bool true),ka e.1,e.2.2]
def V4 (s:ByteArray) (pos:Nat):V:=.eg [.sc (.bool true),.sc (.int .i64 pos),.sc (.int .i32 (Utf8.decode s pos).1)]
def vG (st:St) (dst:Option Tmp) (it:V) (str:Bool) (Q:St→Prop):Prop :=
  match it with
  | .ptr b 0=>match st.mem[b]? with
    | some (.jJ m since seen last)=>match st.mem[m]? with
      | some (.map dP clock)=>str=false∧Ep dP seen last=false∧(An dP seen since=[]→Q (st.put dst Ao)) ∧
          ∀ e∈An dP seen since++OW dP seen since,Q ({ st with mem:=st.mem.set b (.jJ m since (seen++[e.2.1]) clock) }.put dst (OX e))
      | _=>False
    | some (.nL s pos)=>str=true∧if pos<s.size then Q ({ st with mem:=st.mem.set b (.nL s (pos+(Utf8.decode s pos).2)) }.put dst (V4 s pos)) else Q (st.put dst Ao)
    | some .og=>str=false∧Q (st.put dst Ao)
    | _=>False
  | _=>False
theorem gK.filter {E:Env} (p:Nat→Bool):∀ {dP:List (Value×Nat×V)} {es:List MapEntry},gK E dP es→gK E (dP.filter fun e=>p e.2.1) (es.filter fun e=>p e.born)
  | [],es,h=>by rw [h.of_nil];exact⟨rfl,fun j k e hk=>by simp at hk⟩
  | k :: r,es,h=>by
    obtain⟨e,es',rfl,h1,h2,h3,h4⟩:=h.of_cons
    have h5:=gK.filter p h4
    simp only [List.filter_cons,h2]
    split
    · refine⟨by simp [h5.1],fun j k' e' hk he=>?_⟩
      cases j with
      | zero=>simp at hk he;subst hk;subst he;exact⟨h1,h2,h3⟩
      | succ j=>exact h5.2 j k' e' (by simpa using hk) (by simpa using he)
    · exact h5
theorem gK.all {E:Env} (p:Nat→Bool):∀ {dP:List (Value×Nat×V)} {es:List MapEntry},gK E dP es→(dP.all fun e=>p e.2.1)=es.all fun e=>p e.born
  | [],es,h=>by rw [h.of_nil];rfl
  | k :: r,es,h=>by
    obtain⟨e,es',rfl,h1,h2,h3,h4⟩:=h.of_cons
    simp only [cH,h2,gK.all p h4]
theorem gK.append {E:Env} {a b:List (Value×Nat×V)} {x y:List MapEntry} (h:gK E a x) (k:gK E b y):gK E (a++b) (x++y):=by
  refine⟨by simp [h.1,k.1],fun j kk e hk he=>?_⟩;by_cases hj:j<a.length;·rw [bA hj] at hk;rw [bA (by have:=h.1;omega)] at he;exact h.2 j kk e hk he
  ·rw [a8 (by omega)] at hk;rw [a8 (by have:=h.1;omega)] at he;rw [h.1] at hk;exact k.2 _ kk e hk he
theorem Mw {E:Env} {k:Value×Nat×V} {e:MapEntry} (h1:e.key=k.1) (h3:cY E k.2.2 e.val):cY E (OX k) (.tuple #[.bool true,e.key,e.val]):=by refine .eg _ _ _ rfl fun i c y hc hy=>?_;match i with|0=>simp at hc hy;subst hc;subst hy;exact .sc _ _|1=>simp at hc hy;subst hc;subst hy;rw [h1];exact kW E _|2=>simp at hc hy;subst hc;subst hy;exact h3|i+3=>simp at hc
theorem Ap {P:Program} {w:World} {n:Nat} (hn:0<n):∃ i w',(choose (.mapNext n)).run P w = .ok i w'∧i<n∧(w'=w∨w'=w.drew):=by
  unfold choose;rw [Sem.run];split;·exact⟨0,w,rfl,hn,.inl rfl⟩
  ·exact⟨_,_,rfl,arA _ hn,.inr rfl⟩
theorem de.Yb {E:Env} {w w':World} {a:Act} {st:St} (hs:de E w a st) (h:w'=w∨w'=w.drew):de E w' a st∧ic E w E w'∧w'.heap=w.heap:=by
  rcases h with rfl|rfl
  ·exact⟨hs,ic.refl _ _,rfl⟩
  ·exact⟨hs.drew,ic.drew _ _,rfl⟩
theorem Gk {P:Program} {E:Env} {w:World} {a:Act} {st:St} (hs:de E w a st) {dst:Option Tmp} {it:V} {x:Value} {str:Bool} {ty:TypeId} {Q:St→Prop} (hi:cY E it x) (h:vG st dst it str Q) :
    ∃ z w' st',(Instr.next x str ty).run P w = .ok z w'∧de E w' (a.put dst z) st'∧ic E w E w'∧Q st':=by
  unfold vG at h;split at h
  · rename_i b;split at h
    · rename_i m since seen last hB;split at h
      · rename_i dP clock hM;obtain⟨rfl,oN,acT,dN⟩:=h;obtain⟨g,gm,em,cm,hb,Th,hh,hf⟩:=hs.mem b _ hB;obtain⟨es,hhm,hr,hfm,h0⟩:=mP hs hM Th;cases h0
        cases hi with
        | ptr _ _ _ g' e' c' gD =>
        rw [hb] at gD;cases gD
        have kX:(getObj g).run P w = .ok (.mapIter (some gm) since seen.toArray last) w:=by simp [getObj,Sem.run,hh]
        have Yc:(!seen.toArray.isEmpty && !es.isEmpty&&es.all (fun e=>decide (e.born≥last)))=false:=by
          rw [← oN]
          unfold Ep
          have e1:seen.toArray.isEmpty=seen.isEmpty:=by simp
          have e2:es.isEmpty=dP.isEmpty:=by
            have h1:=hr.1
            rw [gu,asa,arJ,← cj,h1,gb]
          rw [e1,e2,← Array.all_toList,← gK.all (fun n=>decide (n≥last)) hr]
        have V5:(es.filter fun e=>!seen.toArray.contains e.born).toList=es.toList.filter fun e=>!seen.contains e.born:=by
          rw [arP];simp
        have hl:=gK.filter (fun n=>!seen.contains n) hr
        have ho:=gK.filter (fun n=>decide (n<since)) hl
        have hw:=gK.filter (fun n=>decide (n≥since)) hl
        have hon:=ho.append hw
        obtain⟨L,hL⟩:∃ L,L=es.filter fun e=>!seen.toArray.contains e.born:=⟨_,rfl⟩
        have hO:(L.filter fun e=>decide (e.born<since)).toList=(es.toList.filter fun e=>!seen.contains e.born).filter fun e=>decide (e.born<since):=by rw [arP,hL,V5]
        have hN:(L.filter fun e=>decide (e.born≥since)).toList=(es.toList.filter fun e=>!seen.contains e.born).filter fun e=>decide (e.born≥since):=by rw [arP,hL,V5]
        rw [← hO] at ho
        rw [← hO,← hN] at hon
        generalize hOO:L.filter (fun e=>decide (e.born<since))=O at ho hon
        generalize hNN:L.filter (fun e=>decide (e.born≥since))=N at hon
        have aiq:O.isEmpty=(An dP seen since).isEmpty:=by
          have h1:=ho.1
          rw [gu,asa,arJ,← cj,← gb,← h1];rfl
        have acV:0<((if O.isEmpty then #[none] else #[])++(O++N).map some:Array (Option MapEntry)).size:=by
          by_cases OY:O.isEmpty=true
          · rw [if_pos OY];simp;omega
          · rw [if_neg OY]
            have:O.size≠0:=fun h=>OY (asa.2 h)
            simp;omega
        obtain⟨i,w1,Cw,xl,Mv⟩:=Ap (P:=P) (w:=w) acV
        obtain⟨s1,v1,IQ⟩:=hs.Yb Mv
        have fj:∀ {R},(match ((if O.isEmpty then #[none] else #[])++(O++N).map some:Array (Option MapEntry))[i]? with
            | some (some e)=>do setObj g (.mapIter (some gm) since (seen.toArray.push e.born) clock);pure (Value.tuple #[.bool true,e.key,e.val])
            | some none=>(pure (Value.tuple #[.bool false]):Sem Value)
            | none=>stuck "Next: no such candidate").run P w1=R→(Instr.next (.pointer (some ⟨g,0,none⟩)) false ty).run P w=R:=fun hR=>by
          rw [← hR]
          simp only [Instr.next,Sem.run_bind,kX,Result.andThen_ok,fN hhm,Yc,bF,if_false,← hL,hOO,hNN,Cw]
          rfl
        have hci:=cd xl
        by_cases pw:i<(if O.isEmpty then #[none] else #[]:Array (Option MapEntry)).size
        · have OY:O.isEmpty=true:=by
            by_cases OY:O.isEmpty=true
            · exact OY
            · rw [if_neg OY] at pw;simp at pw
          rw [if_pos OY] at pw
          have O0:i=0:=by simp at pw;omega
          subst O0
          have hold:An dP seen since=[]:=by rw [aiq] at OY;exact arJ.1 OY
          refine⟨_,w1,_,fj (R:=Result.ok (Value.tuple #[.bool false]) w1) ?_,s1.put dst (.eg _ _ _ rfl fun i c y hc hy=>?_),v1,acT hold⟩
          · rw [if_pos OY,ar1 (by simp)];rfl
          · match i with
            | 0=>simp at hc hy;subst hc;subst hy;exact .sc _ _
            | i+1=>simp at hc
        · obtain⟨j,hj,TQ⟩:∃ j,j<(O++N).size∧((if O.isEmpty then #[none] else #[])++(O++N).map some:Array (Option MapEntry))[i]?=some (some ((O++N)[j]!)):=by
            refine⟨i-(if O.isEmpty then #[none] else #[]:Array (Option MapEntry)).size,?_,?_⟩
            · have:=xl;simp only [acH,ar3] at this ⊢;omega
            · rw [asB (by omega),arO]
              have bL:i-(if O.isEmpty then #[none] else #[]:Array (Option MapEntry)).size<(O++N).size:=by have:=xl;simp only [acH,ar3] at this ⊢;omega
              rw [cd bL,getElem!_pos (O++N) _ bL];rfl
          rw [getElem!_pos (O++N) _ hj] at TQ
          obtain⟨kb,kD⟩:∃ kb,(An dP seen since++OW dP seen since)[j]?=some kb:=⟨_,aw (by have h1:=hon.1;simp only [ab,gb] at h1;simp only [ab];simp only [acH] at hj;exact Nat.lt_of_lt_of_eq hj h1.symm)⟩
          obtain⟨en,fO,p1,p2,p3⟩:=hon.get kD
          have air:(O++N)[j]=en:=by
            have:(O++N).toList[j]?=some en:=by rw [zp];exact fO
            rw [dQ,cd hj] at this
            simpa using this
          rw [air] at TQ
          have Mx:w1.heap[g]?=some (.mapIter (some gm) since seen.toArray last):=by rw [IQ];exact hh
          have ub:kL E { w1 with heap:=w1.heap.setIfInBounds g (.mapIter (some gm) since (seen.toArray.push en.born) clock) } b (.jJ m since (seen++[kb.2.1]) clock):=by
            refine⟨g,gm,0,0,hb,Th,?_,hf⟩
            rw [heap_set Mx,p2];simp
          obtain⟨q1,q2⟩:=s1.Ah hB rfl (B':=.jJ m since (seen++[kb.2.1]) clock) rfl hb hf r5 ub
          refine⟨.tuple #[.bool true,en.key,en.val],_,_,fj ?_,q1.put dst (Mw p1 p3),v1.trans q2,dN kb (aE kD)⟩
          rw [TQ]
          have:=jx (P:=P) (o':=.mapIter (some gm) since (seen.toArray.push en.born) clock) Mx (by simp)
          dsimp only
          rw [Sem.run_bind,this];rfl
      ·exact h.elim
    ·rename_i s pos hB;obtain⟨rfl,Aq⟩:=h;obtain⟨g,hb,hh,hf⟩:=hs.mem b _ hB;cases hi with|ptr _ _ _ g' e' c' gD =>rw [hb] at gD;cases gD;(have kX:(getObj g).run P w = .ok (.stringIter s pos) w:=by simp [getObj,Sem.run,hh]);split at Aq;(·rename_i bL;obtain⟨q1,q2⟩:=hs.Ah hB rfl (B':=.nL s (pos+(Utf8.decode s pos).2)) rfl hb hf (r5 (o:=.stringIter s (pos+(Utf8.decode s pos).2))) ⟨g,hb,heap_set hh,hf⟩;refine⟨.tuple #[.bool true,goInt pos,.int .i32 (Utf8.decode s pos).1],_,_,?_,q1.put dst (.eg _ _ _ rfl fun i c y hc hy=>?_),q2,Aq⟩;(·have:=jx (P:=P) (o':=.stringIter s (pos+(Utf8.decode s pos).2)) hh (by simp);simp [Instr.next,kX,bL,this]);·match i with|0=>simp at hc hy;subst hc;subst hy;exact .sc _ _|1=>simp at hc hy;subst hc;subst hy;exact .sc _ _|2=>simp at hc hy;subst hc;subst hy;exact .sc _ _|i+3=>simp at hc);·rename_i bL;refine⟨.tuple #[.bool false],w,_,by simp [Instr.next,kX,bL],hs.put dst (.eg _ _ _ rfl fun i c y hc hy=>?_),ic.refl _ _,Aq⟩;match i with|0=>simp at hc hy;subst hc;subst hy;exact .sc _ _|i+1=>simp at hc
    ·rename_i hB;obtain⟨rfl,Aq⟩:=h;obtain⟨g,hb,hh,hf⟩:=hs.mem b _ hB;cases hi with|ptr _ _ _ g' e' c' gD =>rw [hb] at gD;cases gD;(have kX:(getObj g).run P w = .ok (.mapIter none 0 #[] 0) w:=by simp [getObj,Sem.run,hh]);refine⟨.tuple #[.bool false],w,_,by simp [Instr.next,kX],hs.put dst (.eg _ _ _ rfl fun i c y hc hy=>?_),ic.refl _ _,Aq⟩;match i with|0=>simp at hc hy;subst hc;subst hy;exact .sc _ _|i+1=>simp at hc
    ·exact h.elim
  ·exact h.elim
def p9 (P:Program) (mem:List bx) (T:TypeId) (x:V):Option bx :=
  match x with
  | .mp b=>match mem[b]? with
    | some (.map _ clock)=>match jw P T with|some _=>some (.jJ b clock [] clock)|none=>none
    | _=>none
  | .sc (.map none)=>match jw P T with|some _=>some .og|none=>none
  | .sc (.string s)=>match P.underlying T with|some .string=>some (.nL s 0)|_=>none
  | _=>none
theorem K7 {E:Env} {w:World} {a:Act} {st:St} (hs:de E w a st) (o:Nat):E.F ⟨w.heap.size,o,none⟩=none:=by cases hx:E.F ⟨w.heap.size,o,none⟩ with|none=>rfl|some x=>have:=World.block_lt_of_cell? w _ (hs.F _ _ hx);simp at this
theorem de.newObj {E:Env} {w:World} {a:Act} {st:St} (hs:de E w a st) {key:Nat} (hk:iZ st.mem key) {obj:Obj} {B:bx} (hv:B.dZ=0) (hB:kL (E.with key 0 (w.heap.size,0,0)) (w.alloc obj) key B) :
    ∃ E',de E' (w.alloc obj) a { st with mem:=dm st.mem key B }∧ic E w E' (w.alloc obj)∧E'.cC key 0=some (w.heap.size,0,0):=by have:=hs.new (obj:=obj) (B:=B) (e:=0) (c:=0) hk hv hB;exact⟨_,this.1,this.2,if_pos ⟨rfl,rfl⟩⟩
theorem Ar {P:Program} {E:Env} {w:World} {a:Act} {st:St} (hs:de E w a st) {key:Nat} (hk:iZ st.mem key) {T:TypeId} {x:V} {y:Value} {B:bx} (hx:cY E x y) (h:p9 P st.mem T x=some B) :
    ∃ E' w',(Instr.range T y).run P w = .ok (.pointer (some ⟨w.heap.size,0,none⟩)) w'∧de E' w' a { st with mem:=dm st.mem key B }∧ic E w E' w'∧cY E' (.ptr key 0) (.pointer (some ⟨w.heap.size,0,none⟩)):=by
  have ft:(E.with key 0 (w.heap.size,0,0)).cC key 0=some (w.heap.size,0,0):=if_pos ⟨rfl,rfl⟩;unfold p9 at h;split at h;·rename_i b;split at h;(·rename_i dP clock hB;split at h;(·rename_i p hp;cases h;obtain⟨kt,et⟩:=p;have hd:=lz hp;obtain⟨g,e,c,rfl,hb⟩:=uA hx;obtain⟨es,hh,hr,-⟩:=mP hs hB hb;(have dL:b≠key:=fun e=>by subst e;rw [hs.free hk 0] at hb;cases hb);obtain⟨E',h1,h2,h3⟩:=hs.newObj hk (obj:=.mapIter (some g) clock #[] clock) (B:=.jJ b clock [] clock) rfl ⟨w.heap.size,g,e,c,ft,(if_neg fun h=>dL h.1).trans hb,heap_alloc_new w _,fun o=>K7 (E:=E) hs o⟩;exact⟨E',_,by simp [Instr.range,bp hd,fN hh,newObj,Sem.run],h1,h2,.ptr _ _ _ _ 0 0 h3⟩);·cases h);·cases h
  ·obtain rfl:=ta hx;split at h;(·rename_i p hp;cases h;obtain⟨kt,et⟩:=p;have hd:=lz hp;obtain⟨E',h1,h2,h3⟩:=hs.newObj hk (obj:=.mapIter none 0 #[] 0) (B:=.og) rfl ⟨w.heap.size,ft,heap_alloc_new w _,fun o=>K7 (E:=E) hs o⟩;exact⟨E',_,by simp [Instr.range,bp hd,newObj,Sem.run],h1,h2,.ptr _ _ _ _ 0 0 h3⟩);·cases h
  ·rename_i s;obtain rfl:=ta hx;split at h;(·rename_i hd;cases h;obtain⟨E',h1,h2,h3⟩:=hs.newObj hk (obj:=.stringIter s 0) (B:=.nL s 0) rfl ⟨w.heap.size,ft,heap_alloc_new w _,fun o=>K7 (E:=E) hs o⟩;exact⟨E',_,by simp [Instr.range,bp hd,newObj,Sem.run],h1,h2,.ptr _ _ _ _ 0 0 h3⟩);·cases h
  ·cases h
theorem Cx {P:Program} {E:Env} {w:World} {a:Act} {st:St} (hs:de E w a st) {key:Nat} (hk:iZ st.mem key) (T:TypeId) :
    ∃ E' w',(Instr.makeMap T none).run P w = .ok (.map (some w.heap.size)) w'∧de E' w' a { st with mem:=dm st.mem key (.map [] 0) }∧ic E w E' w'∧cY E' (.mp key) (.map (some w.heap.size)):=by have ft:(E.with key 0 (w.heap.size,0,0)).cC key 0=some (w.heap.size,0,0):=if_pos ⟨rfl,rfl⟩;obtain⟨E',h1,h2,h3⟩:=hs.newObj hk (obj:=.map #[] 0) (B:=.map [] 0) rfl ⟨w.heap.size,#[],ft,heap_alloc_new w _,⟨rfl,fun i k e h=>by simp at h⟩,fun o=>K7 (E:=E) hs o⟩;exact⟨E',_,by simp [Instr.makeMap,newObj,Sem.run],h1,h2,.mp _ _ _ 0 0 h3⟩
def zH (i:Ti):V:=if i.agg=true then .agg (i.zero.map fun z=>pZ (.sc z)) else match i.zero with|z :: _=>pZ (.sc z)|[]=>.undef
def yl (tt:Table) (T:TypeId) (l c:V):Option (Nat×List V×Nat) :=
  match l,c with
  | .sc (.int _ l),.sc (.int _ c)=>match j2 tt T with
    | some e=>match tt e with
      | some i=>if 0≤l∧l≤c∧i.bytes*c≤281474976710656∧c≤1152921504606846976∧0<i.size∧i.zero.length=i.size∧i.zero.all Value.oneCell'=true∧(i.agg=true∨i.size=1) then some (i.size,List.replicate l.toNat (zH i),c.toNat) else none
      | none=>none
    | none=>none
  | _,_=>none
theorem Cy {i:Ti} (h:i.agg=true∨i.size=1) (hz:i.zero.length=i.size):(zH i).cells=i.zero.map fun z=>pZ (.sc z):=by
  unfold zH;split;·rfl
  · rename_i hn
    have h1 : i.size = 1 := by rcases h with h|h
                               · exact absurd h hn
                               · exact h
    match Yd:i.zero with|[]=>rw [Yd] at hz;simp at hz;omega|[z]=>simp only [bT,jo];unfold pZ;split <;> rfl|_ :: _ :: _=>rw [Yd] at hz;simp at hz;omega
theorem Gm {P:Program} {tt:Table} (ht:TT P tt) {E:Env} {w:World} {a:Act} {st:St} (hs:de E w a st) {key:Nat} (hk:iZ st.mem key) {T:TypeId} {l c:V} {x y:Value} {size cap:Nat} {rs:List V} (hl:cY E l x) (hc:cY E c y)
    (h:yl tt T l c=some (size,rs,cap)) :
    ∃ E' w',(Instr.makeSlice T x y).run P w = .ok (.slice (some ⟨w.heap.size,0,none⟩) rs.length cap) w'∧de E' w' a { st with mem:=dm st.mem key (.rows 0 size rs) }∧ic E w E' w'∧cY E' (.ms key 0 0 rs.length) (.slice (some ⟨w.heap.size,0,none⟩) rs.length cap):=by
  unfold yl at h;split at h;·rename_i k1 l k2 c;obtain rfl:=ta hl;obtain rfl:=ta hc;unfold j2 at h;cases hT:tt T with|none=>rw [hT] at h;simp at h|some iT =>rw [hT] at h;simp only at h;cases he:iT.elem with|none=>rw [he] at h;simp at h|some e =>rw [he] at h;simp only at h;cases hE:tt e with|none=>rw [hE] at h;simp at h|some i =>rw [hE] at h;simp only at h;split at h;(·rename_i rV;obtain⟨h0,h1,hb,vg,nS,C0,qD,TR⟩:=rV;cases h;obtain⟨d,hd,-,ve,-⟩:=ht.desc T iT hT;obtain rfl:=ve e he;obtain⟨info,ud,On,TP,z,hz,Yd⟩:=ht.size e i hE;(have OS:z.cells.size=i.size:=by rw [← C0,← Yd];simp);(have hwl:IntKind.i64.wrap l=l:=by rw [IntWalk.i64_in _ (by omega)]);(have hwc:IntKind.i64.wrap c=c:=by rw [IntWalk.i64_in _ (by omega)]);obtain⟨xs,n7⟩:∃ xs:Array Value,xs=(Array.range (c.toNat*i.size)).map (z.cells[· % z.cells.size]!):=⟨_,rfl⟩;(have fj:(Instr.makeSlice T (.int k1 l) (.int k2 c)).run P w = .ok (.slice (some ⟨w.heap.size,0,none⟩) l.toNat c.toNat) (w.alloc (.cells xs e (0,0))):=by (have e0:(decide (c<0)||decide ((info.bytes:Int)*c>2 ^ 48))=false:=by rw [TP];simp only [gR,decide_eq_false_iff_not];exact⟨by omega,by omega⟩);(have e1:(decide (l<0))=false:=by simp;omega);(have e2:(decide (l>c))=false:=by simp;omega);(have Ye:(zeroValue e).run P (w) = .ok z w:=by simp [zeroValue,fp ud,hz]);simp only [Instr.makeSlice,Sem.run_bind,bp hd,Result.andThen_ok,asInt,asIntOf,Sem.run_pure,fp ud,hwl,hwc,e0,e1,e2,bu,bF,if_false,run_askRoom,gw ud,On];by_cases hn:c.toNat*i.size=0;(·(have KZ:xs = #[]:=by rw [n7,hn];simp);have Ct:∀ f:Nat→Value,Array.map f (Array.range 0) = #[]:=fun f=>Array.eq_empty_of_size_eq_zero (by simp);simp only [hn,if_true,Sem.run_pure,Result.andThen_ok,Ct,KZ];rfl);·simp only [hn,if_false,Sem.run_bind,Ye,Result.andThen_ok,Sem.run_pure];simp [newRow,n7]);obtain⟨E',g1,g2,g3⟩:=hs.vt hk (xs:=xs) (rs:=List.replicate l.toNat (zH i)) (e:=i.size) (c:=c.toNat) e (by rw [n7];simp) (by simp;omega) (fun q row hq=>by rw [arU] at hq;split at hq;(·rename_i C1;cases hq;have rZ:=Cy TR C0;refine⟨by rw [rZ];simpa using C0,fun j cc hj=>?_⟩;rw [rZ,ak,bc] at hj;obtain⟨v,hv,rfl⟩:=hj;(have II:j<i.size:=by rw [← C0];exact (az.1 hv).1);(have bL:q*i.size+j<c.toNat*i.size:=by have:(q+1)*i.size≤c.toNat*i.size:=lJ _ (by omega);rw [nJ] at this;omega);(have ais:(q*i.size+j) % i.size=j:=by rw [Te,Nat.add_mul_mod_self_right,Nat.mod_eq_of_lt II]);refine⟨v,?_,aZ.1 qD v (aE hv),vz (.sc _ _)⟩;rw [n7];(have hzj:z.cells[j]?=some v:=by rw [← dQ,Yd];exact hv);(have hjz:j<z.cells.size:=by omega);simp only [arO,Array.getElem?_range,bL,if_true,cx,OS,ais];rw [getElem!_pos z.cells j hjz];rw [cd hjz] at hzj;exact hzj);·cases hq);refine⟨E',_,?_,g1,g2,?_⟩;(·simpa using fj);·simpa using g3);·cases h
  ·cases h
end Go.Eng
end
section
namespace Go.Eng
variable [bB]
open Go.RowKit (Below)
def o5 (tt:Table) (mem:List bx) (ts:List TypeId) (s x:V):Option (Nat×Nat×Nat×Nat×List V×List V) :=
 match s with
 | .ms b v o l=>match mem[b]? with
  | some (.rows v' eb rs)=>match ts with
   | [t,u]=>match j2 tt t with
    | some e=>match j2 tt u with
     | some _=>match tt e with
      | some i =>
       if v'=v∧eb=i.size∧o+l=rs.length∧0<i.size∧i.bytes≤4096∧i.zero.length=i.size then
        match rowsOf mem i.size x with
        | some xs=>if l+xs.length≤34359738368 then some (i.size,b,v,l,rs.drop o,xs) else none
        | none=>none
       else none
      | none=>none
     | none=>none
    | none=>none
   | _=>none
  | _=>none
 | _=>none
theorem Cz {P:Program} {tt:Table} (ht:TT P tt) {E:Env} {w:World} {a:Act} {st:St} (hs:de E w a st) {ts:Array TypeId} {ty:TypeId} {s x:V} {y z:Value} {size b v l:Nat} {rs0 xs:List V}
  (uD:cY E s y) (OL:cY E x z) (h:o5 tt st.mem ts.toList s x=some (size,b,v,l,rs0,xs)) :
  ∃ u w' E' o' mZ,(Builtin.append_ ts ty #[y,z]).run P w = .ok u w'∧mZ.drop o'=rs0++xs∧o'+(l+xs.length)=mZ.length∧de E' w' a { st with mem:=st.mem.set b (.rows (v+1) size mZ) }∧ic E w E' w'∧cY E' (.ms b (v+1) o' (l+xs.length)) u:=by
 unfold o5 at h;split at h
 ·rename_i b1 v1 o l1;split at h
  ·rename_i v' eb rs hm;split at h
   ·rename_i t u zy;obtain rfl:ts = #[t,u]:=by rw [← cE (xs:=ts),zy]
    split at h
    ·rename_i e he;split at h
     ·rename_i e' heu;split at h
      ·rename_i i hE;split at h
       ·rename_i hc;obtain⟨rfl,rfl,Pa,nS,Al,C0⟩:=hc;split at h
        ·rename_i vH n7;split at h
         ·rename_i hlen;simp only [aF,dy] at h;obtain⟨rfl,rfl,rfl,rfl,rfl,rfl⟩:=h;have und:∀ {t e:TypeId},j2 tt t=some e→P.underlying t=some (.slice e):=fun {t e} he=>by unfold j2 at he;split at he;(·rename_i iu hU;obtain⟨d,hd,-,ve,-⟩:=ht.desc t iu hU;rw [hd,ve e he]);simp at he
          have hd:=und he;have IL:=und heu;obtain⟨info,ud,On,TP,z0,OQ,hz1⟩:=ht.size e i hE;have OS:z0.cells.size=info.size:=by rw [On,← C0,← hz1];simp
          rw [← On] at n7 nS hm ⊢;rw [← TP] at Al;have V3:de E w.drew a st:=hs.drew;obtain⟨xa,xc,rfl,hxc,xA,ry,td⟩:=kE (P:=P) hs OL n7;obtain⟨xa',xc',heq,-,xB,hx3,X8⟩:=kE (P:=P) V3 OL n7;simp only [Value.slice.injEq] at heq;obtain⟨rfl,-,rfl⟩:=heq
          have I4:∀ gZ,gZ<l1+vH.length→Builtin.nextslicecap (l1+vH.length) gZ*info.bytes≤281474976710656:=fun gZ bL =>
           growslice_fits bL (fX (ar2 hlen Al) (by decide))
          have C3:(rs.drop o).length=l1:=by rw [dw];omega
          have K5:(rs.drop o++vH).length=l1+vH.length:=by rw [ab,C3]
          have gq:∀ gZ,l1+vH.length≤grownCap w (l1+vH.length) gZ e:=fun gZ=>grownCap_ge w (l1+vH.length) gZ e;have X0:rowsOf st.mem info.size (.ms b1 v' o l1)=some (rs.drop o):=by (have h1:o+l1≤rs.length:=by omega);simp [rowsOf,hm,h1];rw [bR (by rw [dw];omega)]
          obtain⟨sa,sc,rfl,hsc,A,FV,Gg⟩:=kE (P:=P) V3 uD X0;rw [C3] at FV uD ⊢;have rZ:∀ gZ,(A++xB++Builtin.zeroCells z0.cells (grownCap w (l1+vH.length) gZ e-(l1+vH.length))).size=grownCap w (l1+vH.length) gZ e*info.size:=fun gZ=>by simp only [acH,size_zeroCells,OS,Gg.1,X8.1,C3,← jl];congr 1;have:=gq gZ;omega
          by_cases vF:l1+vH.length≤sc
          ·rcases El uD with ⟨n6,OT⟩|⟨g,eb',c,sa',sc',OT,hb,hl,Tg,vf⟩
           ·simp only [Value.slice.injEq] at OT;obtain⟨rfl,ain,rfl⟩:=OT;have KZ:vH=[]:=cj.1 (by omega);subst KZ;(have om:l1=0:=by omega);subst om;have Ct:rs.drop o=[]:=cj.1 C3;rw [Ct];exact⟨_,w,E,0,[],o4 (ty:=ty) hd IL ud xc xa xA ry,rfl,rfl,hs.Gf hm,ic.refl E w,.ja _ _ _ _⟩
           simp only [Value.slice.injEq] at OT;obtain⟨rfl,-,rfl⟩:=OT;obtain⟨Cw,xl,Mv⟩:=vf;rcases hs.mem b1 _ hm with ⟨-,hn⟩|⟨g',T',cur,c',gD,hh,mO,o2,CX,hf⟩
           ·rw [hb] at hn;cases hn
           rw [hb] at gD;cases gD;by_cases ait:sc=0
           ·
            have KZ:vH=[]:=cj.1 (by omega)
            subst KZ
            have om:l1=0:=by omega
            subst om
            subst ait
            have Ct:rs.drop o=[]:=cj.1 C3
            have fj:(Builtin.append_ #[t,u] ty #[.slice sa 0 0,.slice xa 0 xc]).run P w = .ok (.slice sa 0 0) w:=by
             cases sa with
             | none=>exact o4 (ty:=ty) hd IL ud xc xa xA ry
             | some ad =>
              have hxe:xA.toList=[]:=by
               have:=td.1
               simp at this
               simpa using this
              have hfc:(Builtin.firstCells info.size 0 (.slice xa 0 xc)).run P w = .ok xA w:=ry
              simp [Builtin.append_,bp hd,bp IL,gw ud,Builtin.lenOf,hfc,hxe,storeCells]
            have hle:E.le (E.with b1 (v'+1) (g,info.size,c)):=Env.mQ (hs.dZ b1 _ hm _ (oM v')) _
            have ft:(E.with b1 (v'+1) (g,info.size,c)).cC b1 (v'+1)=some (g,info.size,c):=if_pos ⟨rfl,rfl⟩
            refine⟨_,w,E.with b1 (v'+1) (g,info.size,c),o,rs,fj,by simp [Ct],by omega,hs.renew hm hs.F (aB _) (hs.lt _ _ _ _ _ hb) (fun k B' kD lY IN g' e' c' fK=>⟨rfl,fun e=>by subst e;exact kD (hs.apart _ _ _ _ _ _ _ _ _ fK hb)⟩) ?_ (fun k v2 e2 c2 h=>hs.apart _ _ _ _ _ _ _ _ _ h hb),
             ⟨hle,fun k q g' e' c' kD=>?_,fun ad y hy=>.inl hy,rfl,rfl,rfl,aB _,fun _ _ _=>rfl⟩,?_⟩
            ·exact .inr ⟨g,T',cur,c,ft,hh,mO,o2,fun q row hq=>let ⟨h3,h4⟩:=CX q row hq;⟨h3,fun j cc hj=>let ⟨v,hv,IK,I6⟩:=h4 j cc hj;⟨v,hv,IK,I6.mono (Env.lq hle)⟩⟩,hf⟩
            ·by_cases hq:k=b1∧q=v'+1
             ·obtain⟨rfl,rfl⟩:=hq;rw [ft] at kD;cases kD;exact .inl ⟨_,_,_,_,hb⟩
             have:(E.with b1 (v'+1) (g,info.size,c)).cC k q=E.cC k q:=if_neg hq
             rw [this] at kD;exact .inl ⟨_,_,_,_,kD⟩
            exact .ms _ _ _ _ _ g info.size c _ _ ft (fun h=>absurd h (by simp)) (fun h=>Tg h) ⟨by simp,xl,fun h=>absurd h (ans _)⟩
           obtain rfl:=Mv (by omega);have Am:rs.length*info.size+xA.toList.length≤cur.size:=by have:=td.1;simp only [gb];rw [this,mO,← jl];exact lJ _ (by omega)
           obtain⟨w',oN,IJ,Cu⟩:=lA (P:=P) (g:=g) (T:=T') (rs.length*info.size) xA.toList 0 w cur hh (by simpa using Am) (yi nS td);have fj:(Builtin.append_ #[t,u] ty #[.slice (some ⟨g,o*info.size,none⟩) l1 sc,.slice xa vH.length xc]).run P w = .ok (.slice (some ⟨g,o*info.size,none⟩) (l1+vH.length) sc) w':=by (have Pb:(storeCells (Addr.add ⟨g,o*info.size,none⟩ (l1*info.size)) xA.toList).run P w = .ok () w':=by rw [add_lit,← jl,Pa];exact oN);simp [Builtin.append_,bp hd,bp IL,gw ud,Builtin.lenOf,vF,ry,Pb]
           have hle:E.le (E.with b1 (v'+1) (g,info.size,c)):=Env.mQ (hs.dZ b1 _ hm _ (oM v')) _;have ft:(E.with b1 (v'+1) (g,info.size,c)).cC b1 (v'+1)=some (g,info.size,c):=if_pos ⟨rfl,rfl⟩
           refine⟨_,w',E.with b1 (v'+1) (g,info.size,c),o,rs++vH,fj,by rw [List.drop_append_of_le_length (by omega)],by rw [ab];omega,hs.renew hm (fun ad y hy=>?_) (by rw [Cu.size];exact aB _) (by rw [Cu.size];exact hs.lt _ _ _ _ _ hb) (fun k B' kD lY IN g' e' c' fK=>?_) ?_ (fun k v2 e2 c2 h=>hs.apart _ _ _ _ _ _ _ _ _ h hb),
            ⟨hle,fun k q g' e' c' kD=>?_,fun ad y hy=>.inl hy,Cu.os,Cu.tape,Cu.output,by rw [Cu.size];exact aB _,fun b' gD dL=>Cu.heap b' fun e=>by subst e;exact dL _ _ _ _ hb⟩,?_⟩
           ·have dL:=hs.Ef hf hy;rw [← hs.F ad y hy];simp [World.cell?,Cu.heap _ dL]
           ·(have hgg:g'≠g:=fun e=>by subst e;exact kD (hs.apart _ _ _ _ _ _ _ _ _ fK hb));exact⟨Cu.heap _ hgg,hgg⟩
           ·refine .inr ⟨g,T',_,c,ft,IJ,by rw [l0];exact mO,by rw [ab];omega,?_,hf⟩;intro q row hq;simp only [jm];(have Gh:xA.toList.length=vH.length*info.size:=by simpa using td.1);rw [oV] at hq;split at hq;(·rename_i bL;obtain⟨h3,h4⟩:=CX q row hq;refine⟨h3,fun j cc hj=>?_⟩;obtain⟨v,hv,IK,I6⟩:=h4 j cc hj;(have II:j<info.size:=by rw [← h3];exact (az.1 hj).1);refine⟨v,?_,IK,I6⟩;rw [kc _ _ _ _ Am,if_neg (by have:=Ai bL II;omega)];exact hv);rename_i aip;obtain⟨h3,h4⟩:=td.2 _ row hq;refine⟨h3,fun j cc hj=>?_⟩;obtain⟨v,hv,IK,I6⟩:=h4 j cc hj;(have II:j<info.size:=by rw [← h3];exact (az.1 hj).1);have C1:q-rs.length<vH.length:=(az.1 hq).1;(have hmul:q*info.size=rs.length*info.size+(q-rs.length)*info.size:=by rw [← jl];congr 1;omega);refine⟨v,?_,IK,I6⟩;rw [kc _ _ _ _ Am,if_pos (by have:=Ai C1 II;omega)];dsimp only at hv;rw [← hv,dQ];congr 1;omega
           ·by_cases hq:k=b1∧q=v'+1;(·obtain⟨rfl,rfl⟩:=hq;rw [ft] at kD;cases kD;exact .inl ⟨_,_,_,_,hb⟩);have:(E.with b1 (v'+1) (g,info.size,c)).cC k q=E.cC k q:=if_neg hq;rw [this] at kD;exact .inl ⟨_,_,_,_,kD⟩
           exact .ms _ _ _ _ _ g info.size c _ _ ft (fun _=>rfl) (fun h=>Tg h) ⟨vF,xl,fun _=>rfl⟩
          have bL:sc<l1+vH.length:=by omega
          have fj:=Aj (ty:=ty) hd IL ud OQ sa l1 sc vH.length xc xa A xB FV hx3 bL (by omega) (I4 sc bL);have hle:E.le (E.with b1 (v'+1) (w.heap.size,info.size,grownCap w (l1+vH.length) sc e)):=Env.mQ (hs.dZ b1 _ hm _ (oM v')) _;have ft:(E.with b1 (v'+1) (w.heap.size,info.size,grownCap w (l1+vH.length) sc e)).cC b1 (v'+1)=some (w.heap.size,info.size,grownCap w (l1+vH.length) sc e):=if_pos ⟨rfl,rfl⟩
          refine⟨_,_,E.with b1 (v'+1) (w.heap.size,info.size,grownCap w (l1+vH.length) sc e),0,rs.drop o++vH,fj,rfl,by rw [K5];omega,hs.renew hm (fun ad y hy=>?_) (by simp) (by simp) (fun k B' kD lY IN g' e' c' fK=>?_) ?_ (fun k v2 e2 c2 h=>absurd (hs.lt _ _ _ _ _ h) (ans _)),
           ⟨hle,fun k q g' e' c' kD=>?_,fun ad y hy=>.inl hy,rfl,rfl,rfl,by simp,fun b' gD dL=>ed w.drew _ b' gD⟩,?_⟩
          ·rw [World.cell?_alloc_lt w.drew _ ad (World.block_lt_of_cell? w ad (hs.F ad y hy))];exact hs.F ad y hy
          ·have:=hs.lt _ _ _ _ _ fK;exact⟨ed w.drew _ g' this,by omega⟩
          ·refine .inr ⟨w.heap.size,e,_,_,ft,heap_alloc_new w.drew _,rZ sc,by rw [K5];exact gq sc,?_,fun o=>?_⟩;(·intro q row hq;obtain⟨h3,h4⟩:=mR (C:=Builtin.zeroCells z0.cells (grownCap w (l1+vH.length) sc e-(l1+vH.length))) Gg X8 q row hq;exact⟨h3,fun j cc hj=>let ⟨v,hv,IK,I6⟩:=h4 j cc hj;⟨v,hv,IK,I6.mono (Env.lq hle)⟩⟩);show E.F _=none;cases hx:E.F ⟨w.heap.size,o,none⟩ with|none=>rfl|some x=>have:=World.block_lt_of_cell? w _ (hs.F _ _ hx);simp at this
          ·by_cases hq:k=b1∧q=v'+1;(·obtain⟨rfl,rfl⟩:=hq;rw [ft] at kD;cases kD;exact .inr (aB _));have:(E.with b1 (v'+1) (w.heap.size,info.size,grownCap w (l1+vH.length) sc e)).cC k q=E.cC k q:=if_neg hq;rw [this] at kD;exact .inl ⟨_,_,_,_,kD⟩
          exact .ms _ _ _ _ _ w.heap.size info.size _ _ _ ft (fun _=>by simp) (fun _=>⟨rfl,rfl⟩) ⟨gq sc,cr _,fun _=>by simp⟩
         simp at h
        simp at h
       simp at h
      simp at h
     simp at h
    simp at h
   simp at h
  simp at h
 simp at h
end Go.Eng
end
