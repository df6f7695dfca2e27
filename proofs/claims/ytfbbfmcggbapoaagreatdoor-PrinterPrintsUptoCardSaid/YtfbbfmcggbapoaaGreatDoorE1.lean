import Derived.Orders
import Derived.Below
import Derived.Laws.AppendOwn
import Derived.Laws.Cells
import Derived.Laws.Entries
import Derived.Laws.ResultCell
import Derived.Laws.BytesArg
import Derived.Laws.Append
import Derived.IntWalk
open Array renaming append_assoc->awy,foldl_toList->awa,getD_eq_getD_getElem?->lu,getElem?_append_left->awm,getElem?_append_right->awV,getElem?_eq_getElem->cb,getElem?_eq_none->avG,getElem?_eq_some_iff->dT,getElem?_map->awb,getElem?_modify->avE,getElem?_setIfInBounds_ne->Ft,getElem?_toList->dV,isEmpty_iff_size_eq_zero->awt,length_toList->gD,size_append->afF,size_map->awo,toArray_toList->cJ,toList_append->AE,toList_filter->awd,toList_push->awu,toList_zipIdx->awG
open Bool renaming and_eq_true->aG,and_true->aJ,eq_iff_iff->jA,false_eq_true->bw,or_eq_false_iff->eH,or_self->bg
open Go.RowKit.Below renaming heap_alloc->eB
open List renaming all_cons->cI,all_eq_true->ba,all_nil->ew,drop_eq_getElem_cons->ed,drop_eq_nil_of_le->dq,drop_zero->ze,ext_getElem?->eh,findIdx?_cons->awz,foldl_cons->kZ,getD_eq_getElem?_getD->eY,getElem?_append->po,getElem?_append_left->bz,getElem?_append_right->bm,getElem?_cons_succ->cu,getElem?_cons_zero->aI,getElem?_drop->av9,getElem?_eq_getElem->bf,getElem?_eq_none->ep,getElem?_eq_some_iff->az,getElem?_map->ae,getElem?_replicate->awh,getElem?_set->cf,getElem?_set_ne->cT,getElem?_take->gU,getElem?_take_of_lt->hH,head?_eq_getElem?->awN,isEmpty_iff->av6,length_append->ab,length_cons->af,length_drop->eL,length_eq_zero_iff->b9,length_map->aC,length_nil->ah,length_take->eK,map_cons->bo,map_nil->dR,mem_cons->dp,mem_cons_of_mem->bZ,mem_cons_self->cP,mem_of_getElem?->aw,take_nil->avD,take_of_length_le->b8,take_zero->dF
open Nat renaming add_assoc->eD,add_comm->VQ,add_mul->jF,add_zero->fI,div_add_mod->awq,div_lt_iff_lt_mul->awK,eq_zero_or_pos->Dt,le_refl->aA,le_trans->gw,lt_irrefl->aq6,lt_of_lt_of_le->rV,lt_or_ge->bn,lt_succ_self->o6,mod_lt->avF,mul_le_mul->awn,mul_le_mul_right->lV,mul_one->sE,pos_of_ne_zero->awx,sub_self->dW,succ_mul->n6,zero_add->dc
open Option renaming getD_none->av5,getD_some->fS,map_eq_some_iff->bp,map_none->av3,map_some->bU
open Option.some renaming injEq->aD
open Prod.mk renaming injEq->dK
set_option linter.all false
section
theorem yJ.{u,v} {α:Sort u} {β:Sort v} {a b:α} (f:α->β) (h:a=b):f a=f b:=congrArg f h
theorem qB {p:Prop} [inst:Decidable p] (h:decide p=true):p:=of_decide_eq_true h
theorem k9 {p:Prop} [inst:Decidable p] (h:decide p=false):¬ p:=of_decide_eq_false h
theorem gH.{u} {c:Prop} {h:Decidable c} (hc:c) {α:Sort u} {t e:α}:ite c t e=t:=if_pos hc
theorem g5.{u} {c:Prop} {h:Decidable c} (hc:¬ c) {α:Sort u} {t e:α}:ite c t e=e:=if_neg hc
abbrev g6:=ByteArray
abbrev g7:=Go.Program
abbrev g9:=Go.TypeId
end
section
namespace Go.Eng
class bJ where
 n:Int
 κ:Int->Option Bool
 ok:∀ k b,κ k=some b->decide (k<=n)=b
 g:Option Nat
 uO:Nat->Option (List Value)
variable [bJ]
structure Gl (F:Addr->Option Value):Prop where
 n:∀ g,bJ.g=some g->F ⟨g,0,none⟩=some (.int .i64 bJ.n)
 t:∀ g cs (j:Nat) x,bJ.uO g=some cs->cs[j]?=some x->F ⟨g,j,none⟩=some x
theorem Gl.mono {F F':Addr->Option Value} (h:Gl F) (hF:∀ ad x,F ad=some x->F' ad=some x):Gl F':=⟨fun g hg=>hF _ _ (h.n g hg),fun g cs j x h1 h2=>hF _ _ (h.t g cs j x h1 h2)⟩
inductive V where
 | undef
 | sc (v:Value)
 | agg (cs:List V)
 | slice (rows:List V)
 | ms (b v s l:Nat)
 | ptr (b o:Nat)
 | iI (b v i o:Nat)
 | fQ (cs:List V)
 | jh (f:Fn) (first cap:List V)
 | fZ (vs:List V)
 | kx (b:Nat)
 | mp (b:Nat)
 | gn
 | full (rows:List V)
 deriving Inhabited
def V.cells:V->List V
 | .agg cs=>cs
 | v=>[v]
structure Env where
 F:Addr->Option Value
 cE:Nat->Nat->Option (Nat×Nat×Nat)
 gl:Gl F
def Env.pure (E:Env):Env := { F:=E.F,cE:=fun _ _=>none,gl:=E.gl }
inductive df:Env->V->Value->Prop
 | undef (E:Env) (x:Value):df E .undef x
 | sc (E:Env) (v:Value):df E (.sc v) v
 | agg (E:Env) (cs:List V) (xs:Array Value) (hl:cs.length=xs.size) (h:∀ (i:Nat) (c:V) (x:Value),cs[i]?=some c->xs[i]?=some x->df E c x):df E (.agg cs) (.agg xs)
 | slice (E:Env) (rows:List V) (a:Option Addr) (cap vz:Nat) (ad:Addr) (xf:Nat->Nat->Value) (ha:rows≠[]->a=some ad) (mF:rows.length<=cap)
   (hs:∀ (i:Nat) (row:V),rows[i]?=some row->row.cells.length=vz)
   (hF:∀ (i:Nat) (row:V) (j:Nat) (c:V),rows[i]?=some row->row.cells[j]?=some c->E.F (ad.add (i*vz+j))=some (xf i j))
   (h1:∀ (i:Nat) (row:V) (j:Nat) (c:V),rows[i]?=some row->row.cells[j]?=some c->(xf i j).oneCell'=true)
   (h:∀ (i:Nat) (row:V) (j:Nat) (c:V),rows[i]?=some row->row.cells[j]?=some c->df E.pure c (xf i j)):df E (.slice rows) (.slice a rows.length cap)
 | ms (E:Env) (b v s l g e c:Nat) (a:Option Addr) (cap:Nat) (hb:E.cE b v=some (g,e,c)) (hl:0<l->a=some ⟨g,s*e,none⟩) (h0:s=0->a=some ⟨g,0,none⟩/\cap=c) (hc:l<=cap/\s+cap=c/\(0<cap->a=some ⟨g,s*e,none⟩)) :
   df E (.ms b v s l) (.slice a l cap)
 | jr (E:Env) (b v s:Nat):df E (.ms b v s 0) (.slice none 0 0)
 | ptr (E:Env) (b o g e c:Nat) (hb:E.cE b 0=some (g,e,c)):df E (.ptr b o) (.pointer (some ⟨g,o,none⟩))
 | iI (E:Env) (b v i o g e c:Nat) (hb:E.cE b v=some (g,e,c)):df E (.iI b v i o) (.pointer (some ⟨g,i*e+o,none⟩))
 | fQ (E:Env) (cs:List V) (ad:Addr) (xf:Nat->Value) (hF:∀ (j:Nat) (c:V),cs[j]?=some c->E.F (ad.add j)=some (xf j)) (h:∀ (j:Nat) (c:V),cs[j]?=some c->df E.pure c (xf j)) :
   df E (.fQ cs) (.pointer (some ad))
 | jh (E:Env) (f:Fn) (first cap:List V) (xs ys:Array Value) (hx:first.length=xs.size) (hy:cap.length=ys.size)
   (h1:∀ (i:Nat) (c:V) (x:Value),first[i]?=some c->xs[i]?=some x->df E c x) (h2:∀ (i:Nat) (c:V) (x:Value),cap[i]?=some c->ys[i]?=some x->df E c x):df E (.jh f first cap) (.func f xs ys)
 | kx (E:Env) (b l e c:Nat) (hb:E.cE b 0=some (l,e,c)):df E (.kx b) (.func (.yield l) #[] #[])
 | mp (E:Env) (b l e c:Nat) (hb:E.cE b 0=some (l,e,c)):df E (.mp b) (.map (some l))
 | gn (E:Env):df E .gn (.int .i64 bJ.n)
 | full (E:Env) (rows:List V) (a:Option Addr) (h:df E (.slice rows) (.slice a rows.length rows.length)):df E (.full rows) (.slice a rows.length rows.length)
 | fZ (E:Env) (vs:List V) (xs:Array Value) (hl:vs.length=xs.size) (h:∀ (i:Nat) (c:V) (x:Value),vs[i]?=some c->xs[i]?=some x->df E c x):df E (.fZ vs) (.tuple xs)
def dh (E:Env) (vs:List V) (xs:List Value):Prop:=vs.length=xs.length/\∀ (i:Nat) (v:V) (x:Value),vs[i]?=some v->xs[i]?=some x->df E v x
theorem Env.OO {a b:Env} (h1:a.F=b.F) (h2:a.cE=b.cE):a=b:=by cases a;cases b;dsimp only at h1 h2;subst h1;subst h2;rfl
structure Env.le (E E':Env):Prop where
 F:∀ ad x,E.F ad=some x->E'.F ad=some x
 cE:∀ b v t,E.cE b v=some t->E'.cE b v=some t
theorem Env.le_refl (E:Env):E.le E:=⟨fun _ _ h=>h,fun _ _ _ h=>h⟩
theorem Env.le_trans {a b c:Env} (h:a.le b) (k:b.le c):a.le c:=⟨fun ad x hx=>k.F _ _ (h.F _ _ hx),fun b v t hx=>k.cE _ _ _ (h.cE _ _ _ hx)⟩
theorem Env.lG {a b:Env} (h:a.le b):a.pure.le b.pure:=⟨h.F,fun _ _ _ h=>h⟩
theorem Env.ud (a:Env):a.pure.le a:=⟨fun _ _ h=>h,fun _ _ _ h=>by simp [Env.pure] at h⟩
theorem df.mono {E E':Env} {v:V} {x:Value} (h:df E v x) (hle:E.le E'):df E' v x:=by induction h generalizing E' with|undef=>exact .undef _ _|sc=>exact .sc _ _|agg E cs xs hl h ih=>exact .agg _ _ _ hl fun i c x hc hx=>ih i c x hc hx hle|slice E rows a cap vz ad xf ha mF hs hF h1 h ih=>exact .slice _ _ _ _ vz ad xf ha mF hs (fun i row j c hi hj=>hle.F _ _ (hF i row j c hi hj)) h1 fun i row j c hi hj=>ih i row j c hi hj (Env.lG hle)|ms E b v s l g e c a cap hb hl h0 hc=>exact .ms _ _ _ _ _ g e c _ _ (hle.cE _ _ _ hb) hl h0 hc|jr E b v s=>exact .jr _ _ _ _|ptr E b o g e c hb=>exact .ptr _ _ _ g e c (hle.cE _ _ _ hb)|iI E b v i o g e c hb=>exact .iI _ _ _ _ _ g e c (hle.cE _ _ _ hb)|fQ E cs ad xf hF h ih=>exact .fQ _ _ _ xf (fun j c hj=>hle.F _ _ (hF j c hj)) fun j c hj=>ih j c hj (Env.lG hle)|jh E f first cap xs ys hx hy h1 h2 ih1 ih2=>exact .jh _ _ _ _ _ _ hx hy (fun i c x hc hx=>ih1 i c x hc hx hle) fun i c x hc hx=>ih2 i c x hc hx hle|kx E b l e c hb=>exact .kx _ _ l e c (hle.cE _ _ _ hb)|mp E b l e c hb=>exact .mp _ _ l e c (hle.cE _ _ _ hb)|gn E=>exact .gn _|full E rows a h ih=>exact .full _ _ _ (ih hle)|fZ E vs xs hl h ih=>exact .fZ _ _ _ hl fun i c x hc hx=>ih i c x hc hx hle
theorem dh.mono {E E':Env} {vs:List V} {xs:List Value} (h:dh E vs xs) (hle:E.le E'):dh E' vs xs :=
 ⟨h.1,fun i v x hv hx=>(h.2 i v x hv hx).mono hle⟩
theorem dh.nil (E:Env):dh E [] []:=⟨rfl,fun i v x h=>by simp at h⟩
theorem dh.cons {E:Env} {v:V} {x:Value} {vs:List V} {xs:List Value} (h:df E v x) (hs:dh E vs xs):dh E (v :: vs) (x :: xs):=by refine⟨by simp [hs.1],fun i=>?_⟩;cases i with|zero=>intro v' x' hv hx;simp at hv hx;subst hv;subst hx;exact h|succ i=>intro v' x' hv hx;simp at hv hx;exact hs.2 i v' x' hv hx
theorem dh.of_cons {E:Env} {v:V} {vs:List V} {xs:List Value} (h:dh E (v :: vs) xs):∃ x ys,xs=x :: ys/\df E v x/\dh E vs ys:=by cases xs with|nil=>have:=h.1;simp at this|cons x ys=>exact⟨x,ys,rfl,h.2 0 v x rfl rfl,by have:=h.1;simpa using this,fun i v' x' hv hx=>h.2 (i+1) v' x' (by simpa using hv) (by simpa using hx)⟩
theorem dh.of_nil {E:Env} {xs:List Value} (h:dh E [] xs):xs=[]:=by have:=h.1;simp at this;exact b9.1 this.symm
theorem dh.append {E:Env} {vs us:List V} {xs ys:List Value} (h:dh E vs xs) (k:dh E us ys):dh E (vs++us) (xs++ys):=by
 refine⟨by simp [h.1,k.1],fun i v x hv hx=>?_⟩;by_cases hi:i<vs.length;·rw [bz hi] at hv;rw [bz (h.1 ▸ hi)] at hx;exact h.2 i v x hv hx
 rw [bm (by omega)] at hv;rw [bm (by have:=h.1;omega),<- h.1] at hx;exact k.2 _ v x hv hx
theorem dh.get {E:Env} {vs:List V} {xs:List Value} (h:dh E vs xs) {i:Nat} {v:V} (hv:vs[i]?=some v):∃ x,xs[i]?=some x/\df E v x:=by
 have hi:i<xs.length:=by rw [<- h.1];exact (az.1 hv).1
 exact⟨xs[i],bf hi,h.2 i v _ hv (bf hi)⟩
theorem dh.drop {E:Env} {vs:List V} {xs:List Value} (h:dh E vs xs) (n:Nat):dh E (vs.drop n) (xs.drop n) :=
 ⟨by simp [h.1],fun i v x hv hx=>h.2 (n+i) v x (by simpa using hv) (by simpa using hx)⟩
theorem dh.take {E:Env} {vs:List V} {xs:List Value} (h:dh E vs xs) (n:Nat):dh E (vs.take n) (xs.take n):=by
 refine⟨by simp [h.1],fun i v x hv hx=>?_⟩;have hi:i<n:=by by_cases hi:i<n;(·exact hi);rw [gU] at hv;simp [hi] at hv
 rw [hH hi] at hv hx;exact h.2 i v x hv hx
theorem dh.set {E:Env} {vs:List V} {xs:List Value} (h:dh E vs xs) (n:Nat) {v:V} {x:Value} (hv:df E v x):dh E (vs.set n v) (xs.set n x):=by
 refine⟨by simp [h.1],fun i v' x' Bg VU=>?_⟩;by_cases hi:n=i;·subst hi;rw [cf] at Bg VU;simp only [if_true] at Bg VU;split at Bg;(·split at VU;(·simp at Bg VU;subst Bg;subst VU;exact hv);simp at VU);simp at Bg
 rw [cT hi] at Bg VU;exact h.2 i v' x' Bg VU
theorem df.cells {E:Env} {v:V} {x:Value} (h:df E v x) (hu:v ≠ .undef) (hs:∀ y,v = .sc y->∀ cs,y ≠ .agg cs):dh E v.cells x.cells.toList:=by cases h with|undef=>exact absurd rfl hu|sc =>(have:x.cells = #[x]:=by have:=hs x rfl;cases x <;> simp [Value.cells] at this ⊢);simp only [V.cells,this];exact .cons (.sc _ _) (.nil _)|agg _ cs xs hl h=>exact⟨by simpa [V.cells,Value.cells] using hl,fun i c x hc hx=>h i c x hc (by simpa [Value.cells] using hx)⟩|slice _ rows a cap vz ad xf ha mF hz hF h1 h=>exact .cons (.slice _ _ _ _ vz ad xf ha mF hz hF h1 h) (.nil _)|ms _ b v s l g e c a cap hb hl h0 hc=>exact .cons (.ms _ _ _ _ _ g e c _ _ hb hl h0 hc) (.nil _)|jr _ b v s=>exact .cons (.jr _ _ _ _) (.nil _)|ptr _ b o g e c hb=>exact .cons (.ptr _ _ _ g e c hb) (.nil _)|iI _ b v i o g e c hb=>exact .cons (.iI _ _ _ _ _ g e c hb) (.nil _)|fQ _ cs ad xf hF h=>exact .cons (.fQ _ _ _ xf hF h) (.nil _)|jh _ f first cap xs ys hx hy h1 h2=>exact .cons (.jh _ _ _ _ _ _ hx hy h1 h2) (.nil _)|kx _ b l e c hb=>exact .cons (.kx _ _ l e c hb) (.nil _)|mp _ b l e c hb=>exact .cons (.mp _ _ l e c hb) (.nil _)|gn=>exact .cons (.gn _) (.nil _)|full _ rows a h=>exact .cons (.full _ _ _ h) (.nil _)|fZ _ vs xs hl h=>exact .cons (.fZ _ _ _ hl h) (.nil _)
end Go.Eng
end
section
namespace Go.Eng
variable [bJ]
structure Ti where
 size:Nat
 agg:Bool
 zero:List Value
 bT:List (Nat×Nat):=[]
 elem:Option g9:=none
 bytes:Nat:=0
 deriving Inhabited
abbrev Table:=g9->Option Ti
def vF:List Value->Bool
 | [.string _]=>true
 | _=>false
structure TT (P:g7) (tt:Table):Prop where
 size:∀ t i,tt t=some i->∃ info,P.info? t=some info/\info.size=i.size/\info.bytes=i.bytes/\∃ z,info.zero=some z/\z.cells.toList=i.zero
 desc:∀ t i,tt t=some i->∃ d,P.underlying t=some d/\(i.agg=true↔((∃ fs,d = .struct fs)\/∃ n e,d = .array n e)) /\
  (∀ e,i.elem=some e->d = .slice e) /\
  (∀ (f off sz:Nat),i.bT[f]?=some (off,sz)->∃ fs fd inf,d = .struct fs/\fs.size=i.bT.length/\fs[f]?=some fd/\fd.offset=off/\P.info? fd.type=some inf/\inf.size=sz/\sz≠0)
 str:∀ t i,tt t=some i->vF i.zero=true->i.agg=false->P.underlying t=some .string
def dL {α:Type} (P:g7):Sem α->Option α
 | .pure a=>some a
 | .program k=>dL P (k P)
 | .mark _ k=>dL P k
 | _=>none
theorem ia {α:Type} {P:g7} (s:Sem α) {v:α} (h:dL P s=some v) (w:World):s.run P w = .ok v w:=by induction s with|pure a=>simp [dL] at h;subst h;rfl|program k ih=>exact ih P h|mark m k ih=>exact ih h|_=>simp [dL] at h
def j6:Value->V
 | .agg cs=>.agg (cs.toList.map V.sc)
 | .tuple vs=>.fZ (vs.toList.map V.sc)
 | v=>.sc v
theorem mQ (E:Env) (cs:Array Value) (i:Nat) (c:V) (x:Value) (hc:(cs.toList.map V.sc)[i]?=some c) (hx:cs[i]?=some x):df E c x:=by simp only [ae,dV,hx,bU,aD] at hc;subst hc;exact .sc _ _
theorem lx (E:Env) (v:Value):df E (j6 v) v:=by cases v with|agg cs=>exact .agg _ _ _ (by simp) (mQ E cs)|tuple cs=>exact .fZ _ _ _ (by simp) (mQ E cs)|_=>exact .sc _ _
inductive bx where
 | hole
 | dead
 | box (cs:List V)
 | rows (v e:Nat) (rs:List V)
 | sF (v e:Nat) (rs:List V)
 | loop (s:LoopState) (oe:Option Code) (fr:List V) (params:Array Tmp) (assign body:Code)
 | map (dU:List (Value×Nat×V)) (clock:Nat)
 | jX (m since:Nat) (seen:List Nat) (last:Nat)
 | n9 (s:g6) (pos:Nat)
 | ox (T:g9) (kb v l:Nat)
 | pq (T:g9) (v:Nat) (O:List UInt8)
 | oG
 deriving Inhabited
structure St where
 fr:List V
 mem:List bx
def St.eval (st:St):Operand->V
 | .tmp t=>st.fr.getD t .undef
 | .const v=>j6 v
 | .global g=>if bJ.g=some g then .fQ [.gn] else match bJ.uO g with|some cs=>.fQ (cs.map V.sc)|none=>.undef
 | .func f=>.sc (.func (.func f) #[] #[])
def St.put (st:St) (dst:Option Tmp) (v:V):St :=
 match dst with
 | some d => { st with fr:=st.fr.set d v }
 | none=>st
def mR (E:Env) (e:Nat) (rs:List V) (at_:Nat->Option Value):Prop :=
 ∀ (i:Nat) (row:V),rs[i]?=some row->row.cells.length=e/\∀ (j:Nat) (c:V),row.cells[j]?=some c->∃ x,at_ (i*e+j)=some x/\x.oneCell'=true/\df E c x
def gX (E:Env) (dU:List (Value×Nat×V)) (es:List MapEntry):Prop :=
 dU.length=es.length/\∀ (i:Nat) (k:Value×Nat×V) (e:MapEntry),dU[i]?=some k->es[i]?=some e->e.key=k.1/\e.born=k.2.1/\df E k.2.2 e.val
theorem gX.mono {E E':Env} {dU:List (Value×Nat×V)} {es:List MapEntry} (h:gX E dU es) (hle:E.le E'):gX E' dU es :=
 ⟨h.1,fun i k e hk he=>let ⟨h1,h2,h3⟩:=h.2 i k e hk he;⟨h1,h2,h3.mono hle⟩⟩
def k6 (E:Env) (w:World) (k:Nat):bx->Prop
 | .hole=>∀ v,E.cE k v=none
 | .dead=>True
 | .box cs=>∃ g T xs,E.cE k 0=some (g,0,0)/\w.heap[g]?=some (.cells xs T (0,0))/\dh E cs xs.toList/\∀ o,E.F ⟨g,o,none⟩=none
 | .rows v e rs=>(rs=[]/\E.cE k v=none)\/∃ g T xs c,E.cE k v=some (g,e,c)/\w.heap[g]?=some (.cells xs T (0,0))/\xs.size=c*e/\rs.length<=c/\mR E.pure e rs (fun o=>xs[o]?)/\∀ o,E.F ⟨g,o,none⟩=none
 | .sF v e rs=>(rs=[]/\E.cE k v=none)\/∃ g c,E.cE k v=some (g,e,c)/\rs.length<=c/\mR E.pure e rs (fun o=>E.F ⟨g,o,none⟩)
 | .loop s oe fr params assign body=>∃ l fn tmps db,E.cE k 0=some (l,0,0)/\w.heap[l]?=some (.loop { state:=s,pending:=oe,fn:=fn,tmps:=tmps,params:=params,assign:=assign,body:=body,defers:=db })/\dh E fr tmps.toList/\∀ o,E.F ⟨l,o,none⟩=none
 | .map dU clock=>∃ g es,E.cE k 0=some (g,0,0)/\w.heap[g]?=some (.map es clock)/\gX E dU es.toList/\∀ o,E.F ⟨g,o,none⟩=none
 | .jX m since seen last=>∃ g gm e c,E.cE k 0=some (g,0,0)/\E.cE m 0=some (gm,e,c)/\w.heap[g]?=some (.mapIter (some gm) since seen.toArray last)/\∀ o,E.F ⟨g,o,none⟩=none
 | .n9 s pos=>∃ g,E.cE k 0=some (g,0,0)/\w.heap[g]?=some (.stringIter s pos)/\∀ o,E.F ⟨g,o,none⟩=none
 | .ox T kb v l=>∃ g T' p s,E.cE k 0=some (g,0,0)/\w.heap[g]?=some (.cells #[p,s] T' (0,0))/\((p = .pointer none/\T'=T)\/p = .pointer (some ⟨g,0,none⟩))/\df E (.ms kb v 0 l) s/\∀ o,E.F ⟨g,o,none⟩=none
 | .pq T v O=>(O=[]/\E.cE k v=none)\/∃ g cur c,E.cE k v=some (g,1,c)/\w.heap[g]?=some (.cells cur T (0,0))/\cur.size=c/\(O.length<=c/\c<=maxLen)/\(∀ (j:Nat) (b:UInt8),O[j]?=some b->cur[j]?=some (Value.int .u8 (b.toNat:Int)))/\∀ o,E.F ⟨g,o,none⟩=none
 | .oG=>∃ g,E.cE k 0=some (g,0,0)/\w.heap[g]?=some (.mapIter none 0 #[] 0)/\∀ o,E.F ⟨g,o,none⟩=none
def bx.ej:bx->Nat
 | .rows v _ _=>v
 | .sF v _ _=>v
 | .pq _ v _=>v
 | _=>0
def bx.held:bx->Bool
 | .hole|.dead=>false
 | _=>true
structure dt (E:Env) (w:World) (a:Act) (st:St):Prop where
 F:∀ ad x,E.F ad=some x->w.cell? ad=some x
 lt:∀ k v g e c,E.cE k v=some (g,e,c)->g<w.heap.size
 mem:∀ k B,st.mem[k]?=some B->k6 E w k B
 top:∀ k,st.mem.length<=k->∀ v,E.cE k v=none
 ej:∀ k B,st.mem[k]?=some B->∀ v,B.ej<v->E.cE k v=none
 apart:∀ k k' v v' g e c e' c',E.cE k v=some (g,e,c)->E.cE k' v'=some (g,e',c')->k=k'
 fr:dh E st.fr a.tmps.toList
theorem dt.eval {E:Env} {w:World} {a:Act} {st:St} (h:dt E w a st) (x:Operand):df E (st.eval x) (a.eval x):=by cases x with|tmp t =>(simp only [St.eval,Act.eval];cases hv:st.fr[t]? with|none=>rw [eY,hv];exact .undef _ _|some v =>obtain⟨x,hx,hr⟩:=h.fr.get hv;rw [eY,hv,lu];simp only [dV] at hx;rw [hx];exact hr)|const v=>exact lx E v|global g =>(simp only [St.eval,Act.eval];split;(·rename_i hg;refine .fQ _ _ _ (fun _=>.int .i64 bJ.n) (fun j c hc=>?_) fun j c hc=>?_;(·match j with|0=>exact E.gl.n g hg|j+1=>simp at hc);match j with|0=>simp at hc;subst hc;exact .gn _|j+1=>simp at hc);split;(·rename_i cs nj;refine .fQ _ _ _ (fun j=>(cs[j]?).getD undef) (fun j c hc=>?_) fun j c hc=>?_;(·simp only [ae,bp] at hc;obtain⟨x,hx,rfl⟩:=hc;(have h1:(Addr.mk g 0 none).add j=⟨g,j,none⟩:=by unfold Addr.add;by_cases hj:j=0 <;> simp [hj]);rw [h1,hx];exact E.gl.t g cs j x nj hx);simp only [ae,bp] at hc;obtain⟨x,hx,rfl⟩:=hc;rw [hx];exact .sc _ _);exact .undef _ _)|func f=>exact .sc _ _
structure iF (E:Env) (w:World) (E':Env) (w':World):Prop where
 le:E.le E'
 cE:∀ k v g e c,E'.cE k v=some (g,e,c)->(∃ k0 v0 e0 c0,E.cE k0 v0=some (g,e0,c0))\/w.heap.size<=g
 F:∀ ad x,E'.F ad=some x->E.F ad=some x\/w.heap.size<=ad.block\/∃ k0 v0 e0 c0,E.cE k0 v0=some (ad.block,e0,c0)
 os:w'.os=w.os
 tape:w'.tape=w.tape
 output:w'.output=w.output
 size:w.heap.size<=w'.heap.size
 heap:∀ b,b<w.heap.size->(∀ k v e c,E.cE k v≠some (b,e,c))->w'.heap[b]?=w.heap[b]?
theorem iF.refl (E:Env) (w:World):iF E w E w :=
 ⟨E.le_refl,fun k v g e c h=>.inl ⟨k,v,e,c,h⟩,fun _ _ h=>.inl h,rfl,rfl,rfl,aA _,fun _ _ _=>rfl⟩
theorem iF.trans {E E1 E2:Env} {w w1 w2:World} (h:iF E w E1 w1) (k:iF E1 w1 E2 w2):iF E w E2 w2:=by
 refine⟨Env.le_trans h.le k.le,?_,?_,k.os.trans h.os,k.tape.trans h.tape,k.output.trans h.output,gw h.size k.size,?_⟩;·intro q v g e c hq;(rcases k.cE q v g e c hq with ⟨k0,v0,e0,c0,h0⟩|h0);(·exact h.cE _ _ _ _ _ h0);exact .inr (gw h.size h0)
 ·intro ad x hx;(rcases k.F ad x hx with h0|h0|⟨k0,v0,e0,c0,h0⟩);(·exact h.F _ _ h0);(·exact .inr (.inl (gw h.size h0)));(rcases h.cE _ _ _ _ _ h0 with h1|h1);(·exact .inr (.inr h1));exact .inr (.inl h1)
 intro b hb dI;rw [k.heap b (rV hb h.size) ?_,h.heap b hb dI];intro q v e c hq;rcases h.cE _ _ _ _ _ hq with ⟨k0,v0,e0,c0,h0⟩|h0
 ·exact dI _ _ _ _ h0
 omega
theorem iF.drew (E:Env) (w:World):iF E w E w.drew :=
 ⟨E.le_refl,fun k v g e c h=>.inl ⟨k,v,e,c,h⟩,fun _ _ h=>.inl h,rfl,rfl,rfl,aA _,fun _ _ _=>rfl⟩
theorem dt.drew {E:Env} {w:World} {a:Act} {st:St} (h:dt E w a st):dt E w.drew a st :=
 ⟨h.F,h.lt,fun k B hB=>by have:=h.mem k B hB;cases B <;> exact this,h.top,h.ej,h.apart,h.fr⟩
theorem dt.put {E:Env} {w:World} {a:Act} {st:St} (h:dt E w a st) (dst:Option Tmp) {v:V} {x:Value} (hr:df E v x):dt E w (a.put dst x) (st.put dst v):=by cases dst with|none=>exact h|some d=>exact⟨h.F,h.lt,h.mem,h.top,h.ej,h.apart,by simpa [St.put,Act.put] using h.fr.set d hr⟩
end Go.Eng
end
section
namespace Go.Eng
variable [bJ]
def j1 (tt:Table) (T:g9) (cs:List V):Option V :=
 match tt T with
 | some i=>if i.agg then (if i.size<=cs.length then some (.agg (cs.take i.size)) else none) else cs.head?
 | none=>none
def rowOf (mem:List bx) (b v i:Nat):Option V :=
 match mem[b]? with
 | some (.rows v' _ rs)=>if v'=v then rs[i]? else none
 | some (.sF v' _ rs)=>if v'=v then rs[i]? else none
 | _=>none
def qs (tt:Table) (mem:List bx) (T:g9):V->Option V
 | .ptr b o=>match mem[b]? with|some (.box cs)=>j1 tt T (cs.drop o)|_=>none
 | .iI b v i o=>match rowOf mem b v i with|some row=>j1 tt T (row.cells.drop o)|none=>none
 | .fQ cs=>j1 tt T cs
 | _=>none
def Wh (tt:Table) (S:g9) (f:Nat):Option Nat:=match tt S with|some i=>(match i.bT[f]? with|some p=>some p.1|none=>none)|none=>none
def ke (tt:Table) (T:g9):Option g9:=match tt T with|some i=>i.elem|none=>none
def pw (tt:Table) (T:g9):Option Nat:=match tt T with|some i=>some i.size|none=>none
def fieldAt (off:Nat):V->Option V
 | .ptr b o=>some (.ptr b (o+off))
 | .iI b v i o=>some (.iI b v i (o+off))
 | .fQ cs=>some (.fQ (cs.drop off))
 | _=>none
def Fv (tt:Table) (S:g9) (f:Nat) (x:V):Option V:=match Wh tt S f with|some off=>fieldAt off x|none=>none
def mS (mem:List bx) (b v:Nat):Option Nat :=
 match mem[b]? with
 | some (.rows v' e _)=>if v'=v then some e else none
 | some (.sF v' e _)=>if v'=v then some e else none
 | _=>none
def indexAt (mem:List bx) (size:Nat) (n:Int):V->Option V
 | .slice rows=>if 0<=n then (match rows[n.toNat]? with|some row=>if row.cells.length=size then some (.fQ row.cells) else none|none=>none) else none
 | .ms b v s l=>if 0<=n/\n<l/\mS mem b v=some size then some (.iI b v (s+n.toNat) 0) else none
 | _=>none
def oH (tt:Table) (mem:List bx) (T:g9) (x i:V):Option V :=
 match i with
 | .sc (.int _ n)=>match ke tt T with
  | some e=>match pw tt e with
   | some size=>indexAt mem size n x
   | none=>none
  | none=>none
 | _=>none
theorem add_add (a:Addr) (m n:Nat):(a.add m).add n=a.add (m+n):=by unfold Addr.add;by_cases hm:m=0 <;> by_cases hn:n=0 <;> simp [hm,hn,eD]
theorem add_lit (b o n:Nat):(Addr.mk b o none).add n=⟨b,o+n,none⟩:=by unfold Addr.add;by_cases hn:n=0 <;> simp [hn]
theorem bu {P:g7} {t:g9} {d:TypeDesc} (h:P.underlying t=some d) (w:World):(underlying t).run P w = .ok d w:=by simp [underlying,h]
theorem fJ {P:g7} {t:g9} {i:TypeInfo} (h:P.info? t=some i) (w:World):(typeInfo t).run P w = .ok i w:=by simp [typeInfo,h]
theorem gJ {P:g7} {t:g9} {i:TypeInfo} (h:P.info? t=some i) (w:World):(sizeOf t).run P w = .ok i.size w:=by simp [sizeOf,fJ h]
theorem TT.isAgg {P:g7} {tt:Table} (h:TT P tt) {t:g9} {i:Ti} (ht:tt t=some i) (w:World):(isAgg t).run P w = .ok i.agg w:=by obtain⟨d,hd,ha,-⟩:=h.desc t i ht;simp only [Go.isAgg,Sem.run_bind,bu hd,Result.andThen_ok];cases hi:i.agg with|true =>(rcases ha.1 hi with ⟨fs,rfl⟩|⟨n,e,rfl⟩ <;> rfl)|false =>(have:¬ ((∃ fs,d = .struct fs)\/∃ n e,d = .array n e):=fun hh=>by rw [ha.2 hh] at hi;cases hi);cases d <;> first|rfl|(exfalso;apply this;first|exact .inl ⟨_,rfl⟩|exact .inr ⟨_,_,rfl⟩)
theorem TT.sizeOf {P:g7} {tt:Table} (h:TT P tt) {t:g9} {i:Ti} (ht:tt t=some i) (w:World):(Go.sizeOf t).run P w = .ok i.size w:=by obtain⟨info,h1,h2,-⟩:=h.size t i ht;rw [gJ h1,h2]
def pA (E:Env) (w:World) (ad:Addr) (cs:List V):Prop:=∀ (j:Nat) (c:V),cs[j]?=some c->∃ x,w.cell? (ad.add j)=some x/\df E c x
theorem pA.drop {E:Env} {w:World} {ad:Addr} {cs:List V} (h:pA E w ad cs) (n:Nat):pA E w (ad.add n) (cs.drop n):=fun j c hc=>by rw [add_add];exact h _ _ (by simpa using hc)
theorem An {P:g7} {tt:Table} (ht:TT P tt) {E:Env} {w:World} {ad:Addr} {cs:List V} {T:g9} {v:V} (h:pA E w ad cs) (hp:j1 tt T cs=some v) :
  ∃ x,(loadVar T ad).run P w = .ok x w/\df E v x:=by unfold j1 at hp;cases hi:tt T with|none=>rw [hi] at hp;simp at hp|some i =>rw [hi] at hp;simp only at hp;cases ha:i.agg with|false =>simp only [ha,bw,if_false] at hp;obtain⟨x,hx,hr⟩:=h 0 v (by simpa [awN] using hp);(have h0:ad.add 0=ad:=by simp [Addr.add]);rw [h0] at hx;refine⟨x,?_,hr⟩;simp [loadVar,ht.isAgg hi,ha,hx]|true =>simp only [ha,if_true] at hp;split at hp;(·rename_i hle;simp only [aD] at hp;subst hp;(have hx:∀ j,j<i.size->∃ x,w.cell? (ad.add j)=some x/\∀ c,cs[j]?=some c->df E c x:=fun j hj=>by (have DG:j<cs.length:=by omega);obtain⟨x,hx,hr⟩:=h j _ (bf DG);exact⟨x,hx,fun c hc=>by rw [bf DG] at hc;cases hc;exact hr⟩);let f:Nat->Value:=fun j=>(w.cell? (ad.add j)).getD default;(have hf:∀ j,j<i.size->w.cell? (ad.add j)=some (f j):=fun j hj=>by obtain⟨x,hx,-⟩:=hx j hj;simp [f,hx]);refine⟨.agg ((List.range i.size).map f).toArray,?_,?_⟩;(·simp only [loadVar,Sem.run_bind,ht.isAgg hi,Result.andThen_ok,ha,if_true,ht.sizeOf hi];rw [run_loadCells w ad i.size f hf];simp);refine .agg _ _ _ (by simp;omega) fun j c x hc hxx=>?_;(have hj:j<i.size:=by by_cases hj:j<i.size;(·exact hj);rw [gU] at hc;simp [hj] at hc);rw [hH hj] at hc;obtain⟨y,hy,hr⟩:=hx j hj;simp [hj] at hxx;rw [<- hxx];(have:f j=y:=by simp [f,hy]);rw [this];exact hr c hc);simp at hp
theorem KO {E:Env} {w:World} (hF:∀ ad x,E.F ad=some x->w.cell? ad=some x) {cs:List V} {x:Value} (h:df E (.fQ cs) x):∃ ad,x = .pointer (some ad)/\pA E w ad cs:=by cases h with|fQ _ _ ad xf hf hr=>exact⟨ad,rfl,fun j c hc=>⟨xf j,hF _ _ (hf j c hc),(hr j c hc).mono E.ud⟩⟩
theorem og {w:World} {g:Nat} {xs:Array Value} {T:g9} {fz:Nat×Nat} (h:w.heap[g]?=some (.cells xs T fz)) (o:Nat):w.cell? ⟨g,o,none⟩=xs[o]?:=by simp [World.cell?,h]
theorem OP {E:Env} {w:World} {a:Act} {st:St} (hs:dt E w a st) {b o:Nat} {cs:List V} (hm:st.mem[b]?=some (.box cs)) {x:Value} (h:df E (.ptr b o) x) :
  ∃ ad,x = .pointer (some ad)/\pA E w ad (cs.drop o):=by cases h with|ptr _ _ _ g e c hb =>obtain⟨g',T,xs,gY,hh,hr,-⟩:=hs.mem b _ hm;rw [hb] at gY;cases gY;refine⟨_,rfl,fun j c hc=>?_⟩;rw [add_lit,og hh];obtain⟨y,hy,Ri⟩:=hr.get (i:=o+j) (by simpa using hc);exact⟨y,by simpa using hy,Ri⟩
theorem KP {E:Env} {w:World} {a:Act} {st:St} (hs:dt E w a st) {b v i o:Nat} {row:V} (hm:rowOf st.mem b v i=some row) {x:Value} (h:df E (.iI b v i o) x) :
  ∃ ad,x = .pointer (some ad)/\pA E w ad (row.cells.drop o):=by cases h with|iI _ _ _ _ _ g e c hb =>refine⟨_,rfl,fun j cc hc=>?_⟩;rw [add_lit];(have hc':row.cells[o+j]?=some cc:=by simpa using hc);unfold rowOf at hm;split at hm;(·rename_i v' e' rs hk;split at hm;(·rename_i hv;subst hv;(rcases hs.mem b _ hk with ⟨rfl,-⟩|⟨g',T,xs,c',gY,hh,-,-,hr,-⟩);(·simp at hm);rw [hb] at gY;cases gY;obtain⟨-,h2⟩:=hr i row hm;obtain⟨y,hy,-,Ri⟩:=h2 _ _ hc';exact⟨y,by rw [og hh,eD];exact hy,Ri.mono E.ud⟩);cases hm);(·rename_i v' e' rs hk;split at hm;(·rename_i hv;subst hv;(rcases hs.mem b _ hk with ⟨rfl,-⟩|⟨g',c',gY,-,hr⟩);(·simp at hm);rw [hb] at gY;cases gY;obtain⟨-,h2⟩:=hr i row hm;obtain⟨y,hy,-,Ri⟩:=h2 _ _ hc';exact⟨y,hs.F _ _ (by rw [eD];exact hy),Ri.mono E.ud⟩);cases hm);simp at hm
theorem zf {P:g7} {tt:Table} (ht:TT P tt) {E:Env} {w:World} {a:Act} {st:St} (hs:dt E w a st) {T:g9} {p v:V} {x:Value} (hr:df E p x) (h:qs tt st.mem T p=some v) :
  ∃ y,(Instr.loadAt T x).run P w = .ok y w/\df E v y:=by
 have key:∃ ad cs,x = .pointer (some ad)/\pA E w ad cs/\j1 tt T cs=some v:=by unfold qs at h;split at h;(·split at h;(·rename_i hm;obtain⟨ad,h1,h2⟩:=OP hs hm hr;exact⟨ad,_,h1,h2,h⟩);simp at h);(·split at h;(·rename_i hm;obtain⟨ad,h1,h2⟩:=KP hs hm hr;exact⟨ad,_,h1,h2,h⟩);simp at h);(·obtain⟨ad,h1,h2⟩:=KO hs.F hr;exact⟨ad,_,h1,h2,h⟩);simp at h
 obtain⟨ad,cs,rfl,hc,hp⟩:=key;obtain⟨y,hy,Ri⟩:=An ht hc hp;exact⟨y,by simp [Instr.loadAt,Instr.sureAddr,hy],Ri⟩
theorem Fw {P:g7} {tt:Table} (ht:TT P tt) {E:Env} {S:g9} {f:Nat} {p v:V} {x:Value} (hr:df E p x) (h:Fv tt S f p=some v) (w:World) :
  ∃ y,(Instr.fieldAt S x f).run P w = .ok y w/\df E v y:=by unfold Fv Wh at h;cases hi:tt S with|none=>rw [hi] at h;simp at h|some i =>rw [hi] at h;simp only at h;cases ho:i.bT[f]? with|none=>rw [ho] at h;simp at h|some off =>rw [ho] at h;simp only at h;obtain⟨d,hd,-,-,ak6⟩:=ht.desc S i hi;obtain⟨fs,fd,inf,rfl,-,hf,ho1,pY,rb,sn⟩:=ak6 f off.1 off.2 ho;(have ly:inf.size≠0:=by omega);obtain⟨off,sz⟩:=off;dsimp only at ho1;subst ho1;(have run:∀ ad,(Instr.fieldAt S (.pointer (some ad)) f).run P w = .ok (.pointer (some (ad.add fd.offset))) w:=fun ad=>by simp [Instr.fieldAt,bu hd,hf,Instr.sureAddr,fieldPlace,gJ pY,ly]);unfold Eng.fieldAt at h;split at h;(·simp only [aD] at h;subst h;cases hr with|ptr _ _ _ g e c hb=>exact⟨_,run _,by rw [add_lit];exact .ptr _ _ _ g e c hb⟩);(·simp only [aD] at h;subst h;cases hr with|iI _ _ _ _ _ g e c hb=>exact⟨_,run _,by rw [add_lit,eD];exact .iI _ _ _ _ _ g e c hb⟩);(·simp only [aD] at h;subst h;cases hr with|fQ _ _ ad xf hf hr=>exact⟨_,run _,.fQ _ _ _ (fun j=>xf (fd.offset+j)) (fun j c hc=>by rw [add_add];exact hf _ _ (by simpa using hc)) fun j c hc=>hr _ _ (by simpa using hc)⟩);simp at h
theorem HN {E:Env} {w:World} {a:Act} {st:St} (hs:dt E w a st) {b v size g e c:Nat} (h:mS st.mem b v=some size) (hb:E.cE b v=some (g,e,c)):e=size:=by
 unfold mS at h;split at h;·rename_i hk;split at h;(·rename_i hv;subst hv;(rcases hs.mem b _ hk with ⟨-,hn⟩|⟨g',T',xs,c',gY,-⟩);(·rw [hb] at hn;cases hn);rw [hb] at gY;cases gY;simpa using h);cases h
 ·rename_i hk;split at h;(·rename_i hv;subst hv;(rcases hs.mem b _ hk with ⟨-,hn⟩|⟨g',c',gY,-⟩);(·rw [hb] at hn;cases hn);rw [hb] at gY;cases gY;simpa using h);cases h
 simp at h
theorem Fx {P:g7} {tt:Table} (ht:TT P tt) {E:Env} {w:World} {a:Act} {st:St} (hs:dt E w a st) {T:g9} {p i v:V} {x y:Value} (hp:df E p x) (hi:df E i y) (h:oH tt st.mem T p i=some v) :
  ∃ z,(Instr.indexAt T x y).run P w = .ok z w/\df E v z:=by
 unfold oH at h;split at h;·rename_i k n;cases hi with|sc =>unfold ke pw at h;cases hT:tt T with|none=>rw [hT] at h;simp at h|some iT =>rw [hT] at h;simp only at h;cases he:iT.elem with|none=>rw [he] at h;simp at h|some e =>rw [he] at h;simp only at h;cases hE:tt e with|none=>rw [hE] at h;simp at h|some ie =>rw [hE] at h;simp only at h;obtain⟨d,hd,-,wC,-⟩:=ht.desc T iT hT;obtain rfl:=wC e he;(have run:∀ (ad:Addr) (len cap:Nat),0<=n->n<len->(Instr.indexAt T (.slice (some ad) len cap) (.int k n)).run P w = .ok (.pointer (some (ad.add (n.toNat*ie.size)))) w:=fun ad len cap h0 h1=>by simp [Instr.indexAt,asIntOf,bu hd,ht.sizeOf hE,h0,h1]);unfold Eng.indexAt at h;split at h;(·rename_i rows;split at h;(·rename_i h0;split at h;(·rename_i row pZ;split at h;(·rename_i hlen;simp only [aD] at h;subst h;cases hp with|slice _ _ aa cap vz ad xf ha mF hz hF h1 hR =>have bH:n.toNat<rows.length:=(az.1 pZ).1;(have dI:rows≠[]:=by rintro rfl;simp at bH);obtain rfl:=ha dI;(have ak7:vz=ie.size:=by rw [<- hz _ _ pZ,hlen]);subst ak7;exact⟨_,run ad _ cap h0 (by omega),.fQ _ _ _ (fun j=>xf n.toNat j) (fun j c hc=>by rw [add_add];exact hF _ _ _ _ pZ hc) fun j c hc=>hR _ _ _ _ pZ hc⟩);simp at h);simp at h);simp at h);(·rename_i b v s l;split at h;(·rename_i h0;obtain⟨h0,h1,h2⟩:=h0;simp only [aD] at h;subst h;cases hp with|jr=>simp at h1;omega|ms _ _ _ _ _ g e' c aa cap hb hl VV hc =>obtain rfl:=hl (by omega);have hee:e'=ie.size:=HN hs h2 hb;subst hee;refine⟨_,run _ _ cap h0 h1,?_⟩;have:=df.iI E b v (s+n.toNat) 0 g ie.size c hb;rw [add_lit,<- jF];simpa using this);simp at h);simp at h
 simp at h
end Go.Eng
end
section
namespace Go.Eng
variable [bJ]
def Ee:List V->Option (List Value)
 | []=>some []
 | .sc v :: r=>match Ee r with|some l=>some (v :: l)|none=>none
 | _ :: _=>none
def fq:V->Option Value
 | .sc v=>some v
 | .agg cs=>match Ee cs with|some l=>some (.agg l.toArray)|none=>none
 | _=>none
theorem Ef {E:Env}:∀ {vs:List V} {xs:List Value} {l:List Value},dh E vs xs->Ee vs=some l->xs=l
 | [],xs,l,h,hl=>by simp [Ee] at hl;subst hl;exact h.of_nil
 | v :: vs,xs,l,h,hl=>by
  obtain⟨x,ys,rfl,h1,h2⟩:=h.of_cons
  cases v with
  | sc v =>
   simp only [Ee] at hl
   split at hl
   ·rename_i l' hl'
    simp only [aD] at hl;subst hl
    cases h1
    rw [Ef h2 hl']
   simp at hl
  | _=>simp [Ee] at hl
theorem kQ {E:Env} {v:V} {x y:Value} (h:df E v x) (hv:fq v=some y):x=y:=by cases v with|sc v=>cases h;simpa [fq] using hv|agg cs =>(simp only [fq] at hv;split at hv;(·rename_i l hl;simp only [aD] at hv;subst hv;cases h with|agg _ _ xs hlen hr =>have:=Ef (E:=E) (xs:=xs.toList) ⟨by simpa using hlen,fun i c x hc hx=>hr i c x hc (by simpa using hx)⟩ hl;rw [<- this]);simp at hv)|_=>simp [fq] at hv
def qt (P:g7) (f:Value->Sem Value) (x:V):Option V :=
 match fq x with
 | some a=>match dL P (f a) with|some v=>some (j6 v)|none=>none
 | none=>none
def dy (P:g7) (f:Value->Value->Sem Value) (x y:V):Option V :=
 match fq x with
 | some a=>match fq y with
  | some b=>match dL P (f a b) with|some v=>some (j6 v)|none=>none
  | none=>none
 | none=>none
theorem sG {P:g7} {f:Value->Sem Value} {E:Env} {w:World} {x v:V} {a:Value} (hx:df E x a) (h:qt P f x=some v):∃ y,(f a).run P w = .ok y w/\df E v y:=by
 unfold qt at h;split at h;·rename_i a' ha;cases kQ hx ha;split at h;(·rename_i y hy;simp only [aD] at h;subst h;exact⟨y,ia _ hy w,lx E y⟩);simp at h
 simp at h
theorem nA {P:g7} {f:Value->Value->Sem Value} {E:Env} {w:World} {x y v:V} {a b:Value} (hx:df E x a) (hy:df E y b) (h:dy P f x y=some v) :
  ∃ z,(f a b).run P w = .ok z w/\df E v z:=by
 unfold dy at h;split at h;·rename_i a' ha;cases kQ hx ha;split at h;(·rename_i b' hb;cases kQ hy hb;split at h;(·rename_i z hz;simp only [aD] at h;subst h;exact⟨z,ia _ hz w,lx E z⟩);simp at h);simp at h
 simp at h
def aa6:V->Option V
 | .ptr b o=>some (.ptr b o)
 | .iI b v i o=>some (.iI b v i o)
 | .fQ cs=>some (.fQ cs)
 | .jh (.func f) a b=>some (.jh (.func f) a b)
 | .sc (.func (.func f) a b)=>some (.sc (.func (.func f) a b))
 | _=>none
def iM (rows:List V) (l size:Nat):Bool:=match rows[l]? with|some row=>row.cells.length==size|none=>true
def cutAt (mem:List bx) (size:Nat) (l:Int) (h:Option Int):V->Option V
 | .slice rows =>
  if 0<=l/\l<=h.getD rows.length/\h.getD rows.length<=rows.length/\iM rows l.toNat size=true then some (.slice ((rows.drop l.toNat).take (h.getD rows.length-l).toNat)) else none
 | .ms b v s n =>
  if 0<=l/\l<=h.getD n/\h.getD n<=n/\mS mem b v=some size then some (.ms b v (s+l.toNat) (h.getD n-l).toNat) else none
 | _=>none
def HO:V->Option Int
 | .sc (.int _ n)=>some n
 | _=>none
def Fy (P:g7) (tt:Table) (mem:List bx) (T:g9) (x:V) (lo hi:Option V):Option V :=
 match x with
 | .sc a=>match lo with
  | none=>match hi with
   | none=>qt P (fun a=>Instr.sliceAt T a none none none) (.sc a)
   | some h=>dy P (fun a h=>Instr.sliceAt T a none (some h) none) (.sc a) h
  | some l=>match hi with
   | none=>dy P (fun a l=>Instr.sliceAt T a (some l) none none) (.sc a) l
   | some h=>match fq h with
    | some h=>dy P (fun a l=>Instr.sliceAt T a (some l) (some h) none) (.sc a) l
    | none=>none
 | x=>match ke tt T with
  | none=>none
  | some e=>match pw tt e with
   | none=>none
   | some size=>match lo with
    | none=>match hi with
     | none=>cutAt mem size 0 none x
     | some h=>match HO h with|some h=>cutAt mem size 0 (some h) x|none=>none
    | some l=>match HO l with
     | none=>none
     | some l=>match hi with
      | none=>cutAt mem size l none x
      | some h=>match HO h with|some h=>cutAt mem size l (some h) x|none=>none
theorem sH {E:Env} {v:V} {x:Value} {n:Int} (h:df E v x) (hv:HO v=some n):∃ k,x = .int k n:=by
 unfold HO at hv;split at hv;·cases h;simp at hv;subst hv;exact⟨_,rfl⟩
 simp at hv
theorem pB {E:Env} {w:World} {a:Act} {st:St} (hs:dt E w a st) {size:Nat} {l:Int} {h:Option Int} {x v:V} {y:Value} (hx:df E x y) (hc:cutAt st.mem size l h x=some v) :
  ∃ aa len cap,y = .slice aa len cap/\0<=l/\l<=h.getD len/\h.getD len<=len/\len<=cap /\
   df E v (.slice (if cap=l.toNat then aa else aa.map (·.add (l.toNat*size))) (h.getD len-l).toNat (cap-l.toNat)):=by
 unfold cutAt at hc;split at hc
 ·rename_i rows;split at hc
  ·rename_i hh;obtain⟨h0,h1,h2,h3⟩:=hh;simp only [aD] at hc;subst hc
   cases hx with
   | slice _ _ aa cap vz ad xf ha mF hz hF re hR =>
    refine⟨aa,rows.length,cap,rfl,h0,h1,h2,mF,?_⟩
    have hlen:((rows.drop l.toNat).take (h.getD rows.length-l).toNat).length=(h.getD rows.length-l).toNat:=by simp;omega
    have hg:∀ (i:Nat) (row:V),((rows.drop l.toNat).take (h.getD rows.length-l).toNat)[i]?=some row->rows[l.toNat+i]?=some row:=fun i row hi=>by
     rw [gU] at hi
     split at hi
     ·simpa using hi
     simp at hi
    suffices HP:df E (.slice ((rows.drop l.toNat).take (h.getD rows.length-l).toNat)) (.slice (if cap=l.toNat then aa else aa.map (·.add (l.toNat*size))) ((rows.drop l.toNat).take (h.getD rows.length-l).toNat).length (cap-l.toNat)) by
     rw [hlen] at HP;exact HP
    refine .slice _ _ _ (cap-l.toNat) vz (ad.add (l.toNat*vz)) (fun i j=>xf (l.toNat+i) j) (fun dI=>?_) (by rw [hlen];omega) (fun i row hi=>hz _ _ (hg i row hi))
     (fun i row j c hi hj=>by rw [add_add,<- eD,<- jF];exact hF _ _ _ _ (hg i row hi) hj) (fun i row j c hi hj=>re _ _ _ _ (hg i row hi) hj) fun i row j c hi hj=>hR _ _ _ _ (hg i row hi) hj
    have bH:l.toNat<rows.length:=by
     rcases bn l.toNat rows.length with bH|fP
     ·exact bH
     exact absurd (by rw [dq fP];simp) dI
    have Fz:rows≠[]:=by rintro rfl;simp at bH
    rw [g5 (by omega),ha Fz]
    unfold iM at h3
    rw [bf bH] at h3
    simp only [beq_iff_eq] at h3
    rw [<- h3,hz _ _ (bf bH)]
    rfl
  simp at hc
 ·rename_i b v s n;split at hc;(·rename_i hh;obtain⟨h0,h1,h2,h3⟩:=hh;simp only [aD] at hc;subst hc;cases hx with|jr =>refine⟨none,0,0,rfl,h0,h1,h2,aA _,?_⟩;(have e1:l.toNat=0:=by have:((0:Nat):Int)=0:=rfl;omega);(have e2:(h.getD (0:Nat)-l).toNat=0:=by have:((0:Nat):Int)=0:=rfl;omega);rw [e1,e2];exact .jr _ _ _ _|ms _ _ _ _ _ g e c aa cap hb hl VV wD =>obtain rfl:=HN hs h3 hb;refine⟨aa,n,cap,rfl,h0,h1,h2,wD.1,?_⟩;refine .ms _ _ _ _ _ g e c _ _ hb (fun hp=>?_) (fun hz=>?_) ⟨by omega,by omega,fun hp=>by rw [g5 (by omega),wD.2.2 (by omega)];simp only [bU,add_lit,<- jF]⟩;(·rw [g5 (by omega),hl (by omega)];simp only [bU,add_lit,<- jF]);obtain⟨h5,h6⟩:=VV (by omega);(have:l.toNat=0:=by omega);rw [this,h5];refine⟨?_,by omega⟩;split;(·rfl);simp [Addr.add]);simp at hc
 simp at hc
theorem pC {P:g7} {tt:Table} (ht:TT P tt) {T e:g9} {size:Nat} (he:ke tt T=some e) (hz:pw tt e=some size) (w:World) (aa:Option Addr) (len cap:Nat) (lo hi:Option Value)
  (l:Int) (h:Option Int) (qu:(lo=none/\l=0)\/∃ k,lo=some (.int k l)) (vG:(hi=none/\h=none)\/∃ k n,hi=some (.int k n)/\h=some n)
  (h0:0<=l) (h1:l<=h.getD len) (h2:h.getD len<=len) (h3:len<=cap) :
  (Instr.sliceAt T (.slice aa len cap) lo hi none).run P w = .ok (.slice (if cap=l.toNat then aa else aa.map (·.add (l.toNat*size))) (h.getD len-l).toNat (cap-l.toNat)) w:=by unfold ke at he;unfold pw at hz;cases hT:tt T with|none=>rw [hT] at he;simp at he|some iT =>rw [hT] at he;simp only at he;cases hE:tt e with|none=>rw [hE] at hz;simp at hz|some ie =>rw [hE] at hz;simp only [aD] at hz;subst hz;obtain⟨d,hd,-,wC,-⟩:=ht.desc T iT hT;obtain rfl:=wC e he;(have ara:∀ m:Int,(m-l).toNat=m.toNat-l.toNat:=fun m=>by omega);(rcases qu with ⟨rfl,rfl⟩|⟨k,rfl⟩ <;> rcases vG with ⟨rfl,rfl⟩|⟨k',n,rfl,rfl⟩ <;> simp only [fS,av5] at h1 h2 ⊢ <;> simp only [Instr.sliceAt,Instr.slice,Sem.run_bind,bu hd,Result.andThen_ok,Instr.sliceBounds,Instr.sliceBound,asIntOf,Sem.run_pure,ht.sizeOf hE,Option.isSome_none]);(·simp);(·rw [gH ⟨by omega,by omega⟩];simp);(·rw [gH ⟨by omega,by omega⟩];simp;omega);rw [gH ⟨by omega,by omega⟩];simp only [Sem.run_pure,Result.andThen_ok];rw [gH ⟨by omega,by omega⟩];simp;omega
end Go.Eng
end
section
namespace Go.Eng
variable [bJ]
def iw (kind:TypeDesc) (k:Value):List (Value×Nat×V)->Nat->Option (Option (Nat×V))
 | [],_=>some none
 | e :: r,i=>match Instr.sameNow kind k e.1 with
  | some true=>some (some (i,e.2.2))
  | some false=>iw kind k r (i+1)
  | none=>none
def sI (P:g7) (T:g9) (k:Value):List (Value×Nat×V)->Nat->Option (Option (Nat×V))
 | [],_=>some none
 | e :: r,i=>match dL P (Op.equal T k e.1) with
  | some true=>some (some (i,e.2.2))
  | some false=>sI P T k r (i+1)
  | none=>none
def qv (P:g7) (T:g9) (k:Value) (dU:List (Value×Nat×V)):Option (Option (Nat×V)) :=
 match P.underlying T with
 | some d=>match iw d k dU 0 with
  | some r=>some r
  | none=>sI P T k dU 0
 | none=>none
def Found (E:Env) (dU:List (Value×Nat×V)) (es:List MapEntry):Option (Nat×V)->Option (Nat×Value)->Prop
 | none,none=>True
 | some (i,v),some (j,x)=>i=j/\df E v x/\∃ kb e,dU[i]?=some kb/\es[i]?=some e/\kb.2.2=v/\e.val=x
 | _,_=>False
theorem gX.get {E:Env} {dU:List (Value×Nat×V)} {es:List MapEntry} (h:gX E dU es) {i:Nat} {kb:Value×Nat×V} (hk:dU[i]?=some kb):∃ e,es[i]?=some e/\e.key=kb.1/\e.born=kb.2.1/\df E kb.2.2 e.val:=by
 have hi:i<es.length:=by rw [<- h.1];exact (az.1 hk).1
 exact⟨es[i],bf hi,h.2 i kb _ hk (bf hi)⟩
theorem gX.drop {E:Env} {dU:List (Value×Nat×V)} {es:List MapEntry} (h:gX E dU es) (n:Nat):gX E (dU.drop n) (es.drop n) :=
 ⟨by simp [h.1],fun i k e hk he=>h.2 (n+i) k e (by simpa using hk) (by simpa using he)⟩
theorem gX.of_nil {E:Env} {es:List MapEntry} (h:gX E [] es):es=[]:=by have:=h.1;simp at this;exact b9.1 this.symm
theorem gX.of_cons {E:Env} {k:Value×Nat×V} {r:List (Value×Nat×V)} {es:List MapEntry} (h:gX E (k :: r) es):∃ e es',es=e :: es'/\e.key=k.1/\e.born=k.2.1/\df E k.2.2 e.val/\gX E r es':=by cases es with|nil=>have:=h.1;simp at this|cons e es' =>obtain⟨h1,h2,h3⟩:=h.2 0 k e rfl rfl;exact⟨e,es',rfl,h1,h2,h3,by have:=h.1;simpa using this,fun i k' e' hk he=>h.2 (i+1) k' e' (by simpa using hk) (by simpa using he)⟩
theorem Bh {E:Env} {kind:TypeDesc} {k:Value} {dU:List (Value×Nat×V)} {es:List MapEntry} (h:gX E dU es):∀ (n:Nat) {r:Option (Nat×V)},iw kind k (dU.drop n) n=some r ->
  ∃ r',Instr.findNow kind k (es.drop n) n=some r'/\Found E dU es r r':=by intro n;generalize hl:dU.length-n=m;induction m generalizing n with|zero =>intro r hr;have h1:dU.drop n=[]:=dq (by omega);have h2:es.drop n=[]:=dq (by have:=h.1;omega);rw [h1] at hr;rw [h2];simp only [iw,aD] at hr;subst hr;exact⟨none,rfl,trivial⟩|succ m ih =>intro r hr;(have hn:n<dU.length:=by omega);(have YM:n<es.length:=by have:=h.1;omega);rw [ed hn] at hr;rw [ed YM];have hk:=bf hn;have he:=bf YM;obtain⟨h1,h2,h3⟩:=h.2 n _ _ hk he;simp only [iw] at hr;simp only [Instr.findNow,h1];split at hr;(·rename_i hs;rw [hs];simp only [aD] at hr;subst hr;exact⟨_,rfl,rfl,h3,_,_,hk,he,rfl,rfl⟩);(·rename_i hs;rw [hs];exact ih (n+1) (by omega) hr);cases hr
theorem DH {E:Env} {kind:TypeDesc} {k:Value} {dU:List (Value×Nat×V)} {es:List MapEntry} (h:gX E dU es):∀ (n:Nat),iw kind k (dU.drop n) n=none->Instr.findNow kind k (es.drop n) n=none:=by intro n;generalize hl:dU.length-n=m;induction m generalizing n with|zero =>intro hr;have h1:dU.drop n=[]:=dq (by omega);rw [h1] at hr;simp [iw] at hr|succ m ih =>intro hr;(have hn:n<dU.length:=by omega);(have YM:n<es.length:=by have:=h.1;omega);rw [ed hn] at hr;rw [ed YM];obtain⟨h1,h2,h3⟩:=h.2 n _ _ (bf hn) (bf YM);simp only [iw] at hr;simp only [Instr.findNow,h1];split at hr;(·cases hr);(·rename_i hs;rw [hs];exact ih (n+1) (by omega) hr);rename_i hs;rw [hs]
theorem Bi {P:g7} {E:Env} {T:g9} {k:Value} {dU:List (Value×Nat×V)} {es:List MapEntry} (h:gX E dU es) (w:World):∀ (n:Nat) {r:Option (Nat×V)},sI P T k (dU.drop n) n=some r ->
  ∃ r',(Instr.findAsking T k (es.drop n) n).run P w = .ok r' w/\Found E dU es r r':=by intro n;generalize hl:dU.length-n=m;induction m generalizing n with|zero =>intro r hr;have h1:dU.drop n=[]:=dq (by omega);have h2:es.drop n=[]:=dq (by have:=h.1;omega);rw [h1] at hr;rw [h2];simp only [sI,aD] at hr;subst hr;exact⟨none,rfl,trivial⟩|succ m ih =>intro r hr;(have hn:n<dU.length:=by omega);(have YM:n<es.length:=by have:=h.1;omega);rw [ed hn] at hr;rw [ed YM];have hk:=bf hn;have he:=bf YM;obtain⟨h1,h2,h3⟩:=h.2 n _ _ hk he;simp only [sI] at hr;simp only [Instr.findAsking,h1,Sem.run_bind];split at hr;(·rename_i hs;rw [ia _ hs w];simp only [aD] at hr;subst hr;exact⟨_,rfl,rfl,h3,_,_,hk,he,rfl,rfl⟩);(·rename_i hs;rw [ia _ hs w];simpa using ih (n+1) (by omega) hr);cases hr
theorem iN {P:g7} {E:Env} {T:g9} {k:Value} {dU:List (Value×Nat×V)} {es:Array MapEntry} (h:gX E dU es.toList) (w:World) {r:Option (Nat×V)} (hr:qv P T k dU=some r) :
  ∃ r',(Instr.findKey T k es.toList).run P w = .ok r' w/\Found E dU es.toList r r':=by
 unfold qv at hr;split at hr;·rename_i d hd;simp only [Instr.findKey,Sem.run_bind,bu hd,Result.andThen_ok];split at hr;(·rename_i r1 h1;simp only [aD] at hr;subst hr;obtain⟨r',h2,h3⟩:=Bh h 0 (r:=r1) (by simpa using h1);simp only [ze] at h2;rw [h2];exact⟨r',rfl,h3⟩);rename_i h1;have h2:=DH h 0 (by simpa using h1);simp only [ze] at h2;rw [h2];simpa using Bi h w 0 (r:=r) (by simpa using hr)
 cases hr
def u2 (P:g7) (T:g9) (k:Value):Bool :=
 match P.underlying T with
 | some (.int _)=>true
 | some .string=>true
 | some .bool=>true
 | _=>match dL P (Instr.checkKey false 10000 T k),dL P (Instr.checkKey true 10000 T k) with
  | some _,some _=>true
  | _,_=>false
theorem pD {P:g7} {T:g9} {k:Value} (h:u2 P T k=true) (b:Bool) (w:World):(Instr.checkKey b 10000 T k).run P w = .ok () w:=by
 unfold u2 at h;have aa7:∀ d,P.underlying T=some d->(∀ m,d ≠ .interface m)->(∀ n e,d ≠ .array n e)->(∀ fs,d ≠ .struct fs)->(Instr.checkKey b 10000 T k).run P w = .ok () w:=by intro d hd h1 h2 h3;show (Instr.checkKey b (9999+1) T k).run P w=_;rw [Instr.checkKey];simp only [Sem.run_bind,bu hd,Result.andThen_ok];cases d <;> first|(cases k <;> rfl)|exact absurd rfl (h1 _)|exact absurd rfl (h2 _ _)|exact absurd rfl (h3 _)
 split at h;·rename_i hd;exact aa7 _ hd (by simp) (by simp) (by simp)
 ·rename_i hd;exact aa7 _ hd (by simp) (by simp) (by simp)
 ·rename_i hd;exact aa7 _ hd (by simp) (by simp) (by simp)
 split at h;·rename_i h1 h2;cases b;(·exact ia _ h1 w);exact ia _ h2 w
 cases h
def zeroV (P:g7) (T:g9):Option V :=
 match P.info? T with
 | some i=>match i.zero with|some z=>some (j6 z)|none=>none
 | none=>none
theorem sJ {P:g7} {T:g9} {v:V} (h:zeroV P T=some v) (E:Env) (w:World):∃ z,(zeroValue T).run P w = .ok z w/\df E v z:=by
 unfold zeroV at h;split at h;·rename_i i hi;split at h;(·rename_i z hz;cases h;exact⟨z,by simp [zeroValue,fJ hi,hz],lx E z⟩);cases h
 cases h
def jN (P:g7) (T:g9):Option (g9×g9):=match P.underlying T with|some (.map k e)=>some (k,e)|_=>none
theorem lL {P:g7} {T kt et:g9} (h:jN P T=some (kt,et)):P.underlying T=some (.map kt et):=by
 unfold jN at h;split at h;·rename_i hd;cases h;exact hd
 cases h
def YN (ok b:Bool) (v:V):V:=if ok=true then .fZ [v,.sc (.bool b)] else v
theorem FA {E:Env} {v:V} {x:Value} (h:df E v x) (ok b:Bool):df E (YN ok b v) (if ok=true then .tuple #[x,.bool b] else x):=by
 unfold YN;split;·refine .fZ _ _ _ rfl fun i c y hc hy=>?_;match i with|0=>simp at hc hy;subst hc;subst hy;exact h|1=>simp at hc hy;subst hc;subst hy;exact .sc _ _|i+2=>simp at hc
 exact h
def qw (P:g7) (mem:List bx) (kt et:g9) (m:V) (key:Value) (ok:Bool):Option V :=
 match m with
 | .mp b=>match mem[b]? with
  | some (.map dU _)=>match qv P kt key dU with
   | some (some (_,v))=>some (YN ok true v)
   | some none=>match zeroV P et with|some z=>some (YN ok false z)|none=>none
   | none=>none
  | _=>none
 | .sc (.map none)=>match qv P kt key [] with
  | some none=>match zeroV P et with|some z=>some (YN ok false z)|none=>none
  | _=>none
 | _=>none
def kR (P:g7) (mem:List bx) (T:g9) (m i:V) (ok:Bool):Option V :=
 match jN P T with
 | some (kt,et)=>match fq i with
  | some key=>if u2 P kt key=true then qw P mem kt et m key ok else none
  | none=>none
 | none=>none
theorem vH {E:Env} {b:Nat} {x:Value} (h:df E (.mp b) x):∃ g e c,x = .map (some g)/\E.cE b 0=some (g,e,c):=by cases h with|mp _ _ l e c hb=>exact⟨l,e,c,rfl,hb⟩
theorem nk {E:Env} {w:World} {a:Act} {st:St} (hs:dt E w a st) {b:Nat} {dU:List (Value×Nat×V)} {clock:Nat} (hm:st.mem[b]?=some (.map dU clock)) {g e c:Nat} (hb:E.cE b 0=some (g,e,c)) :
  ∃ es,w.heap[g]?=some (.map es clock)/\gX E dU es.toList/\(∀ o,E.F ⟨g,o,none⟩=none)/\(e,c)=(0,0):=by obtain⟨g',es,h1,h2,h3,h4⟩:=hs.mem b _ hm;rw [hb] at h1;cases h1;exact⟨es,h2,h3,h4,rfl⟩
theorem gj {P:g7} {w:World} {g:Nat} {es:Array MapEntry} {clock:Nat} (h:w.heap[g]?=some (.map es clock)):(getObj g).run P w = .ok (.map es clock) w:=by simp [getObj,Sem.run,h]
theorem jO {P:g7} {w:World} {g:Nat} {o o':Obj} (h:w.heap[g]?=some o) (hc:∀ a b c,o ≠ .cells a b c):(setObj g o').run P w = .ok () { w with heap:=w.heap.setIfInBounds g o' }:=by unfold setObj;rw [Sem.run,h];cases o <;> first|rfl|exact absurd rfl (hc _ _ _)
theorem ue {E:Env} {v y:Value} (h:df E (.sc v) y):y=v:=by cases h;rfl
theorem DI {P:g7} {E:Env} {w:World} {a:Act} {st:St} (hs:dt E w a st) {T:g9} {m i v:V} {ok:Bool} {x y:Value} (hm:df E m x) (hi:df E i y) (h:kR P st.mem T m i ok=some v) :
  ∃ z,(Instr.lookup T x y ok).run P w = .ok z w/\df E v z:=by
 unfold kR at h;split at h;·rename_i kt et hd;have hd:=lL hd;split at h;(·rename_i key fK;cases kQ hi fK;split at h;(·rename_i iq;have Q1:=fun b=>pD iq b w;unfold qw at h;split at h;(·rename_i b;obtain⟨g,e,c,rfl,hb⟩:=vH hm;split at h;(·rename_i dU clock hB;obtain⟨es,hh,hr,-⟩:=nk hs hB hb;split at h;(·rename_i j u hf;obtain⟨r',h1,h2⟩:=iN hr w hf;match r',h2 with|some (j',z),h2 =>cases h;exact⟨_,by simp [Instr.lookup,bu hd,gj hh,Q1,h1],FA h2.2.1 ok true⟩);(·rename_i hf;obtain⟨r',h1,h2⟩:=iN hr w hf;match r',h2 with|none,h2 =>split at h;(·rename_i z hz;cases h;obtain⟨z',h3,h4⟩:=sJ hz E w;exact⟨_,by simp [Instr.lookup,bu hd,gj hh,Q1,h1,h3],FA h4 ok false⟩);cases h);cases h);cases h);(·obtain rfl:=ue hm;split at h;(·rename_i hf;obtain⟨r',h1,h2⟩:=iN (E:=E) (es := #[]) ⟨rfl,fun i k e h=>by simp at h⟩ w hf;match r',h2 with|none,h2 =>split at h;(·rename_i z hz;cases h;obtain⟨z',h3,h4⟩:=sJ hz E w;exact⟨_,by simp at h1;simp [Instr.lookup,bu hd,Q1,h1,h3],FA h4 ok false⟩);cases h);cases h);cases h);cases h);cases h
 cases h
def yq (mem:List bx) (ts:Array g9) (P:g7):List V->Option V
 | [.mp b]=>match mem[b]? with
  | some (.map dU _)=>match ts[0]? with
   | some T=>match jN P T with|some _=>some (.sc (.int .i64 dU.length))|none=>none
   | none=>none
  | _=>none
 | _=>none
theorem KQ {P:g7} {E:Env} {w:World} {a:Act} {st:St} (hs:dt E w a st) {ts:Array g9} {ty:g9} {xs:List V} {v:V} {ys:Array Value} (hx:dh E xs ys.toList) (h:yq st.mem ts P xs=some v) :
  ∃ z,(Builtin.len_ ts ty ys).run P w = .ok z w/\df E v z:=by
 unfold yq at h;split at h;·rename_i b;split at h;(·rename_i dU clock hB;split at h;(·rename_i T h0;split at h;(·rename_i p hp;cases h;obtain⟨kt,et⟩:=p;have hd:=lL hp;obtain⟨x,r,hy,h1,h2⟩:=hx.of_cons;have:=h2.of_nil;subst this;(obtain rfl:ys = #[x]:=by rw [<- cJ (xs:=ys),hy]);obtain⟨g,e,c,rfl,hb⟩:=vH h1;obtain⟨es,hh,hr,-⟩:=nk hs hB hb;refine⟨.int .i64 es.size,by simp [Builtin.len_,h0,bu hd,gj hh,goInt],?_⟩;(have:dU.length=es.size:=by simpa using hr.1);rw [this];exact .sc _ _);cases h);cases h);cases h
 cases h
def OQ (mem:List bx) (it:V):Option V :=
 match it with
 | .ptr b 0=>match mem[b]? with
  | some (.jX m _ seen last)=>match mem[m]? with
   | some (.map dU clock)=>if clock=last then (match seen.getLast? with
    | some HQ=>match dU.find? (fun e=>e.2.1==HQ) with
     | some e=>some (.fZ [j6 e.1,e.2.2])
     | none=>none
    | none=>none) else none
   | _=>none
  | _=>none
 | _=>none
theorem gX.find {E:Env} (p:Nat->Bool):∀ {dU:List (Value×Nat×V)} {es:List MapEntry} {k:Value×Nat×V},gX E dU es->dU.find? (fun e=>p e.2.1)=some k->∃ e,es.find? (fun e=>p e.born)=some e/\e.key=k.1/\df E k.2.2 e.val
 | [],es,k,h,hf=>by simp at hf
 | c :: r,es,k,h,hf=>by
  obtain⟨e,es',rfl,h1,h2,h3,h4⟩:=h.of_cons
  rw [List.find?_cons] at hf ⊢
  rw [h2]
  split at hf
  ·rename_i hp;cases hf;exact⟨e,rfl,h1,h3⟩
  exact gX.find p h4 hf
theorem KR {P:g7} {E:Env} {w:World} {a:Act} {st:St} (hs:dt E w a st) {it v:V} {x:Value} (hi:df E it x) (h:OQ st.mem it=some v):∃ z,(Instr.entry x).run P w = .ok z w/\df E v z:=by
 unfold OQ at h;split at h;·rename_i b;split at h;(·rename_i m since seen last hB;split at h;(·rename_i dU clock hM;split at h;(·rename_i pE;split at h;(·rename_i HQ oh;split at h;(·rename_i e he;cases h;obtain⟨g,gm,em,cm,hb,VW,hh,hf⟩:=hs.mem b _ hB;obtain⟨es,hhm,hr,hfm,h0⟩:=nk hs hM VW;cases hi with|ptr _ _ _ g' e' c' gY =>rw [hb] at gY;cases gY;(have lz:(getObj g).run P w = .ok (.mapIter (some gm) since seen.toArray last) w:=by simp [getObj,Sem.run,hh]);obtain⟨en,h1,h2,h3⟩:=gX.find (fun n=>n==HQ) hr he;(have afJ:seen.toArray.back?=some HQ:=by simpa using oh);(have HR:es.find? (fun e=>e.born==HQ)=some en:=by rw [<- List.find?_toArray,cJ] at h1;exact h1);refine⟨.tuple #[en.key,en.val],?_,?_⟩;(·subst pE;simp only [Instr.entry,Sem.run_bind,lz,Result.andThen_ok,afJ,gj hhm,bne_self_eq_false,bw,if_false,HR];rfl);refine .fZ _ _ _ rfl fun i c y hc hy=>?_;match i with|0=>simp at hc hy;subst hc;subst hy;rw [h2];exact lx E _|1=>simp at hc hy;subst hc;subst hy;exact h3|i+2=>simp at hc);cases h);cases h);cases h);cases h);cases h
 cases h
end Go.Eng
end
section
namespace Go.Eng
variable [bJ]
theorem fL {E:Env} {v y:Value} (h:df E (.sc v) y):y=v:=by cases h;rfl
theorem KS {P:g7} {tt:Table} (ht:TT P tt) {E:Env} {w:World} {a:Act} {st:St} (hs:dt E w a st) {T:g9} {x v:V} {lo hi:Option Operand} {y:Value} (hx:df E x y)
  (h:Fy P tt st.mem T x (lo.map st.eval) (hi.map st.eval)=some v):∃ z,(Instr.sliceAt T y (lo.map a.eval) (hi.map a.eval) none).run P w = .ok z w/\df E v z:=by
 unfold Fy at h;split at h;·cases lo with|none =>(cases hi with|none=>exact sG hx h|some hi=>exact nA (f:=fun a h=>Instr.sliceAt T a none (some h) none) hx (hs.eval hi) h)|some lo =>cases hi with|none=>exact nA (f:=fun a l=>Instr.sliceAt T a (some l) none none) hx (hs.eval lo) h|some hi =>simp only [bU] at h ⊢;split at h;(·rename_i hv hhv;rw [kQ (hs.eval hi) hhv];exact nA (f:=fun a l=>Instr.sliceAt T a (some l) (some hv) none) hx (hs.eval lo) h);simp at h
 split at h;·simp at h
 rename_i e he;split at h;·simp at h
 rename_i size hz;cases lo with|none =>(cases hi with|none =>obtain⟨aa,len,cap,rfl,h0,h1,h2,h3,hr⟩:=pB hs hx h;exact⟨_,pC ht he hz w aa len cap none none 0 none (.inl ⟨rfl,rfl⟩) (.inl ⟨rfl,rfl⟩) h0 h1 h2 h3,hr⟩|some hi =>simp only [bU,av3] at h ⊢;split at h;(·rename_i n hn;obtain⟨k,hk⟩:=sH (hs.eval hi) hn;obtain⟨aa,len,cap,rfl,h0,h1,h2,h3,hr⟩:=pB hs hx h;exact⟨_,pC ht he hz w aa len cap none _ 0 (some n) (.inl ⟨rfl,rfl⟩) (.inr ⟨k,n,by rw [hk],rfl⟩) h0 h1 h2 h3,hr⟩);simp at h)|some lo =>simp only [bU] at h ⊢;split at h;(·simp at h);rename_i l hl;obtain⟨k,hk⟩:=sH (hs.eval lo) hl;cases hi with|none =>simp only [av3] at h ⊢;obtain⟨aa,len,cap,rfl,h0,h1,h2,h3,hr⟩:=pB hs hx h;exact⟨_,pC ht he hz w aa len cap _ none l none (.inr ⟨k,by rw [hk]⟩) (.inl ⟨rfl,rfl⟩) h0 h1 h2 h3,hr⟩|some hi =>simp only [bU] at h ⊢;split at h;(·rename_i n hn;obtain⟨k',mm⟩:=sH (hs.eval hi) hn;obtain⟨aa,len,cap,rfl,h0,h1,h2,h3,hr⟩:=pB hs hx h;exact⟨_,pC ht he hz w aa len cap _ _ l (some n) (.inr ⟨k,by rw [hk]⟩) (.inr ⟨k',n,by rw [mm],rfl⟩) h0 h1 h2 h3,hr⟩);simp at h
def qa:List V->Option (List Value)
 | []=>some []
 | v :: r=>match fq v with
  | some x=>match qa r with|some l=>some (x :: l)|none=>none
  | none=>none
theorem rf {E:Env}:∀ {vs:List V} {xs l:List Value},dh E vs xs->qa vs=some l->xs=l
 | [],xs,l,h,hl=>by simp [qa] at hl;subst hl;exact h.of_nil
 | v :: vs,xs,l,h,hl=>by
  obtain⟨x,ys,rfl,h1,h2⟩:=h.of_cons
  simp only [qa] at hl
  split at hl
  ·rename_i x' VU
   split at hl
   ·rename_i l' hl'
    simp only [aD] at hl;subst hl
    rw [kQ h1 VU,rf h2 hl']
   simp at hl
  simp at hl
def u3 (P:g7) (f:Array Value->Sem Value) (xs:List V):Option V :=
 match qa xs with
 | some l=>match dL P (f l.toArray) with|some v=>some (j6 v)|none=>none
 | none=>none
theorem dt.qx {E:Env} {w:World} {a:Act} {st:St} (hs:dt E w a st) (xs:Array Operand):dh E (xs.toList.map st.eval) (xs.map a.eval).toList:=by refine⟨by simp,fun i v x hv hx=>?_⟩;simp only [ae,Array.toList_map,bp] at hv hx;obtain⟨o,ho,rfl⟩:=hv;obtain⟨o',YO,rfl⟩:=hx;rw [ho] at YO;cases YO;exact hs.eval o
def FD (P:g7) (tt:Table) (ts:Array g9) (ty:g9):List V->Option V
 | [.slice rows]=>match ts[0]? with
  | some t=>match ke tt t with|some _=>some (.sc (.int .i64 rows.length))|none=>none
  | none=>none
 | [.ms _ _ _ l]=>match ts[0]? with
  | some t=>match ke tt t with|some _=>some (.sc (.int .i64 l))|none=>none
  | none=>none
 | xs=>u3 P (Builtin.len_ ts ty) xs
def apl (tt:Table) (S:g9) (f:Nat) (T:g9) (x:V):Option V :=
 match x with
 | .agg cs=>match Wh tt S f with
  | some off=>j1 tt T (cs.drop off)
  | none=>none
 | _=>none
def OS (k:Int):Bool:=match bJ.κ k with|some b=>b|none=>decide (k<=bJ.n)
theorem FE (k:Int):OS k=decide (k<=bJ.n):=by
 unfold OS;split;·rename_i b h;exact (bJ.ok k b h).symm
 rfl
def MY (op:BinOp) (x y:V):Option V :=
 match y with
 | .gn=>match op,x with
  | .leq,.sc (.int .i64 k)=>some (.sc (.bool (OS k)))
  | .gtr,.sc (.int .i64 k)=>some (.sc (.bool (!OS k)))
  | _,_=>none
 | _=>none
theorem HS {P:g7} {E:Env} {w:World} {op:BinOp} {T:g9} {x y v:V} {a b:Value} (xo yo:Operand) (hx:df E x a) (hy:df E y b) (h:MY op x y=some v) :
  ∃ z,(do eqGuard op T xo yo a b;binOp op T a b:Sem Value).run P w = .ok z w/\df E v z:=by
 unfold MY at h;split at h;·cases hy;split at h;(·rename_i k;cases h;cases hx;refine⟨.bool (decide (k<=bJ.n)),by simp [binOp,Op.intCmp,eqGuard],by rw [FE];exact .sc _ _⟩);(·rename_i k;cases h;cases hx;refine⟨.bool (decide (k>bJ.n)),by simp [binOp,Op.intCmp,eqGuard],?_⟩;(have:(!OS k)=decide (k>bJ.n):=by rw [FE];by_cases h:k<=bJ.n;(·rw [decide_eq_true h,decide_eq_false (by omega)];rfl);rw [decide_eq_false h,decide_eq_true (by omega)];rfl);rw [this];exact .sc _ _);cases h
 cases h
def yr (P:g7) (op:BinOp) (T:g9) (y:V):Option V :=
 match y with
 | .sc (.pointer none)=>match P.underlying T with
  | some (.pointer _)=>match op with
   | .eql=>some (.sc (.bool false))
   | .neq=>some (.sc (.bool true))
   | _=>none
  | _=>none
 | _=>none
def FF (P:g7) (op:BinOp) (T:g9) (x y:V):Option V :=
 match x with
 | .fQ _=>yr P op T y
 | .ptr _ _=>yr P op T y
 | .iI _ _ _ _=>yr P op T y
 | _=>none
theorem FG {P:g7} {E:Env} {w:World} {op:BinOp} {T:g9} {x y v:V} {a b:Value} (xo yo:Operand) (hx:df E x a) (hy:df E y b) (h:FF P op T x y=some v) :
  ∃ z,(do eqGuard op T xo yo a b;binOp op T a b:Sem Value).run P w = .ok z w/\df E v z:=by
 have key:∀ ad:Addr,a = .pointer (some ad)->yr P op T y=some v->∃ z,(do eqGuard op T xo yo a b;binOp op T a b:Sem Value).run P w = .ok z w/\df E v z:=by rintro ad rfl h;unfold yr at h;split at h;(·split at h;(·rename_i e hT;cases hy;(have he:(Op.equal T (.pointer (some ad)) (.pointer none)).run P w = .ok false w:=by show (Op.equalIn (9999+1) T _ _).run P w=_;unfold Op.equalIn;simp [bu hT]);split at h;(·cases h;exact⟨.bool false,by simp [binOp,eqGuard,he],.sc _ _⟩);(·cases h;exact⟨.bool true,by simp [binOp,eqGuard,he],.sc _ _⟩);cases h);cases h);cases h
 unfold FF at h;split at h;·cases hx with|fQ _ _ ad xf hF hR=>exact key ad rfl h
 ·cases hx with|ptr _ _ _ g e c hb=>exact key _ rfl h
 ·cases hx with|iI _ _ _ _ _ g e c hb=>exact key _ rfl h
 cases h
def kz:List V->Option (List Int)
 | []=>some []
 | .sc (.int .u8 n) :: r=>match kz r with|some l=>some (n :: l)|none=>none
 | _=>none
def qb (P:g7) (s d:g9) (rows:List V):Option V :=
 match P.underlying s with
 | some (.slice e)=>match P.underlying e with
  | some (.int .u8)=>match P.underlying d with
   | some .string=>match kz rows with|some ns=>some (.sc (.string (strOfNums ns)))|none=>none
   | _=>none
  | _=>none
 | _=>none
def rY (P:g7) (mem:List bx) (s d:g9):V->Option V
 | .slice rows=>qb P s d rows
 | .ms b v o l=>match mem[b]? with
  | some (.rows v' e rs)=>if v'=v/\e=1/\o+l<=rs.length then qb P s d ((rs.drop o).take l) else none
  | some (.sF v' e rs)=>if v'=v/\e=1/\o+l<=rs.length then qb P s d ((rs.drop o).take l) else none
  | _=>none
 | x=>qt P (convert s d) x
theorem Rj (P:g7) (mem:List bx) (s d:g9) (x:Value):rY P mem s d (.sc x)=qt P (convert s d) (.sc x):=rfl
theorem HT {P:g7} {mem:List bx} {s d e:g9} {rows:List V} {ns:List Int} (hs:P.underlying s=some (.slice e)) (he:P.underlying e=some (.int .u8)) (hd:P.underlying d=some .string) (hb:kz rows=some ns) :
  rY P mem s d (.slice rows)=some (.sc (.string (strOfNums ns))):=by simp only [rY,qb,hs,he,hd,hb]
theorem rZ:∀ {rows:List V} {ns:List Int},kz rows=some ns->ns.length=rows.length
 | [],ns,h=>by simp [kz] at h;subst h;rfl
 | r :: rs,ns,h=>by
  unfold kz at h
  split at h
  ·rename_i heq;exact absurd heq (by simp)
  ·rename_i n l heq
   cases heq
   split at h
   ·rename_i l' hl
    cases h
    simp [rZ hl]
   cases h
  cases h
theorem oi:∀ {rows:List V} {ns:List Int},kz rows=some ns->∀ (i:Nat) (r:V),rows[i]?=some r->r = .sc (.int .u8 (ns.getD i 0))
 | [],ns,h,i,r,hr=>by simp at hr
 | r0 :: rs,ns,h,i,r,hr=>by
  unfold kz at h
  split at h
  ·rename_i heq;exact absurd heq (by simp)
  ·rename_i n l heq
   cases heq
   split at h
   ·rename_i l' hl
    cases h
    cases i with
    | zero=>simp at hr;subst hr;rfl
    | succ i=>exact oi hl i r (by simpa using hr)
   cases h
  cases h
theorem rh {P:g7} {w:World} {E:Env} {s d:g9} {rows:List V} {v:V} {aa:Option Addr} {cap:Nat} (h:qb P s d rows=some v) (hn:rows≠[]->∃ g o,aa=some ⟨g,o,none⟩/\∀ (i:Nat) (r:V),rows[i]?=some r->∃ x,w.cell? ⟨g,o+i,none⟩=some x/\df E r x) :
  ∃ y,(convert s d (.slice aa rows.length cap)).run P w = .ok y w/\df E v y:=by
 unfold qb at h;split at h;·rename_i e hs;split at h;(·rename_i he;split at h;(·rename_i hd;split at h;(·rename_i ns hb;cases h;refine⟨_,?_,.sc _ _⟩;have hl:=rZ hb;cases rows with|nil =>(have:ns=[]:=b9.1 hl;subst this;rw [run_convert_bytes_string w s d e aa _ cap hs he hd];cases aa with|none=>simp [Conv.bytesToString];rfl|some a0 =>have:=run_bytesToString (P:=P) w a0 0 cap [] (by simp [loadCells,loadCellsFrom]);have e0:strOfNums []=ByteArray.empty:=rfl;rw [e0];simpa using this)|cons r0 rr =>obtain⟨g,o,rfl,hc⟩:=hn (by simp);refine run_convert_bytes_arg w s e hs he g o _ cap ns hl (fun i hi=>?_) d hd;obtain⟨x,hx,hr⟩:=hc i _ (bf hi);rw [hx,oi hb i _ (bf hi)] at *;rw [fL hr]);cases h);cases h);cases h
 cases h
theorem zh {P:g7} {s d:g9} {rows:List V} {v:V} (h:qb P s d rows=some v):∃ ns,kz rows=some ns:=by
 unfold qb at h;split at h;·split at h;(·split at h;(·split at h;(·rename_i ns hb;exact⟨ns,hb⟩);cases h);cases h);cases h
 cases h
theorem OT {w:World} {ad:Addr} {x:Value} (h:w.cell? ad=some x):ad.spot=none:=by
 unfold World.cell? at h;split at h;·split at h;(·simp at h);rename_i h1;cases hs:ad.spot with|none=>rfl|some s=>simp [hs] at h1
 simp at h
theorem HU {P:g7} {E:Env} {w:World} {a:Act} {st:St} (hs:dt E w a st) {s d:g9} {x v:V} {y:Value} (hx:df E x y) (h:rY P st.mem s d x=some v):∃ z,(convert s d y).run P w = .ok z w/\df E v z:=by
 have ms:∀ (b v' o l e:Nat) (rs:List V),df E (.ms b v' o l) y->e=1->o+l<=rs.length->(∀ g e' c,E.cE b v'=some (g,e',c)->e'=e/\mR E.pure e rs (fun k=>w.cell? ⟨g,k,none⟩)) ->
   qb P s d ((rs.drop o).take l)=some v->∃ z,(convert s d y).run P w = .ok z w/\df E v z:=by
  intro b v' o l e rs hr he hl nB hb
  obtain⟨ns,OU⟩:=zh hb
  have hlen:((rs.drop o).take l).length=l:=by simp;omega
  cases hr with
  | jr =>
   have h0:(rs.drop o).take 0=[]:=dF
   rw [h0] at hb
   exact rh (aa:=none) (cap:=0) (w:=w) (E:=E) hb (fun dI=>absurd rfl dI)
  | ms _ _ _ _ _ g e' c aa cap fw uP VV wD =>
   have gY:=hb
   rw [<- hlen]
   refine rh hb fun dI=>?_
   have zi:0<l:=by
    rcases Dt l with h0|h0
    ·subst h0;exact absurd dF dI
    exact h0
   obtain⟨VX,hro⟩:=nB g e' c fw
   subst he
   subst VX
   refine⟨g,o*1,uP zi,fun i r hi=>?_⟩
   have hi':rs[o+i]?=some r:=by
    rw [gU] at hi
    split at hi
    ·simpa using hi
    simp at hi
   obtain⟨-,h2⟩:=hro _ r hi'
   have DJ:=oi OU i r hi
   obtain⟨x,hx,-,Rk⟩:=h2 0 r (by rw [DJ];rfl)
   refine⟨x,?_,Rk.mono (Env.ud E)⟩
   have:(o+i)*1+0=o*1+i:=by omega
   rw [<- this];exact hx
 unfold rY at h;split at h;·rename_i rows;obtain⟨ns,OU⟩:=zh h;cases hx with|slice _ _ aa cap vz ad xf ha mF hz hF re hR =>refine rh h fun dI=>?_;(have key:∀ (i:Nat) (r:V),rows[i]?=some r->∃ x,w.cell? (ad.add i)=some x/\df E r x:=fun i r hi=>by have DJ:=oi OU i r hi;(have hc:r.cells=[r]:=by rw [DJ];rfl);(have he:vz=1:=by rw [<- hz i r hi,hc];rfl);have h1:=hF i r 0 r hi (by rw [hc];rfl);have h2:=hR i r 0 r hi (by rw [hc];rfl);rw [he,sE,fI] at h1;exact⟨_,hs.F _ _ h1,h2.mono (Env.ud E)⟩);(obtain⟨r0,h0⟩:∃ r0,rows[0]?=some r0:=by cases rows with|nil=>exact absurd rfl dI|cons r0 rr=>exact⟨r0,rfl⟩);obtain⟨x0,MZ,-⟩:=key 0 r0 h0;(have afK:ad.add 0=ad:=by simp [Addr.add]);have M0:=OT MZ;rw [afK] at M0;obtain⟨g,o,sp⟩:=ad;obtain rfl:sp=none:=M0;refine⟨g,o,ha dI,fun i r hi=>?_⟩;obtain⟨x,hx,hr⟩:=key i r hi;exact⟨x,by rw [<- hx];congr 1;unfold Addr.add;by_cases h0:i=0 <;> simp [h0],hr⟩
 ·rename_i b v' o l;split at h;(·rename_i v1 e rs hm;split at h;(·rename_i hc;obtain⟨rfl,rfl,hl⟩:=hc;refine ms b v1 o l 1 rs hx rfl hl (fun g e' c fw=>?_) h;(rcases hs.mem b _ hm with ⟨alb,hn⟩|⟨g',T,xs,c',gY,hh,-,-,nB,-⟩);(·rw [hn] at fw;cases fw);rw [gY] at fw;cases fw;refine⟨rfl,fun i row hi=>?_⟩;obtain⟨h1,h2⟩:=nB i row hi;refine⟨h1,fun j cc hj=>?_⟩;obtain⟨x,hx,h3⟩:=h2 j cc hj;exact⟨x,(og hh _).trans hx,h3⟩);cases h);(·rename_i v1 e rs hm;split at h;(·rename_i hc;obtain⟨rfl,rfl,hl⟩:=hc;refine ms b v1 o l 1 rs hx rfl hl (fun g e' c fw=>?_) h;(rcases hs.mem b _ hm with ⟨alb,hn⟩|⟨g',c',gY,-,nB⟩);(·rw [hn] at fw;cases fw);rw [gY] at fw;cases fw;refine⟨rfl,fun i row hi=>?_⟩;obtain⟨h1,h2⟩:=nB i row hi;refine⟨h1,fun j cc hj=>?_⟩;obtain⟨x,hx,h3⟩:=h2 j cc hj;exact⟨x,hs.F _ _ hx,h3⟩);cases h);cases h
 exact sG hx h
def oy (op:BinOp) (T:g9) (x y:Operand):Value->Value->Sem Value:=fun u v=>do eqGuard op T x y u v;binOp op T u v
def Bj (P:g7) (tt:Table) (T:g9) (x i:V):Option V :=
 match x with
 | .ptr b o=>match i with
  | .sc (.int _ n)=>match P.underlying T with
   | some (.array len e)=>match pw tt e with
    | some size=>if 0<=n/\n<len then some (.ptr b (o+n.toNat*size)) else none
    | none=>none
   | _=>none
  | _=>none
 | _=>none
theorem HV {P:g7} {tt:Table} (ht:TT P tt) {E:Env} {T:g9} {p i v:V} {x y:Value} (hp:df E p x) (hi:df E i y) (h:Bj P tt T p i=some v) (w:World) :
  ∃ z,(Instr.indexAt T x y).run P w = .ok z w/\df E v z:=by
 unfold Bj pw at h;split at h;·rename_i b o;split at h;(·rename_i k n;split at h;(·rename_i len e hd;cases hE:tt e with|none=>rw [hE] at h;simp at h|some ie =>rw [hE] at h;simp only at h;split at h;(·rename_i h0;cases h;cases hi with|sc =>cases hp with|ptr _ _ _ g e' c hb =>refine⟨.pointer (some ⟨g,o+n.toNat*ie.size,none⟩),?_,.ptr _ _ _ g e' c hb⟩;simp [Instr.indexAt,asIntOf,bu hd,Instr.sureAddr,ht.sizeOf hE,h0,add_lit]);cases h);cases h);cases h
 cases h
def YP (rows:List V):Bool->V
 | true=>.full rows
 | false=>.slice rows
def M1 (tt:Table) (T:g9) (x h m:V):Option V :=
 match x with
 | .slice rows=>match HO h with
  | some a=>match HO m with
   | some b=>match ke tt T with
    | some e=>match pw tt e with
     | some _=>if 0<=a/\a<=b/\b<=rows.length then some (YP (rows.take a.toNat) (decide (a=b))) else none
     | none=>none
    | none=>none
   | none=>none
  | none=>none
 | _=>none
theorem HW {P:g7} {tt:Table} (ht:TT P tt) {E:Env} {T:g9} {x h m v:V} {y z u:Value} (hx:df E x y) (hh:df E h z) (hm:df E m u) (hc:M1 tt T x h m=some v) (w:World) :
  ∃ q,(Instr.sliceAt T y none (some z) (some u)).run P w = .ok q w/\df E v q:=by
 unfold M1 at hc;split at hc;·rename_i rows;split at hc;(·rename_i a ha;split at hc;(·rename_i b hb;obtain⟨k1,rfl⟩:=sH hh ha;obtain⟨k2,rfl⟩:=sH hm hb;unfold ke pw at hc;cases hT:tt T with|none=>rw [hT] at hc;simp at hc|some iT =>rw [hT] at hc;simp only at hc;cases he:iT.elem with|none=>rw [he] at hc;simp at hc|some e =>rw [he] at hc;simp only at hc;cases hE:tt e with|none=>rw [hE] at hc;simp at hc|some ie =>rw [hE] at hc;simp only at hc;obtain⟨d,hd,-,wC,-⟩:=ht.desc T iT hT;obtain rfl:=wC e he;split at hc;(·rename_i yl;obtain⟨h0,h1,h2⟩:=yl;cases hc;cases hx with|slice _ _ aa cap vz ad xf haa mF hz hF re hR =>(have hlen:(rows.take a.toNat).length=a.toNat:=by rw [eK];omega);(have fG:(Instr.sliceAt T (.slice aa rows.length cap) none (some (.int k1 a)) (some (.int k2 b))).run P w = .ok (.slice aa a.toNat b.toNat) w:=by simp only [Instr.sliceAt,Instr.slice,Sem.run_bind,bu hd,Result.andThen_ok,Instr.sliceBounds,Instr.sliceBound,asIntOf,Sem.run_pure,ht.sizeOf hE,Option.isSome_some];rw [gH ⟨by omega,by omega⟩];simp only [Sem.run_pure,Result.andThen_ok];rw [gH ⟨by omega,by omega⟩];simp [Addr.add]);refine⟨_,fG,?_⟩;(have hg:∀ (i:Nat) (row:V),(rows.take a.toNat)[i]?=some row->rows[i]?=some row:=fun i row hi=>by rw [gU] at hi;split at hi;(·exact hi);cases hi);have:=df.slice E (rows.take a.toNat) aa b.toNat vz ad xf (fun dI=>haa fun h=>dI (by rw [h,avD])) (by omega) (fun i row hi=>hz _ _ (hg i row hi)) (fun i row j c hi hj=>hF _ _ _ _ (hg i row hi) hj) (fun i row j c hi hj=>re _ _ _ _ (hg i row hi) hj) fun i row j c hi hj=>hR _ _ _ _ (hg i row hi) hj;rw [hlen] at this;by_cases Wi:a=b;(·rw [decide_eq_true Wi];(have hbn:b.toNat=(rows.take a.toNat).length:=by rw [hlen,Wi]);(have h4:(Value.slice aa a.toNat b.toNat) = .slice aa (rows.take a.toNat).length (rows.take a.toNat).length:=by rw [<- hbn,<- Wi]);rw [h4];exact .full _ _ _ (by rw [<- h4];exact this));rw [decide_eq_false Wi];exact this);cases hc);cases hc);cases hc
 cases hc
def FH (P:g7) (tt:Table) (S:g9) (f:Nat) (x:V):Option V :=
 match x with
 | .agg cs=>match P.underlying S with
  | some (.struct fs)=>match fs[f]? with
   | some fd=>j1 tt fd.type (cs.drop fd.offset)
   | none=>none
  | _=>none
 | _=>none
theorem DK {P:g7} {tt:Table} (ht:TT P tt) {E:Env} {S:g9} {f:Nat} {x v:V} {y:Value} (hx:df E x y) (h:FH P tt S f x=some v) (w:World):∃ z,(Instr.field S y f).run P w = .ok z w/\df E v z:=by
 unfold FH at h;split at h;·rename_i cs;split at h;(·rename_i fs hu;split at h;(·rename_i fd hf;cases hx with|agg _ _ xs hl hr =>simp only [Instr.field,Sem.run_bind,bu hu,Result.andThen_ok,hf];unfold j1 at h;cases hi:tt fd.type with|none=>rw [hi] at h;simp at h|some i =>rw [hi] at h;simp only at h;cases ha:i.agg with|false =>simp only [ha,bw,if_false] at h;(have h0:cs[fd.offset]?=some v:=by simpa [awN] using h);(have bH:fd.offset<xs.size:=by rw [<- hl];exact (az.1 h0).1);refine⟨xs[fd.offset],?_,hr _ _ _ h0 (cb bH)⟩;simp [part,asAgg,ht.isAgg hi,ha,cb bH]|true =>simp only [ha,if_true] at h;split at h;(·rename_i hle;simp only [aD] at h;subst h;rw [eL] at hle;refine⟨.agg (xs.extract fd.offset (fd.offset+i.size)),?_,.agg _ _ _ (by simp;omega) fun j c z hc hz=>?_⟩;(·simp [part,asAgg,ht.isAgg hi,ha,ht.sizeOf hi]);(have hj:j<i.size:=by by_cases hj:j<i.size;(·exact hj);rw [gU] at hc;simp [hj] at hc);rw [hH hj,av9] at hc;refine hr (fd.offset+j) c z hc ?_;rw [Array.getElem?_extract] at hz;split at hz;(·exact hz);cases hz);cases h);cases h);cases h
 cases h
def lM (P:g7) (tt:Table) (st:St) (o:Oper):Option V :=
 match o.op with
 | .move x=>some (st.eval x)
 | .assign x=>some (st.eval x)
 | .pick c a b=>match st.eval c with|.sc (.bool t)=>some (if t=true then st.eval a else st.eval b)|_=>none
 | .load T x=>qs tt st.mem T (st.eval x)
 | .nilCheck x=>aa6 (st.eval x)
 | .binOp op T x y _=>match MY op (st.eval x) (st.eval y) with
  | some v=>some v
  | none=>match FF P op T (st.eval x) (st.eval y) with
   | some v=>some v
   | none=>dy P (oy op T x y) (st.eval x) (st.eval y)
 | .unOp op _ x=>qt P (Op.unary op) (st.eval x)
 | .convert s d x=>rY P st.mem s d (st.eval x)
 | .makeFunc fn first cap=>some (.jh fn (first.toList.map st.eval) (cap.toList.map st.eval))
 | .slice T x lo hi none=>Fy P tt st.mem T (st.eval x) (lo.map st.eval) (hi.map st.eval)
 | .fieldAddr S x f=>Fv tt S f (st.eval x)
 | .field S x f=>FH P tt S f (st.eval x)
 | .slice T x none (some h) (some m)=>M1 tt T (st.eval x) (st.eval h) (st.eval m)
 | .indexAddr T x i=>match oH tt st.mem T (st.eval x) (st.eval i) with
  | some v=>some v
  | none=>Bj P tt T (st.eval x) (st.eval i)
 | .index T x i=>dy P (Instr.index T) (st.eval x) (st.eval i)
 | .extract t i=>match st.eval t with|.fZ vs=>vs[i]?|_=>none
 | .lookup T x i ok=>kR P st.mem T (st.eval x) (st.eval i) ok
 | .entry it=>OQ st.mem (st.eval it)
 | .call { callee:=.builtin .len,args:=xs,argTypes:=ts }=>match yq st.mem ts P (xs.toList.map st.eval) with
  | some v=>some v
  | none=>FD P tt ts o.type (xs.toList.map st.eval)
 | .call { callee:=.builtin .max,args:=xs,argTypes:=ts }=>u3 P (Builtin.max_ ts o.type) (xs.toList.map st.eval)
 | .call { callee:=.builtin .min,args:=xs,argTypes:=ts }=>u3 P (Builtin.min_ ts o.type) (xs.toList.map st.eval)
 | _=>none
theorem sK {P:g7} {f:Array Value->Sem Value} {E:Env} {w:World} {xs:List V} {v:V} {ys:Array Value} (hx:dh E xs ys.toList) (h:u3 P f xs=some v):∃ z,(f ys).run P w = .ok z w/\df E v z:=by
 unfold u3 at h;split at h;·rename_i l hl;have:=rf hx hl;split at h;(·rename_i z hz;simp only [aD] at h;subst h;subst this;exact⟨z,ia _ (by simpa using hz) w,lx E z⟩);simp at h
 simp at h
theorem FI {P:g7} {tt:Table} (ht:TT P tt) {ts:Array g9} {ty t e:g9} (h0:ts[0]?=some t) (he:ke tt t=some e) (w:World) (aa:Option Addr) (len cap:Nat) :
  (Builtin.len_ ts ty #[.slice aa len cap]).run P w = .ok (.int .i64 len) w:=by unfold ke at he;cases hT:tt t with|none=>rw [hT] at he;simp at he|some iT =>rw [hT] at he;simp only at he;obtain⟨d,hd,-,wC,-⟩:=ht.desc t iT hT;obtain rfl:=wC e he;simp [Builtin.len_,h0,bu hd,goInt]
theorem KU {P:g7} {tt:Table} (ht:TT P tt) {E:Env} {w:World} {ts:Array g9} {ty:g9} {xs:List V} {v:V} {ys:Array Value} (hx:dh E xs ys.toList) (h:FD P tt ts ty xs=some v) :
  ∃ z,(Builtin.len_ ts ty ys).run P w = .ok z w/\df E v z:=by
 unfold FD at h;split at h;·split at h;(·rename_i t h0;split at h;(·rename_i e he;simp only [aD] at h;subst h;obtain⟨x,r,hy,h1,h2⟩:=hx.of_cons;have:=h2.of_nil;subst this;(obtain rfl:ys = #[x]:=by rw [<- cJ (xs:=ys),hy]);cases h1 with|slice _ _ aa cap vz ad xf ha mF hz hF re hR=>exact⟨_,FI ht h0 he w aa _ cap,.sc _ _⟩);simp at h);simp at h
 ·split at h;(·rename_i t h0;split at h;(·rename_i e he;simp only [aD] at h;subst h;obtain⟨x,r,hy,h1,h2⟩:=hx.of_cons;have:=h2.of_nil;subst this;(obtain rfl:ys = #[x]:=by rw [<- cJ (xs:=ys),hy]);cases h1 with|jr=>exact⟨_,FI ht h0 he w none _ 0,.sc _ _⟩|ms _ _ _ _ _ g e' c aa cap hb hl VV wD=>exact⟨_,FI ht h0 he w aa _ cap,.sc _ _⟩);simp at h);simp at h
 exact sK hx h
theorem dN {P:g7} {s:Sem Value} {w:World} {x:Value} (h:s.run P w = .ok x w):(do pure (Next.value (<- s)):Sem Next).run P w = .ok (.value x) w:=by simp [h]
theorem uf {P:g7} {tt:Table} (ht:TT P tt) {E:Env} {w:World} {a:Act} {st:St} (hs:dt E w a st) {o:Oper} {v:V} (h:lM P tt st o=some v) :
  ∃ x,(execOp a.eval o).run P w = .ok (.value x) w/\df E v x:=by
 obtain⟨dst,op,type,pos,after,guard⟩:=o;unfold lM at h;dsimp only at h;split at h;·simp only [aD] at h;subst h;exact⟨_,rfl,hs.eval _⟩
 ·simp only [aD] at h;subst h;exact⟨_,rfl,hs.eval _⟩
 ·rename_i c x y;split at h;(·rename_i t hc;simp only [aD] at h;subst h;have:=hs.eval c;rw [hc] at this;refine⟨if t=true then a.eval x else a.eval y,?_,?_⟩;(·simp [execOp,fL this,asBool]);cases t <;> exact hs.eval _);simp at h
 ·obtain⟨y,h1,h2⟩:=zf ht hs (hs.eval _) h;exact⟨y,dN h1,h2⟩
 ·rename_i x;have hx:=hs.eval x;generalize hy:a.eval x=y at hx;(have fG:∀ z,(∀ m f c,z ≠ .func (.method m) f c)->z ≠ .pointer none->z ≠ .nilIface->z ≠ .nilFunc->a.eval x=z->(execOp a.eval { dst,op:=.nilCheck x,type,pos,after,guard }).run P w = .ok (.value z) w:=by intro z h1 h2 h3 h4 he;simp only [execOp,he];rfl);unfold aa6 at h;split at h <;> simp only [aD,reduceCtorEq] at h <;> subst h <;> rename_i hv <;> rw [hv] at hx;(·cases hx with|ptr _ _ _ g e c hb=>exact⟨_,fG _ (by simp) (by simp) (by simp) (by simp) hy,.ptr _ _ _ g e c hb⟩);(·cases hx with|iI _ _ _ _ _ g e c hb=>exact⟨_,fG _ (by simp) (by simp) (by simp) (by simp) hy,.iI _ _ _ _ _ g e c hb⟩);(·cases hx with|fQ _ _ ad xf hF hr=>exact⟨_,fG _ (by simp) (by simp) (by simp) (by simp) hy,.fQ _ _ _ xf hF hr⟩);(·cases hx with|jh _ f first cap xs ys h1 h2 h3 h4=>exact⟨_,fG _ (by simp) (by simp) (by simp) (by simp) hy,.jh _ _ _ _ _ _ h1 h2 h3 h4⟩);have:=fL hx;subst this;exact⟨_,fG _ (by simp) (by simp) (by simp) (by simp) hy,.sc _ _⟩
 ·rename_i op T x y _;split at h;(·rename_i hg;cases h;obtain⟨z,h1,h2⟩:=HS (P:=P) (w:=w) (T:=T) x y (hs.eval x) (hs.eval y) hg;exact⟨z,dN h1,h2⟩);split at h;(·rename_i hg;cases h;obtain⟨z,h1,h2⟩:=FG (P:=P) (w:=w) (T:=T) x y (hs.eval x) (hs.eval y) hg;exact⟨z,dN h1,h2⟩);obtain⟨z,h1,h2⟩:=nA (w:=w) (hs.eval x) (hs.eval y) h;exact⟨z,dN h1,h2⟩
 ·obtain⟨z,h1,h2⟩:=sG (w:=w) (hs.eval _) h;exact⟨z,dN h1,h2⟩
 ·obtain⟨z,h1,h2⟩:=HU (w:=w) hs (hs.eval _) h;exact⟨z,dN h1,h2⟩
 ·(rename_i fn first cap);simp only [aD] at h;subst h;(have h1:=hs.qx first);have h2:=hs.qx cap;exact⟨_,dN rfl,.jh _ _ _ _ _ _ (by simp) (by simp) (fun i c x hc hx=>h1.2 i c x hc (by simpa using hx)) fun i c x hc hx=>h2.2 i c x hc (by simpa using hx)⟩
 ·obtain⟨z,h1,h2⟩:=KS ht hs (hs.eval _) h;exact⟨z,dN h1,h2⟩
 ·obtain⟨z,h1,h2⟩:=Fw ht (hs.eval _) h w;exact⟨z,dN h1,h2⟩
 ·obtain⟨z,h1,h2⟩:=DK ht (hs.eval _) h w;exact⟨z,dN h1,h2⟩
 ·obtain⟨z,h1,h2⟩:=HW ht (hs.eval _) (hs.eval _) (hs.eval _) h w;exact⟨z,dN h1,h2⟩
 ·split at h;(·rename_i hv;cases h;obtain⟨z,h1,h2⟩:=Fx ht hs (hs.eval _) (hs.eval _) hv;exact⟨z,dN h1,h2⟩);obtain⟨z,h1,h2⟩:=HV ht (hs.eval _) (hs.eval _) h w;exact⟨z,dN h1,h2⟩
 ·obtain⟨z,h1,h2⟩:=nA (w:=w) (hs.eval _) (hs.eval _) h;exact⟨z,dN h1,h2⟩
 ·rename_i t i;split at h;(·rename_i vs hv;have:=hs.eval t;rw [hv] at this;generalize hy:a.eval t=y at this;cases this with|fZ _ _ xs hl hr =>(have hi:i<xs.size:=by rw [<- hl];exact (az.1 h).1);exact⟨xs[i],dN (by simp [hy,Instr.extract,cb hi]),hr i v _ h (cb hi)⟩);simp at h
 ·obtain⟨z,h1,h2⟩:=DI hs (hs.eval _) (hs.eval _) h;exact⟨z,dN h1,h2⟩
 ·obtain⟨z,h1,h2⟩:=KR hs (hs.eval _) h;exact⟨z,dN h1,h2⟩
 ·split at h;(·rename_i hl;cases h;obtain⟨z,h1,h2⟩:=KQ hs (hs.qx _) hl;exact⟨z,dN h1,h2⟩);obtain⟨z,h1,h2⟩:=KU ht (w:=w) (hs.qx _) h;exact⟨z,dN h1,h2⟩
 ·obtain⟨z,h1,h2⟩:=sK (w:=w) (hs.qx _) h;exact⟨z,dN h1,h2⟩
 ·obtain⟨z,h1,h2⟩:=sK (w:=w) (hs.qx _) h;exact⟨z,dN h1,h2⟩
 simp at h
end Go.Eng
end
section
namespace Go.Eng
variable [bJ]
open Go.RowKit (Below)
def dw (mem:List bx) (key:Nat) (B:bx):List bx:=if key<mem.length then mem.set key B else mem++[B]
def jo (mem:List bx) (key:Nat):Prop:=mem[key]?=some .hole\/key=mem.length
def Env.with (E:Env) (key ej:Nat) (t:Nat×Nat×Nat):Env := { F:=E.F,cE:=fun k v=>if k=key/\v=ej then some t else E.cE k v,gl:=E.gl }
theorem ri {mem:List bx} {key:Nat} (h:key<=mem.length) (B:bx) (k:Nat):(dw mem key B)[k]?=if k=key then some B else mem[k]?:=by
 unfold dw;split;·rename_i bH;rw [cf];by_cases hk:key=k;(·subst hk;simp [bH]);rw [g5 hk,g5 (fun e=>hk e.symm)]
 rename_i fP;have fK:key=mem.length:=by omega
 by_cases hk:k=key;·subst hk;rw [gH rfl,fK];simp
 rw [g5 hk,po];split;·rfl
 rw [ep (by simp;omega),ep (by omega)]
theorem u4 {mem:List bx} {key:Nat} (h:key<=mem.length) (B:bx):mem.length<=(dw mem key B).length/\key<(dw mem key B).length:=by unfold dw;split <;> simp <;> omega
theorem jo.le {mem:List bx} {key:Nat} (h:jo mem key):key<=mem.length:=by
 rcases h with h|h
 ·exact Nat.le_of_lt (az.1 h).1
 omega
theorem dt.free {E:Env} {w:World} {a:Act} {st:St} (hs:dt E w a st) {key:Nat} (h:jo st.mem key):∀ v,E.cE key v=none:=by
 rcases h with h|h
 ·exact hs.mem _ _ h
 exact hs.top _ (by omega)
theorem Env.nn {E:Env} {key ej:Nat} (h:E.cE key ej=none) (t:Nat×Nat×Nat):E.le (E.with key ej t) :=
 ⟨fun _ _ h=>h,fun b v u hb=>by
  show (if b=key/\v=ej then some t else E.cE b v)=some u
  rw [g5 (fun e=>by rw [e.1,e.2,h] at hb;cases hb)];exact hb⟩
theorem k6.mono {E E':Env} {w w':World} {k:Nat} {B:bx} (h:k6 E w k B) (hle:E.le E') (M3:∀ v,E.cE k v=none->E'.cE k v=none)
  (wG:∀ g e c,E.cE k B.ej=some (g,e,c)->w'.heap[g]?=w.heap[g]?) (hF:∀ g e c o,E.cE k B.ej=some (g,e,c)->E.F ⟨g,o,none⟩=none->E'.F ⟨g,o,none⟩=none):k6 E' w' k B:=by
 have nB:∀ {e rs} {f f':Nat->Option Value},(∀ o x,f o=some x->f' o=some x)->mR E.pure e rs f->mR E'.pure e rs f':=fun hf hr i row hi=>by obtain⟨h1,h2⟩:=hr i row hi;exact⟨h1,fun j c hj=>let ⟨x,hx,h1,hr⟩:=h2 j c hj;⟨x,hf _ _ hx,h1,hr.mono (Env.lG hle)⟩⟩
 cases B with|hole=>exact fun v=>M3 v (h v)|dead=>trivial|box cs =>obtain⟨g,T,xs,hb,hh,hr,hf⟩:=h;exact⟨g,T,xs,hle.cE _ _ _ hb,(wG _ _ _ hb).trans hh,hr.mono hle,fun o=>hF _ _ _ o hb (hf o)⟩|rows v e rs =>((rcases h with ⟨h1,h2⟩|⟨g,T,xs,c,hb,hh,ly,hl,hr,hf⟩);(·exact .inl ⟨h1,M3 _ h2⟩);exact .inr ⟨g,T,xs,c,hle.cE _ _ _ hb,(wG _ _ _ hb).trans hh,ly,hl,nB (fun _ _ h=>h) hr,fun o=>hF _ _ _ o hb (hf o)⟩)|loop s oe fr params assign body =>obtain⟨l,fn,tmps,db,hb,hh,hr,hf⟩:=h;exact⟨l,fn,tmps,db,hle.cE _ _ _ hb,(wG _ _ _ hb).trans hh,hr.mono hle,fun o=>hF _ _ _ o hb (hf o)⟩|map dU clock =>obtain⟨g,es,hb,hh,hr,hf⟩:=h;exact⟨g,es,hle.cE _ _ _ hb,(wG _ _ _ hb).trans hh,hr.mono hle,fun o=>hF _ _ _ o hb (hf o)⟩|jX m since seen last =>obtain⟨g,gm,e,c,hb,hm,hh,hf⟩:=h;exact⟨g,gm,e,c,hle.cE _ _ _ hb,hle.cE _ _ _ hm,(wG _ _ _ hb).trans hh,fun o=>hF _ _ _ o hb (hf o)⟩|ox T kb v l =>obtain⟨g,T',p,s,hb,hh,hp,hr,hf⟩:=h;exact⟨g,T',p,s,hle.cE _ _ _ hb,(wG _ _ _ hb).trans hh,hp,hr.mono hle,fun o=>hF _ _ _ o hb (hf o)⟩|pq T v O =>((rcases h with ⟨h1,h2⟩|⟨g,cur,c,hb,hh,h3,h4,h5,hf⟩);(·exact .inl ⟨h1,M3 _ h2⟩);exact .inr ⟨g,cur,c,hle.cE _ _ _ hb,(wG _ _ _ hb).trans hh,h3,h4,h5,fun o=>hF _ _ _ o hb (hf o)⟩)|n9 s pos =>obtain⟨g,hb,hh,hf⟩:=h;exact⟨g,hle.cE _ _ _ hb,(wG _ _ _ hb).trans hh,fun o=>hF _ _ _ o hb (hf o)⟩|oG =>obtain⟨g,hb,hh,hf⟩:=h;exact⟨g,hle.cE _ _ _ hb,(wG _ _ _ hb).trans hh,fun o=>hF _ _ _ o hb (hf o)⟩|sF v e rs =>(rcases h with ⟨h1,h2⟩|⟨g,c,hb,hl,hr⟩);(·exact .inl ⟨h1,M3 _ h2⟩);exact .inr ⟨g,c,hle.cE _ _ _ hb,hl,nB (fun _ _ h=>hle.F _ _ h) hr⟩
theorem dt.new {E:Env} {w:World} {a:Act} {st:St} (hs:dt E w a st) {key:Nat} (hk:jo st.mem key) {obj:Obj} {B:bx} {e c:Nat} (KV:B.ej=0)
  (hB:k6 (E.with key 0 (w.heap.size,e,c)) (w.alloc obj) key B) :
  dt (E.with key 0 (w.heap.size,e,c)) (w.alloc obj) a { st with mem:=dw st.mem key B }/\iF E w (E.with key 0 (w.heap.size,e,c)) (w.alloc obj):=by
 have Eg:=hs.free hk;have hle:=Env.nn (Eg 0) (w.heap.size,e,c);have ix:∀ k v,¬ (k=key/\v=0)->(E.with key 0 (w.heap.size,e,c)).cE k v=E.cE k v:=fun k v dI=>g5 dI;have fK:(E.with key 0 (w.heap.size,e,c)).cE key 0=some (w.heap.size,e,c):=gH ⟨rfl,rfl⟩;have u5:∀ k v,k≠key->(E.with key 0 (w.heap.size,e,c)).cE k v=E.cE k v:=fun k v dI=>ix k v fun h=>dI h.1;refine⟨⟨fun ad x hx=>?_,fun k v g e' c' hb=>?_,fun k B' u6=>?_,fun k mm v=>?_,fun k B' u6 v hv=>?_,?_,hs.fr.mono hle⟩,hle,fun k v g e' c' hb=>?_,fun ad x hx=>.inl hx,rfl,rfl,rfl,by simp,fun b hb _=>eB w _ b hb⟩;·rw [World.cell?_alloc_lt w _ ad (World.block_lt_of_cell? w ad (hs.F ad x hx))];exact hs.F ad x hx
 ·by_cases ga:k=key/\v=0;(·obtain⟨rfl,rfl⟩:=ga;rw [fK] at hb;cases hb;simp);rw [ix k v ga] at hb;have:=hs.lt _ _ _ _ _ hb;simp;omega
 ·rw [ri hk.le] at u6;split at u6;(·rename_i ga;subst ga;cases u6;exact hB);rename_i ga;exact (hs.mem k B' u6).mono hle (fun v h=>by rw [u5 k v ga];exact h) (fun g e' c' hb=>eB w _ g (hs.lt _ _ _ _ _ hb)) fun _ _ _ o _ h=>h
 ·have:=u4 hk.le B;dsimp only at mm;rw [u5 k v (by omega)];exact hs.top k (by omega) v
 ·dsimp only at u6;rw [ri hk.le] at u6;split at u6;(·rename_i ga;subst ga;cases u6;rw [ix k v (by omega)];exact Eg v);rename_i ga;rw [u5 k v ga];exact hs.ej k B' u6 v hv
 ·intro k k' v v' g e1 c1 e2 c2 h5 h6;by_cases ga:k=key/\v=0 <;> by_cases FJ:k'=key/\v'=0;(·rw [ga.1,FJ.1]);(·obtain⟨rfl,rfl⟩:=ga;rw [fK] at h5;cases h5;rw [ix k' _ FJ] at h6;have:=hs.lt _ _ _ _ _ h6;omega);(·obtain⟨rfl,rfl⟩:=FJ;rw [fK] at h6;cases h6;rw [ix k _ ga] at h5;have:=hs.lt _ _ _ _ _ h5;omega);rw [ix k _ ga] at h5;rw [ix k' _ FJ] at h6;exact hs.apart _ _ _ _ _ _ _ _ _ h5 h6
 by_cases ga:k=key/\v=0;·obtain⟨rfl,rfl⟩:=ga;rw [fK] at hb;cases hb;exact .inr (aA _)
 rw [ix k v ga] at hb;exact .inl ⟨_,_,_,_,hb⟩
theorem dt.Rm {E:Env} {w:World} {a:Act} {st:St} (hs:dt E w a st) {key:Nat} (hk:jo st.mem key) {xs:Array Value} {cs:List V} (hr:dh E cs xs.toList) (T:g9) :
  ∃ E',dt E' (w.alloc (.cells xs T (0,0))) a { st with mem:=dw st.mem key (.box cs) }/\iF E w E' (w.alloc (.cells xs T (0,0)))/\df E' (.ptr key 0) (.pointer (some ⟨w.heap.size,0,none⟩)):=by
 have hle:=Env.nn (hs.free hk 0) (w.heap.size,0,0);have:=hs.new (obj:=.cells xs T (0,0)) (B:=.box cs) (e:=0) (c:=0) hk rfl ⟨w.heap.size,T,xs,gH ⟨rfl,rfl⟩,heap_alloc_new w _,hr.mono hle,fun o=>?_⟩;·exact⟨_,this.1,this.2,.ptr _ _ _ _ 0 0 (gH ⟨rfl,rfl⟩)⟩
 show E.F _=none;cases hx:E.F ⟨w.heap.size,o,none⟩ with|none=>rfl|some x=>have:=World.block_lt_of_cell? w _ (hs.F _ _ hx);simp at this
theorem dt.wH {E:Env} {w:World} {a:Act} {st:St} (hs:dt E w a st) {key:Nat} (hk:jo st.mem key) {xs:Array Value} {rs:List V} {e c:Nat} (T:g9) (ly:xs.size=c*e) (hl:rs.length<=c)
  (hr:mR E.pure e rs (fun o=>xs[o]?)) :
  ∃ E',dt E' (w.alloc (.cells xs T (0,0))) a { st with mem:=dw st.mem key (.rows 0 e rs) }/\iF E w E' (w.alloc (.cells xs T (0,0)))/\df E' (.ms key 0 0 rs.length) (.slice (some ⟨w.heap.size,0,none⟩) rs.length c):=by
 have hle:=Env.nn (hs.free hk 0) (w.heap.size,e,c);have:=hs.new (obj:=.cells xs T (0,0)) (B:=.rows 0 e rs) (e:=e) (c:=c) hk rfl (.inr ⟨w.heap.size,T,xs,c,gH ⟨rfl,rfl⟩,heap_alloc_new w _,ly,hl,fun i row hi=>?_,fun o=>?_⟩);·exact⟨_,this.1,this.2,.ms _ _ _ _ _ w.heap.size e c _ _ (gH ⟨rfl,rfl⟩) (fun _=>by simp) (fun _=>⟨rfl,rfl⟩) ⟨hl,dc _,fun _=>by simp⟩⟩
 ·obtain⟨h1,h2⟩:=hr i row hi;exact⟨h1,fun j c' hj=>let ⟨x,hx,h1,hr⟩:=h2 j c' hj;⟨x,hx,h1,hr.mono (Env.lG hle)⟩⟩
 show E.F _=none;cases hx:E.F ⟨w.heap.size,o,none⟩ with|none=>rfl|some x=>have:=World.block_lt_of_cell? w _ (hs.F _ _ hx);simp at this
theorem dt.Wj {E:Env} {w:World} {a:Act} {st:St} (hs:dt E w a st) {key:Nat} (hk:jo st.mem key) (e:Nat):dt E w a { st with mem:=dw st.mem key (.rows 0 e []) }:=by
 have hn:=hs.free hk;refine⟨hs.F,hs.lt,fun k B hB=>?_,fun k mm=>hs.top k ?_,fun k B hB v hv=>?_,hs.apart,hs.fr⟩;·rw [ri hk.le] at hB;split at hB;(·rename_i ga;subst ga;cases hB;exact .inl ⟨rfl,hn 0⟩);exact hs.mem k B hB
 ·have:=u4 hk.le (.rows 0 e []);dsimp only at mm;omega
 dsimp only at hB;rw [ri hk.le] at hB;split at hB;·rename_i ga;subst ga;exact hn v
 exact hs.ej k B hB v hv
end Go.Eng
end
section
namespace Go.Eng
variable [bJ]
open Go.RowKit (Below)
def kf (xs:Array Value) (o:Nat):List Value->Array Value
 | []=>xs
 | v :: r=>kf (xs.setIfInBounds o v) (o+1) r
def kS (cs:List V) (o:Nat):List V->List V
 | []=>cs
 | v :: r=>kS (cs.set o v) (o+1) r
theorem mq (vs:List Value):∀ (xs:Array Value) (o:Nat),(kf xs o vs).size=xs.size:=by induction vs with|nil=>intro xs o;rfl|cons v r ih=>intro xs o;simp [kf,ih]
theorem Bk (vs:List V):∀ (cs:List V) (o:Nat),(kS cs o vs).length=cs.length:=by induction vs with|nil=>intro cs o;rfl|cons v r ih=>intro cs o;simp [kS,ih]
theorem zj {E:Env} (vs:List V):∀ (ys:List Value) (cs:List V) (xs:Array Value) (o:Nat),dh E vs ys->dh E cs xs.toList->dh E (kS cs o vs) (kf xs o ys).toList:=by induction vs with|nil=>intro ys cs xs o h k;have:=h.of_nil;subst this;exact k|cons v r ih =>intro ys cs xs o h k;obtain⟨y,ys,rfl,h1,h2⟩:=h.of_cons;exact ih ys _ _ _ h2 (by simpa using k.set o h1)
theorem kA (vs:List Value):∀ (xs:Array Value) (o k:Nat),o+vs.length<=xs.size->(kf xs o vs)[k]?=if o<=k/\k<o+vs.length then vs[k-o]? else xs[k]?:=by induction vs with|nil=>intro xs o k _;simp [kf];intro h1 h2;omega|cons v r ih =>intro xs o k h;simp only [af] at h;rw [kf,ih _ _ _ (by simp;omega)];by_cases h1:o+1<=k/\k<o+1+r.length;(·rw [gH h1,gH ⟨by omega,by simp;omega⟩];(have:k-o=(k-(o+1))+1:=by omega);rw [this,cu]);rw [g5 h1];by_cases h2:k=o;(·subst h2;rw [gH ⟨aA _,by simp⟩];simp only [dW,aI];rw [Array.getElem?_setIfInBounds_self_of_lt (by omega)]);rw [g5 (by simp only [af];omega),Ft (fun e=>h2 e.symm)]
theorem HX (vs:List V):∀ (cs:List V) (o k:Nat),o+vs.length<=cs.length->(kS cs o vs)[k]?=if o<=k/\k<o+vs.length then vs[k-o]? else cs[k]?:=by induction vs with|nil=>intro xs o k _;simp [kS];intro h1 h2;omega|cons v r ih =>intro xs o k h;simp only [af] at h;rw [kS,ih _ _ _ (by simp;omega)];by_cases h1:o+1<=k/\k<o+1+r.length;(·rw [gH h1,gH ⟨by omega,by simp;omega⟩];(have:k-o=(k-(o+1))+1:=by omega);rw [this,cu]);rw [g5 h1];by_cases h2:k=o;(·subst h2;rw [gH ⟨aA _,by simp⟩];simp only [dW,aI];rw [cf];simp;omega);rw [g5 (by simp only [af];omega),cT (fun e=>h2 e.symm)]
structure pF (w w':World) (g:Nat):Prop where
 os:w'.os=w.os
 tape:w'.tape=w.tape
 output:w'.output=w.output
 size:w'.heap.size=w.heap.size
 heap:∀ b,b≠g->w'.heap[b]?=w.heap[b]?
theorem lN {P:g7} {g:Nat} {T:g9} (o:Nat):∀ (vs:List Value) (i:Nat) (w:World) (xs:Array Value),w.heap[g]?=some (.cells xs T (0,0))->o+i+vs.length<=xs.size ->
  (∀ v∈vs,v.oneCell'=true)->∃ w',(storeCells ⟨g,o,none⟩ vs i).run P w = .ok () w'/\w'.heap[g]?=some (.cells (kf xs (o+i) vs) T (0,0))/\pF w w' g:=by intro vs;induction vs with|nil=>intro i w xs hh _ _;exact⟨w,rfl,hh,rfl,rfl,rfl,rfl,fun _ _=>rfl⟩|cons v r ih =>intro i w xs hh hl h1;simp only [af] at hl;(have hc:w.cell? ⟨g,o+i,none⟩=some (xs[o+i]'(by omega)):=by rw [og hh,cb]);(have hf:w.frozen? ⟨g,o+i,none⟩=false:=by simp [World.frozen?,hh]);(have KE:(w.setCell ⟨g,o+i,none⟩ v).heap[g]?=some (.cells (xs.setIfInBounds (o+i) v) T (0,0)):=by simp [World.setCell,avE,hh]);obtain⟨w',h2,h3,h4⟩:=ih (i+1) _ _ KE (by simp;omega) (fun v hv=>h1 v (bZ _ hv));refine⟨w',?_,by rw [kf];exact h3,h4.os,h4.tape,h4.output,by rw [h4.size];simp,fun b hb=>(h4.heap b hb).trans (Go.RowKit.Below.heap_setCell w _ v b hb)⟩;rw [storeCells];simp only [Sem.run_bind,add_lit];rw [run_store P w _ v .plain (h1 v (cP ..))];simp [stored,hc,hf,h2]
def FK:V->Bool
 | .sc v=>v.oneCell'
 | .undef=>false
 | .agg _=>false
 | .fZ _=>false
 | _=>true
def mr:V->Option (List V)
 | .agg cs=>if cs.all FK then some cs else none
 | v=>if FK v then some [v] else none
theorem HY {E:Env} {c:V} {x:Value} (h:df E c x) (ho:FK c=true):x.oneCell'=true:=by cases h <;> first|rfl|exact ho|simp [FK] at ho
theorem rj {E:Env} {v:V} {x:Value} {cs:List V} (h:df E v x) (hc:mr v=some cs):dh E cs x.cells.toList/\∀ y∈x.cells.toList,y.oneCell'=true:=by
 have key:∀ (cs:List V) (xs:List Value),dh E cs xs->cs.all FK=true->∀ y∈xs,y.oneCell'=true:=by intro cs;induction cs with|nil=>intro xs h _ y hy;rw [h.of_nil] at hy;simp at hy|cons c r ih =>intro xs h ha y hy;obtain⟨x,ys,rfl,h1,h2⟩:=h.of_cons;simp only [cI,aG] at ha;(rcases dp.1 hy with rfl|hy);(·exact HY h1 ha.1);exact ih ys h2 ha.2 y hy
 unfold mr at hc;split at hc;·split at hc;(·rename_i u7 cZ;simp only [aD] at hc;subst hc;have:=h.cells (by simp) (by simp);exact⟨this,key _ _ this cZ⟩);simp at hc
 split at hc;·rename_i dI re;simp only [aD] at hc;subst hc;have h1:x.oneCell'=true:=HY h re;(have hx:x.cells = #[x]:=by cases x <;> first|rfl|simp [Value.oneCell'] at h1);rw [hx];exact⟨.cons h (.nil _),fun y hy=>by simp at hy;subst hy;exact h1⟩
 simp at hc
theorem dt.FL {E:Env} {w:World} {a:Act} {st:St} (hs:dt E w a st) {g:Nat} (hf:∀ o,E.F ⟨g,o,none⟩=none) {ad:Addr} {x:Value} (hx:E.F ad=some x):ad.block≠g:=by
 intro he;have hc:=hs.F ad x hx;have M0:ad.spot=none:=by unfold World.cell? at hc;split at hc;(·split at hc;(·simp at hc);rename_i h;cases M0:ad.spot with|none=>rfl|some s=>simp [M0] at h);simp at hc
 have:ad=⟨g,ad.off,none⟩:=by cases ad;simp_all
 rw [this,hf] at hx;cases hx
theorem dt.Bl {E:Env} {w w':World} {a:Act} {st:St} (hs:dt E w a st) {b g e c:Nat} {B B':bx} (hm:st.mem[b]?=some B) (hh:B.held=true) (Wk:B'.ej=B.ej) (hb:E.cE b B.ej=some (g,e,c)) (hf:∀ o,E.F ⟨g,o,none⟩=none)
  (ho:pF w w' g) (hB:k6 E w' b B'):dt E w' a { st with mem:=st.mem.set b B' }/\iF E w E w':=by
 have bH:b<st.mem.length:=(az.1 hm).1
 refine⟨⟨fun ad x hx=>?_,fun k v g' e' c' hk=>by rw [ho.size];exact hs.lt _ _ _ _ _ hk,fun k B1 hk=>?_,fun k hk=>hs.top k (by simpa using hk),fun k B1 hk v hv=>?_,hs.apart,hs.fr⟩,
  E.le_refl,fun k v g e c h=>.inl ⟨k,v,e,c,h⟩,fun _ _ h=>.inl h,ho.os,ho.tape,ho.output,by rw [ho.size];exact aA _,fun b' gY dI=>ho.heap b' fun e=>by subst e;exact dI _ _ _ _ hb⟩
 ·have dI:=hs.FL hf hx;have:w'.heap[ad.block]?=w.heap[ad.block]?:=ho.heap _ dI;rw [<- hs.F ad x hx];simp [World.cell?,this]
 ·rw [cf] at hk;by_cases kT:b=k;(·subst kT;simp only [if_true,bH] at hk;cases hk;exact hB);rw [g5 kT] at hk;cases DL:B1.held with|false=>(cases B1 <;> first|exact hs.mem k _ hk|trivial|simp [bx.held] at DL)|true =>refine (hs.mem k B1 hk).mono E.le_refl (fun _ h=>h) (fun g' e' c' fw=>ho.heap _ fun e=>?_) fun _ _ _ _ _ h=>h;subst e;exact kT (hs.apart _ _ _ _ _ _ _ _ _ hb fw)
 dsimp only at hk;rw [cf] at hk;by_cases hqb:b=k;·subst hqb;simp only [if_true,bH] at hk;cases hk;exact hs.ej b B hm v (by omega)
 rw [g5 hqb] at hk;exact hs.ej k B1 hk v hv
def mu:V->Bool
 | .gn=>true
 | .sc _=>true
 | .slice _=>true
 | .fQ _=>true
 | .undef=>true
 | _=>false
theorem FM {E:Env} {v:V} {x:Value} (h:df E v x) (hp:mu v=true):df E.pure v x:=by cases h with|undef=>exact .undef _ _|gn=>exact .gn _|sc=>exact .sc _ _|slice _ rows a cap vz ad xf ha mF hz hF h1 hR=>exact .slice _ _ _ _ vz ad xf ha mF hz hF h1 hR|fQ _ cs ad xf hF hR=>exact .fQ _ _ _ xf hF hR|_=>simp [mu] at hp
def setRow (row:V) (o:Nat) (new:List V):V :=
 match row with
 | .agg cs=>.agg (kS cs o new)
 | r=>match o,new with
  | 0,[c]=>c
  | _,_=>r
theorem FN {row:V} {o:Nat} {new:List V} (ho:o+new.length<=row.cells.length) (re:new.all FK=true) (dI:new≠[]):(setRow row o new).cells=kS row.cells o new:=by cases row with|agg cs=>rfl|_ =>simp only [V.cells,af,ah] at ho ⊢;match new,dI with|[c],_ =>((obtain rfl:o=0:=by simp at ho;omega);simp only [cI,ew,aJ] at re;cases c <;> first|rfl|simp [FK] at re)|_ :: _ :: _,_=>simp at ho;omega
def nU (tt:Table) (mem:List bx) (T:g9) (p v:V):Option (List bx) :=
 match mr v with
 | none=>none
 | some new =>
  if pw tt T=some new.length then
   match p with
   | .ptr b o=>match mem[b]? with
    | some (.box cs)=>if o+new.length<=cs.length then some (mem.set b (.box (kS cs o new))) else none
    | _=>none
   | .iI b v i o=>match mem[b]? with
    | some (.rows v' e rs)=>match rs[i]? with
     | some row=>if v'=v/\o+new.length<=row.cells.length/\new≠[]/\new.all mu=true/\new.all FK=true then some (mem.set b (.rows v' e (rs.set i (setRow row o new)))) else none
     | none=>none
    | _=>none
   | _=>none
  else none
instance (new:List V):Decidable (new≠[]):=match new with|[]=>.isFalse (by simp)|_ :: _=>.isTrue (by simp)
theorem dh.pure {E:Env}:∀ {vs:List V} {xs:List Value},dh E vs xs->vs.all mu=true->dh E.pure vs xs
 | [],xs,h,_=>by rw [h.of_nil];exact .nil _
 | v :: vs,xs,h,hp=>by
  obtain⟨x,ys,rfl,h1,h2⟩:=h.of_cons
  simp only [cI,aG] at hp
  exact .cons (FM h1 hp.1) (dh.pure h2 hp.2)
theorem wI {P:g7} {tt:Table} (ht:TT P tt) {E:Env} {w:World} {a:Act} {st:St} (hs:dt E w a st) {T:g9} {p v:V} {x y:Value} {b7:List bx} (hp:df E p x) (hv:df E v y)
  (h:nU tt st.mem T p v=some b7):∃ w',(Instr.storeAt T x y).run P w = .ok () w'/\dt E w' a { st with mem:=b7 }/\iF E w E w':=by
 unfold nU at h;split at h;·simp at h
 rename_i new qc;obtain⟨hr,re⟩:=rj hv qc;split at h
 ·rename_i ly;have hlen:y.cells.size=new.length:=by have:=hr.1;simp at this;exact this.symm
  have fG:∀ {g o:Nat} {xs:Array Value} {T':g9},w.heap[g]?=some (.cells xs T' (0,0))->o+new.length<=xs.size ->
    ∃ w',(Instr.storeAt T (.pointer (some ⟨g,o,none⟩)) y).run P w = .ok () w'/\w'.heap[g]?=some (.cells (kf xs o y.cells.toList) T' (0,0))/\pF w w' g:=fun {g o xs T'} hh hle=>by
   obtain⟨w',h1,h2,h3⟩:=lN (P:=P) o y.cells.toList 0 w xs hh (by have:=hr.1;simp at this ⊢;omega) re
   refine⟨w',?_,by simpa using h2,h3⟩
   unfold pw at ly
   split at ly
   ·rename_i i hi
    simp only [aD] at ly
    simp only [Instr.storeAt,Instr.sureAddr,Sem.run_bind,Sem.run_pure,Result.andThen_ok,storeVar,ht.sizeOf hi,hlen,ly,ne_eq,not_true_eq_false,if_false]
    exact h1
   simp at ly
  split at h;·rename_i b o;split at h;(·rename_i cs hm;split at h;(·rename_i hle;simp only [aD] at h;subst h;cases hp with|ptr _ _ _ g e c hb =>obtain⟨g',T',xs,gY,hh,ug,hf⟩:=hs.mem b _ hm;rw [hb] at gY;cases gY;obtain⟨w',h1,h2,h3⟩:=fG (o:=o) hh (by have:=ug.1;simp at this;omega);exact⟨w',h1,hs.Bl hm rfl rfl hb hf h3 ⟨g,T',_,hb,h2,zj _ _ _ _ _ hr ug,hf⟩⟩);simp at h);simp at h
  ·rename_i b vv i o;split at h;(·rename_i v' e rs hm;split at h;(·rename_i row pZ;split at h;(·rename_i sL;obtain⟨rfl,hle,dI,Eh,afL⟩:=sL;simp only [aD] at h;subst h;cases hp with|iI _ _ _ _ _ g e' c hb =>(rcases hs.mem b _ hm with ⟨rfl,-⟩|⟨g',T',xs,c',gY,hh,sA,pE,ug,hf⟩);(·simp at pZ);rw [hb] at gY;cases gY;obtain⟨M4,hrc⟩:=ug i row pZ;have hi:i<rs.length:=(az.1 pZ).1;(have hmul:i*e+e<=xs.size:=by rw [sA,<- n6];exact lV e (by omega));obtain⟨w',h1,h2,h3⟩:=fG (o:=i*e+o) hh (by omega);refine⟨w',h1,hs.Bl hm rfl rfl hb hf h3 (.inr ⟨g,T',_,c,hb,h2,by rw [mq];exact sA,by simpa using pE,?_,hf⟩)⟩;have hyl:y.cells.toList.length=new.length:=hr.1.symm;intro i' alc HZ;rw [cf] at HZ;by_cases hii:i=i';(·subst hii;simp only [if_true,hi] at HZ;cases HZ;have hc:=FN hle afL dI;refine⟨by rw [hc,Bk];exact M4,fun j cc hj=>?_⟩;rw [hc,HX _ _ _ _ hle] at hj;dsimp only;rw [kA _ _ _ _ (by rw [hyl];omega),hyl];by_cases pY:o<=j/\j<o+new.length;(·rw [gH pY] at hj;rw [gH ⟨by omega,by omega⟩];obtain⟨z,hz,hzr⟩:=(hr.pure Eh).get hj;exact⟨z,by rw [<- hz];congr 1;omega,re z (aw hz),hzr⟩);rw [g5 pY] at hj;rw [g5 (by omega)];exact hrc j cc hj);rw [g5 hii] at HZ;obtain⟨h5,h6⟩:=ug i' alc HZ;refine⟨h5,fun j cc hj=>?_⟩;obtain⟨z,hz,AJ,hzr⟩:=h6 j cc hj;(have DG:j<e:=by rw [<- h5];exact (az.1 hj).1);refine⟨z,?_,AJ,hzr⟩;dsimp only;rw [kA _ _ _ _ (by rw [hyl];omega),hyl,g5 ?_];(·exact hz);intro pY;(rcases Nat.lt_or_gt_of_ne hii with bH|hgt);(·have:(i+1)*e<=i'*e:=lV e bH;rw [n6] at this;omega);have:(i'+1)*e<=i*e:=lV e hgt;rw [n6] at this;omega);simp at h);simp at h);simp at h
  simp at h
 simp at h
end Go.Eng
end
section
namespace Go.Eng
variable [bJ]
open Go.RowKit (Below)
def wJ (E:Env) (e:Nat) (rs:List V) (ys:Array Value):Prop:=ys.size=rs.length*e/\mR E e rs (fun o=>ys[o]?)
theorem Bm {i n j e:Nat} (hi:i<n) (hj:j<e):i*e+j<n*e:=by have:(i+1)*e<=n*e:=lV e hi;rw [n6] at this;omega
theorem Ei {P:g7} {E:Env} {w:World} {ad:Addr} {rows:List V} {size:Nat} (hz:∀ (i:Nat) (row:V),rows[i]?=some row->row.cells.length=size)
  (h:∀ (i:Nat) (row:V) (j:Nat) (c:V),rows[i]?=some row->row.cells[j]?=some c->∃ x,w.cell? (ad.add (i*size+j))=some x/\x.oneCell'=true/\df E c x) :
  ∃ ys:Array Value,(loadCells ad (rows.length*size)).run P w = .ok ys w/\wJ E size rows ys:=by
 let f:Nat->Value:=fun k=>(w.cell? (ad.add k)).getD default;have hf:∀ k,k<rows.length*size->w.cell? (ad.add k)=some (f k):=fun k hk=>by (have hs:0<size:=awx fun e=>by subst e;simp at hk);(have hi:k / size<rows.length:=by rwa [awK hs]);have hj:k % size<size:=avF _ hs;have pZ:=bf hi;have pE:=hz _ _ pZ;obtain⟨x,hx,-⟩:=h _ _ (k % size) _ pZ (bf (by rw [pE];exact hj));rw [Nat.mul_comm,awq] at hx;simp [f,hx]
 refine⟨((List.range (rows.length*size)).map f).toArray,run_loadCells w ad _ f hf,by simp,fun i row hi=>⟨hz i row hi,fun j c hj=>?_⟩⟩;obtain⟨x,hx,h1,hr⟩:=h i row j c hi hj;have FO:i<rows.length:=(az.1 hi).1;have DG:j<size:=by rw [<- hz i row hi];exact (az.1 hj).1
 refine⟨x,?_,h1,hr⟩;have:=Bm FO DG;simp [this,f,hx]
def rowsOf (mem:List bx) (size:Nat):V->Option (List V)
 | .slice rows=>if iM rows 0 size=true then some rows else none
 | .ms b v s l=>match mem[b]? with
  | some (.rows v' e rs)=>if v'=v/\e=size/\s+l<=rs.length then some ((rs.drop s).take l) else none
  | some (.sF v' e rs)=>if v'=v/\e=size/\s+l<=rs.length then some ((rs.drop s).take l) else none
  | _=>none
 | .sc (.slice none 0 0)=>some []
 | _=>none
theorem AK {rs:List V} {s l i:Nat} {row:V} (h:((rs.drop s).take l)[i]?=some row):rs[s+i]?=some row:=by
 rw [gU] at h;split at h;·simpa using h
 simp at h
theorem kU {P:g7} {E:Env} {w:World} {a:Act} {st:St} (hs:dt E w a st) {size:Nat} {v:V} {x:Value} {rows:List V} (hr:df E v x) (h:rowsOf st.mem size v=some rows) :
  ∃ aa cap,x = .slice aa rows.length cap/\rows.length<=cap/\∃ ys:Array Value,(Builtin.firstCells size rows.length x).run P w = .ok ys w/\wJ E.pure size rows ys:=by
 have FP:∀ n,n=0->∃ ys:Array Value,(Builtin.firstCells size n (.slice none n 0)).run P w = .ok ys w/\wJ E.pure size [] ys:=fun n hn=>by subst hn;exact⟨#[],rfl,by simp,fun i row hi=>by simp at hi⟩
 unfold rowsOf at h;split at h;·rename_i oI;split at h;(·rename_i yu;simp only [aD] at h;subst h;cases hr with|slice _ _ aa cap vz ad xf ha mF hz hF re hR =>refine⟨aa,cap,rfl,mF,?_⟩;cases nB:oI with|nil =>(subst nB;cases aa with|none=>exact FP 0 rfl|some a0=>exact⟨#[],by simp [Builtin.firstCells,loadCells,loadCellsFrom],by simp,fun i row hi=>by simp at hi⟩)|cons r0 rr =>(have dI:oI≠[]:=by simp [nB]);(have he:vz=size:=by unfold iM at yu;(have h0:oI[0]?=some r0:=by simp [nB]);rw [h0] at yu;simp only [beq_iff_eq] at yu;rw [<- yu,hz 0 _ h0]);subst he;obtain rfl:=ha dI;rw [<- nB];exact Ei (P:=P) hz fun i row j c hi hj=>⟨_,hs.F _ _ (hF i row j c hi hj),re i row j c hi hj,hR i row j c hi hj⟩);simp at h
 ·rename_i b v s l
  have HB:∀ (rs:List V),s+l<=rs.length->rows=(rs.drop s).take l->(∀ g e c,E.cE b v=some (g,e,c)->e=size/\mR E.pure size rs (fun o=>w.cell? ⟨g,o,none⟩)) ->
    ∃ aa cap,x = .slice aa rows.length cap/\rows.length<=cap/\∃ ys:Array Value,(Builtin.firstCells size rows.length x).run P w = .ok ys w/\wJ E.pure size rows ys:=by
   intro rs hl nB hb
   have hlen:rows.length=l:=by rw [nB];simp;omega
   cases hr with
   | jr =>
    have:rows=[]:=b9.1 hlen
    subst this
    exact⟨none,0,rfl,aA _,FP 0 rfl⟩
   | ms _ _ _ _ _ g e c aa cap fw uP VV wD =>
    obtain⟨rfl,hrk⟩:=hb g e c fw
    rw [<- hlen]
    refine⟨aa,cap,rfl,by omega,?_⟩
    by_cases zi:0<l
    ·obtain rfl:=uP zi
     refine Ei (P:=P) (fun i row hi=>?_) fun i row j c hi hj=>?_
     ·rw [nB] at hi;exact (hrk _ _ (AK hi)).1
     rw [nB] at hi
     obtain⟨x,hx,h1,h2⟩:=(hrk _ _ (AK hi)).2 j c hj
     exact⟨x,by rw [add_lit,<- hx];congr 2;rw [jF];omega,h1,h2⟩
    have:rows=[]:=b9.1 (by omega)
    subst this
    cases aa with
    | none=>exact⟨#[],rfl,by simp,fun i row hi=>by simp at hi⟩
    | some a0=>exact⟨#[],by simp [Builtin.firstCells,loadCells,loadCellsFrom],by simp,fun i row hi=>by simp at hi⟩
  split at h;·rename_i v' e rs hm;split at h;(·rename_i hc;obtain⟨rfl,hc⟩:=hc;simp only [aD] at h;refine HB rs hc.2 h.symm fun g e' c hb=>?_;(rcases hs.mem b _ hm with ⟨-,hn⟩|⟨g',T',xs,c',gY,hh,-,-,ug,-⟩);(·rw [hb] at hn;cases hn);rw [hb] at gY;cases gY;refine⟨hc.1,?_⟩;rw [hc.1] at ug;intro i row hi;obtain⟨h1,h2⟩:=ug i row hi;exact⟨h1,fun j c hj=>by dsimp only;rw [og hh];exact h2 j c hj⟩);simp at h
  ·rename_i v' e rs hm;split at h;(·rename_i hc;obtain⟨rfl,hc⟩:=hc;simp only [aD] at h;refine HB rs hc.2 h.symm fun g e' c hb=>?_;(rcases hs.mem b _ hm with ⟨-,hn⟩|⟨g',c',gY,-,ug⟩);(·rw [hb] at hn;cases hn);rw [hb] at gY;cases gY;refine⟨hc.1,?_⟩;rw [hc.1] at ug;intro i row hi;obtain⟨h1,h2⟩:=ug i row hi;exact⟨h1,fun j c hj=>let ⟨x,hx,h⟩:=h2 j c hj;⟨x,hs.F _ _ hx,h⟩⟩);simp at h
  simp at h
 ·simp only [aD] at h;subst h;obtain rfl:=fL hr;exact⟨none,0,rfl,aA _,FP 0 rfl⟩
 simp at h
def qy:V->V
 | .sc (.slice none 0 0)=>.slice []
 | v=>v
theorem wK {E:Env} {v:V} {x:Value} (h:df E v x):df E (qy v) x:=by
 unfold qy;split;·obtain rfl:=fL h;exact .slice _ [] none 0 0 default (fun _ _=>default) (by simp) (by simp) (by simp) (by simp) (by simp) (by simp)
 exact h
def Wl:V->V
 | .agg cs=>.agg (cs.map qy)
 | v=>qy v
theorem KW {v:V} {cs:List V} (h:mr v=some cs):(Wl v).cells=cs.map qy:=by
 unfold mr at h;split at h;·split at h;(·simp only [aD] at h;subst h;rfl);simp at h
 rename_i dI;split at h;·simp only [aD] at h;subst h;(cases v <;> first|exact absurd rfl (dI _)|rfl|skip);rename_i v;simp only [Wl,qy,bo,dR];split <;> rfl
 simp at h
theorem dh.qy {E:Env}:∀ {vs:List V} {xs:List Value},dh E vs xs->dh E (vs.map qy) xs
 | [],xs,h=>h
 | v :: vs,xs,h=>by
  obtain⟨x,ys,rfl,h1,h2⟩:=h.of_cons
  exact .cons (wK h1) (dh.qy h2)
def uh (size:Nat):List V->Option (List V)
 | []=>some []
 | v :: r=>match mr v with
  | some cs=>if cs.length=size/\cs.all mu=true then (match uh size r with|some rs=>some (Wl v :: rs)|none=>none) else none
  | none=>none
def sM:Nat->List (Nat×Operand)->Bool
 | _,[]=>true
 | k,(i,_) :: r=>i==k&&sM (k+1) r
theorem zo (off:Nat):∀ (l:List Value) (n:Nat) (cs:Array Value),(l.zipIdx n).foldl (fun cs (x:Value×Nat)=>cs.setIfInBounds (off+x.2) x.1) cs=kf cs (off+n) l:=by intro l;induction l with|nil=>intro n cs;rfl|cons v r ih=>intro n cs;rw [List.zipIdx_cons,kZ,ih,kf,eD]
theorem Rn {E:Env} {size:Nat}:∀ (parts:List (Nat×Operand)) (k:Nat) (ev:Operand->V) (av:Operand->Value) (Z:Array Value) (rs:List V),(∀ p∈parts,df E (ev p.2) (av p.2))->sM k parts=true ->
  uh size (parts.map fun p=>ev p.2)=some rs->(k+parts.length)*size<=Z.size ->
  ∃ Z',Instr.fill (fun i=>some (i*size,size)) Z (parts.map fun p=>(p.1,av p.2))=some Z'/\Z'.size=Z.size/\rs.length=parts.length/\(∀ o,o<k*size->Z'[o]?=Z[o]?) /\
   mR E.pure size rs (fun o=>Z'[k*size+o]?):=by intro parts;induction parts with|nil =>intro k ev av Z rs _ _ hl _;simp only [dR,uh,aD] at hl;subst hl;exact⟨Z,rfl,rfl,rfl,fun _ _=>rfl,fun i row hi=>by simp at hi⟩|cons p r ih =>intro k ev av Z rs kV OV hl ly;obtain⟨i,o⟩:=p;simp only [sM,aG,beq_iff_eq] at OV;obtain⟨rfl,OV⟩:=OV;simp only [bo,uh] at hl;split at hl;(·rename_i cs nj;split at hl;(·rename_i hc;split at hl;(·rename_i nC aba;simp only [aD] at hl;subst hl;obtain⟨hr,re⟩:=rj (kV (i,o) (cP ..)) nj;(have YQ:(av o).cells.size=size:=by have:=hr.1;simp at this;omega);simp only [af] at ly;(have hmul:i*size+size<=Z.size:=by have:(i+1)*size<=(i+(r.length+1))*size:=lV _ (by omega);rw [n6] at this;omega);obtain⟨Z',h1,h2,h3,h4,h5⟩:=ih (i+1) ev av (kf Z (i*size) (av o).cells.toList) nC (fun p hp=>kV p (bZ _ hp)) OV aba (by rw [mq];rw [show i+1+r.length=i+(r.length+1) from by omega];exact ly);(have hlen:(av o).cells.toList.length=size:=by simpa using YQ);(have M0:∀ q,(kf Z (i*size) (av o).cells.toList)[q]?=if i*size<=q/\q<i*size+size then (av o).cells.toList[q-i*size]? else Z[q]?:=fun q=>by rw [kA _ _ _ _ (by rw [hlen];exact hmul),hlen]);refine⟨Z',?_,by rw [h2,mq],by simp [h3],fun q hq=>?_,fun q row hq=>?_⟩;(·simp only [bo,Instr.fill,YQ];rw [g5 (by simp;omega)];rw [<- h1];congr 1;rw [<- awa,awG];exact zo (i*size) (av o).cells.toList 0 Z);(·rw [h4 q (by rw [n6];omega),M0,g5 (by omega)]);cases q with|zero =>simp only [aI,aD] at hq;subst hq;rw [KW nj];refine⟨by simpa using hc.1,fun j c hj=>?_⟩;(have DG:j<size:=by rw [<- hc.1];simpa using (az.1 hj).1);obtain⟨x,hx,Rk⟩:=(hr.pure hc.2).qy.get hj;refine⟨x,?_,re x (aw hx),Rk⟩;dsimp only;rw [Nat.zero_mul,dc,h4 _ (by rw [n6];omega),M0,gH ⟨by omega,by omega⟩,<- hx];congr 1;omega|succ q =>simp only [cu] at hq;obtain⟨h6,h7⟩:=h5 q row hq;refine⟨h6,fun j c hj=>?_⟩;obtain⟨x,hx,nS,Rk⟩:=h7 j c hj;refine⟨x,?_,nS,Rk⟩;dsimp only at hx ⊢;rw [<- hx];congr 1;rw [n6,n6];omega);simp at hl);simp at hl);simp at hl
def yv (tt:Table) (T:g9) (len:Nat) (parts:List (Nat×Operand)) (ev:Operand->V):Option (Nat×List V) :=
 match ke tt T with
 | some e=>match pw tt e with
  | some size=>if sM 0 parts=true/\parts.length=len/\len*size<=65536 then (match uh size (parts.map fun p=>ev p.2) with|some rs=>some (size,rs)|none=>none) else none
  | none=>none
 | none=>none
theorem FQ {P:g7} {tt:Table} (ht:TT P tt) {E:Env} {w:World} {a:Act} {ev:Operand->V} {T:g9} {len size:Nat} {parts:Array (Nat×Operand)} {rs:List V} (gM:∀ p∈parts.toList,df E (ev p.2) (a.eval p.2))
  (h:yv tt T len parts.toList ev=some (size,rs)) :
  ∃ (Z:Array Value) (e:g9),(Instr.buildSlice T len (parts.map fun (i,x)=>(i,a.eval x))).run P w = .ok (.slice (some ⟨w.heap.size,0,none⟩) len len) (w.alloc (.cells Z e (0,0)))/\Z.size=len*size/\rs.length=len/\mR E.pure size rs (fun o=>Z[o]?):=by unfold yv ke pw at h;cases hT:tt T with|none=>rw [hT] at h;simp at h|some iT =>rw [hT] at h;simp only at h;cases he:iT.elem with|none=>rw [he] at h;simp at h|some e =>rw [he] at h;simp only at h;cases hE:tt e with|none=>rw [hE] at h;simp at h|some ie =>rw [hE] at h;simp only at h;split at h;(·rename_i hc;obtain⟨OV,hlen,arh⟩:=hc;split at h;(·rename_i nC ym;simp only [aD,dK] at h;obtain⟨rfl,rfl⟩:=h;obtain⟨d,hd,-,wC,-⟩:=ht.desc T iT hT;obtain rfl:=wC e he;obtain⟨info,u9,Q3,-,z,hz,AL⟩:=ht.size e ie hE;(have hzero:∀ w':World,(zeroValue e).run P w' = .ok z w':=fun w'=>by simp [zeroValue,fJ u9,hz]);obtain⟨zc,hzc⟩:∃ zc:Array Value,zc=if len*ie.size=0 then #[] else z.cells:=⟨_,rfl⟩;obtain⟨Z',h1,h2,h3,-,h5⟩:=Rn (size:=ie.size) parts.toList 0 ev a.eval ((Array.range (len*ie.size)).map (zc[· % zc.size]!)) nC gM OV ym (by simp [hlen]);refine⟨Z',e,?_,by simpa using h2,by omega,by simpa using h5⟩;(have vI:(parts.map fun (i,x)=>(i,a.eval x)).toList=parts.toList.map fun p=>(p.1,a.eval p.2):=by simp);unfold Instr.buildSlice;simp only [Sem.run_bind,bu hd,Result.andThen_ok,ht.sizeOf hE];rw [g5 (by omega)];by_cases h0:len*ie.size=0;(·simp only [h0,if_true,Sem.run_pure,Result.andThen_ok,vI];rw [gH h0] at hzc;subst hzc;rw [h0] at h1;simp only [Sem.run_bind,Sem.run_pure,Result.andThen_ok,vI];simp only [h1];simp [newRow]);simp only [h0,if_false,Sem.run_bind,hzero,Sem.run_pure,Result.andThen_ok,vI];rw [g5 h0] at hzc;subst hzc;simp only [h1];simp [newRow]);simp at h);simp at h
end Go.Eng
end
section
namespace Go.Eng
variable [bJ]
open Go.RowKit (Below)
section
variable {P:g7} {w:World}
theorem pG {t u ty e e':g9} {i:TypeInfo} (ht:P.underlying t=some (.slice e)) (hu:P.underlying u=some (.slice e')) (hi:P.info? e=some i) (c:Nat) (aa:Option Addr) (news:Array Value)
  (hf:(Builtin.firstCells i.size 0 (.slice aa 0 c)).run P w = .ok news w) :
  (Builtin.append_ #[t,u] ty #[.slice none 0 0,.slice aa 0 c]).run P w = .ok (.slice none 0 0) w:=by simp [Builtin.append_,bu ht,bu hu,gJ hi,Builtin.lenOf,hf]
theorem Bn {t u ty e e':g9} {i:TypeInfo} {z:Value} (ht:P.underlying t=some (.slice e)) (hu:P.underlying u=some (.slice e')) (hi:P.info? e=some i) (hz:i.zero=some z) (base:Option Addr) (lA iy n c:Nat)
  (aa:Option Addr) (Ro news:Array Value) (OW:(Builtin.firstCells i.size lA (.slice base lA iy)).run P w.drew = .ok Ro w.drew) (hf:(Builtin.firstCells i.size n (.slice aa n c)).run P w.drew = .ok news w.drew)
  (hg:iy<lA+n) (h63:((lA+n:Nat):Int)<=9223372036854775807) (KX:Builtin.nextslicecap (lA+n) iy*i.bytes<=281474976710656) :
  (Builtin.append_ #[t,u] ty #[.slice base lA iy,.slice aa n c]).run P w =
   .ok (.slice (some ⟨w.heap.size,0,none⟩) (lA+n) (grownCap w (lA+n) iy e))
    (w.drew.alloc (.cells (Ro++news++Builtin.zeroCells z.cells (grownCap w (lA+n) iy e-(lA+n))) e)):=by
 have hn:¬ (lA+n<=iy):=by omega
 have abb:¬ (9223372036854775807<((lA:Int)+(n:Int))):=by omega
 have abc:¬ (281474976710656<Builtin.nextslicecap (lA+n) iy*i.bytes):=by omega
 simp [Builtin.append_,bu ht,bu hu,fJ hi,gJ hi,zeroValue,hz,Builtin.lenOf,hn,abb,abc,Question.forced,hf,OW,newRow,grownCap]
end
structure FR (P:g7) (u:g9) (z:Value) (n:Nat):Prop where
 len:Builtin.lenOf z=pure n
 ty:P.underlying u=some .string\/∃ e,P.underlying u=some (.slice e)
section
variable {P:g7} {w:World}
theorem Ao {t u ty e:g9} {i:TypeInfo} (ht:P.underlying t=some (.slice e)) (hi:P.info? e=some i) (g lA iy n:Nat) {z:Value} (hu:FR P u z n) (news:Array Value)
  (hf:(Builtin.firstCells i.size n z).run P w = .ok news w) (wL:lA+n<=iy) {w':World} (oh:(storeCells ⟨g,lA*i.size,none⟩ news.toList).run P w = .ok () w') :
  (Builtin.append_ #[t,u] ty #[.slice (some ⟨g,0,none⟩) lA iy,z]).run P w = .ok (.slice (some ⟨g,0,none⟩) (lA+n) iy) w':=by obtain⟨hl,hu⟩:=hu;rcases hu with hu|⟨_,hu⟩ <;> simp [Builtin.append_,bu ht,bu hu,gJ hi,hl,wL,hf,add_lit,oh]
theorem oJ {t u ty e:g9} {i:TypeInfo} (ht:P.underlying t=some (.slice e)) (hi:P.info? e=some i) {z:Value} (hu:FR P u z 0) (news:Array Value)
  (hf:(Builtin.firstCells i.size 0 z).run P w = .ok news w) :
  (Builtin.append_ #[t,u] ty #[.slice none 0 0,z]).run P w = .ok (.slice none 0 0) w:=by obtain⟨hl,hu⟩:=hu;rcases hu with hu|⟨_,hu⟩ <;> simp [Builtin.append_,bu ht,bu hu,gJ hi,hl,hf]
theorem nV {t u ty e:g9} {i:TypeInfo} {zz:Value} (ht:P.underlying t=some (.slice e)) (hi:P.info? e=some i) (hz:i.zero=some zz) (base:Option Addr) (lA iy n:Nat)
  {z:Value} (hu:FR P u z n) (Ro news:Array Value) (OW:(Builtin.firstCells i.size lA (.slice base lA iy)).run P w.drew = .ok Ro w.drew) (hf:(Builtin.firstCells i.size n z).run P w.drew = .ok news w.drew)
  (hg:iy<lA+n) (h63:((lA+n:Nat):Int)<=9223372036854775807) (KX:Builtin.nextslicecap (lA+n) iy*i.bytes<=281474976710656) :
  (Builtin.append_ #[t,u] ty #[.slice base lA iy,z]).run P w =
   .ok (.slice (some ⟨w.heap.size,0,none⟩) (lA+n) (grownCap w (lA+n) iy e))
    (w.drew.alloc (.cells (Ro++news++Builtin.zeroCells zz.cells (grownCap w (lA+n) iy e-(lA+n))) e)):=by
 have hn:¬ (lA+n<=iy):=by omega
 have abb:¬ (9223372036854775807<((lA:Int)+(n:Int))):=by omega
 have abc:¬ (281474976710656<Builtin.nextslicecap (lA+n) iy*i.bytes):=by omega
 obtain⟨hl,hu⟩:=hu;rcases hu with hu|⟨_,hu⟩ <;> simp [Builtin.append_,bu ht,bu hu,fJ hi,gJ hi,zeroValue,hz,hl,hn,abb,abc,Question.forced,hf,OW,newRow,grownCap]
end
def kg (s:g6):List V:=s.data.toList.map fun b=>.sc (.int .u8 (b.toNat:Int))
def sN (tt:Table) (mem:List bx) (u:g9) (size:Nat) (x:V):Option (List V) :=
 match tt u with
 | some iu=>match iu.elem with
  | some _=>rowsOf mem size x
  | none=>match x with
   | .sc (.string s)=>if vF iu.zero=true/\iu.agg=false/\size=1 then some (kg s) else none
   | _=>none
 | none=>none
theorem zp {P:g7} {tt:Table} (ht:TT P tt) {E:Env} {w:World} {a:Act} {st:St} (hs:dt E w a st) {u:g9} {size:Nat} {x:V} {z:Value} {rows:List V} (hr:df E x z) (h:sN tt st.mem u size x=some rows) :
  FR P u z rows.length/\∃ ys:Array Value,(Builtin.firstCells size rows.length z).run P w = .ok ys w/\wJ E.pure size rows ys:=by
 unfold sN at h;split at h;·rename_i iu hU;split at h;(·rename_i e' he;obtain⟨aa,cap,rfl,-,ys,h1,h2⟩:=kU (P:=P) hs hr h;obtain⟨d,hd,-,wC,-⟩:=ht.desc u iu hU;exact⟨⟨rfl,.inr ⟨e',by rw [hd,wC e' he]⟩⟩,ys,h1,h2⟩);split at h;(·rename_i s;split at h;(·rename_i hc;obtain⟨hz,hag,rfl⟩:=hc;simp only [aD] at h;subst h;obtain rfl:=fL hr;(have ly:(kg s).length=s.size:=by unfold kg;rw [aC,gD];rfl);refine⟨⟨by rw [ly];rfl,.inl (ht.str u iu hU hz hag)⟩,s.data.map fun b=>.int .u8 b.toNat,?_,?_,?_⟩;(·rw [ly];simp only [Builtin.firstCells];rw [show s.extract 0 s.size=s from ByteArray.extract_zero_size];rfl);(·simp [kg]);intro i row hi;unfold kg at hi;rw [ae,dV] at hi;cases hb:s.data[i]? with|none=>rw [hb] at hi;simp at hi|some b =>rw [hb] at hi;simp only [bU,aD] at hi;subst hi;refine⟨rfl,fun j c hj=>?_⟩;cases j with|succ j=>simp [V.cells] at hj|zero =>simp only [V.cells,aI,aD] at hj;subst hj;refine⟨.int .u8 (b.toNat:Int),?_,rfl,.sc _ _⟩;dsimp only;rw [sE,fI,awb,hb];rfl);cases h);cases h
 cases h
def js (mem:List bx) (size:Nat):V->Option (Option (Nat×Nat)×List V)
 | .sc (.slice none 0 0)=>some (none,[])
 | .full rows=>if iM rows 0 size=true then some (none,rows) else none
 | .ms b v 0 l=>match mem[b]? with
  | some (.rows v' e rs)=>if v'=v/\e=size/\rs.length=l then some (some (b,v),rs) else none
  | _=>none
 | _=>none
def H2:V->List V->Bool
 | .full _,[]=>false
 | _,_=>true
theorem Bo (b v s l:Nat) (xs:List V):H2 (.ms b v s l) xs=true:=rfl
theorem Rp (v:Value) (xs:List V):H2 (.sc v) xs=true:=rfl
theorem KY (v x:V) (xs:List V):H2 v (x :: xs)=true:=by cases v <;> rfl
def fC (tt:Table) (mem:List bx) (ts:List g9) (s x:V):Option (Nat×Option (Nat×Nat)×List V) :=
 match ts with
 | [t,u]=>match tt t with
  | some it=>match it.elem with
   | some e=>match tt e with
     | some i =>
      if 0<i.size/\i.bytes<=4096/\i.zero.length=i.size then
       match js mem i.size s with
       | some (sO,rs)=>match sN tt mem u i.size x with
        | some xs=>if rs.length+xs.length<=34359738368 then (if H2 s xs=true then some (i.size,sO,rs++xs) else none) else none
        | none=>none
       | none=>none
      else none
     | none=>none
   | none=>none
  | none=>none
 | _=>none
def eU (mem:List bx) (key size:Nat) (rows:List V):Option (Nat×Nat)->List bx×V
 | none=>(dw mem key (.rows 0 size rows),.ms key 0 0 rows.length)
 | some (b,v)=>(mem.set b (.rows (v+1) size rows),.ms b (v+1) 0 rows.length)
theorem dt.renew {E:Env} {w w':World} {a:Act} {st:St} (hs:dt E w a st) {b v e0 g e c:Nat} {rs rows:List V} (hm:st.mem[b]?=some (.rows v e0 rs)) (hF:∀ ad x,E.F ad=some x->w'.cell? ad=some x) (ly:w.heap.size<=w'.heap.size)
  (hg:g<w'.heap.size) (abd:∀ k B',k≠b->st.mem[k]?=some B'->B'.held=true->∀ g' e' c',E.cE k B'.ej=some (g',e',c')->w'.heap[g']?=w.heap[g']?/\g'≠g)
  (hB:k6 (E.with b (v+1) (g,e,c)) w' b (.rows (v+1) e rows)) (AM:∀ k v' e' c',E.cE k v'=some (g,e',c')->k=b):dt (E.with b (v+1) (g,e,c)) w' a { st with mem:=st.mem.set b (.rows (v+1) e rows) }:=by
 have hn:∀ v',v<v'->E.cE b v'=none:=fun v' Bg=>hs.ej b _ hm v' Bg;have hle:E.le (E.with b (v+1) (g,e,c)):=Env.nn (hn _ (o6 v)) _;have fK:(E.with b (v+1) (g,e,c)).cE b (v+1)=some (g,e,c):=gH ⟨rfl,rfl⟩;have ix:∀ k v',¬ (k=b/\v'=v+1)->(E.with b (v+1) (g,e,c)).cE k v'=E.cE k v':=fun k v' dI=>g5 dI;have u5:∀ k v',k≠b->(E.with b (v+1) (g,e,c)).cE k v'=E.cE k v':=fun k v' dI=>ix k v' fun h=>dI h.1;have bH:b<st.mem.length:=(az.1 hm).1;have lz:∀ (k:Nat) (B:bx),(st.mem.set b (.rows (v+1) e rows))[k]?=some B->(k=b/\B = .rows (v+1) e rows)\/(k≠b/\st.mem[k]?=some B):=fun k B hk=>by rw [cf] at hk;by_cases kT:b=k;(·subst kT;simp only [if_true,bH] at hk;cases hk;exact .inl ⟨rfl,rfl⟩);rw [g5 kT] at hk;exact .inr ⟨fun e=>kT e.symm,hk⟩
 refine⟨hF,fun k v' g' e' c' hb=>?_,fun k B hk=>?_,fun k hk v'=>?_,fun k B hk v' Bg=>?_,fun k k' v1 v2 g' e1 c1 e2 c2 h5 h6=>?_,hs.fr.mono hle⟩;·by_cases hq:k=b/\v'=v+1;(·obtain⟨rfl,rfl⟩:=hq;rw [fK] at hb;cases hb;exact hg);rw [ix k v' hq] at hb;exact rV (hs.lt _ _ _ _ _ hb) ly
 ·(rcases lz k B hk with ⟨rfl,rfl⟩|⟨kT,mm⟩);(·exact hB);cases DL:B.held with|false =>(have:=hs.mem k B mm;cases B with|hole=>(exact fun v'=>by rw [u5 k v' kT];exact this v')|dead=>trivial|_=>simp [bx.held] at DL)|true=>exact (hs.mem k B mm).mono hle (fun v' h=>by rw [u5 k v' kT];exact h) (fun g' e' c' fw=>(abd k B kT mm DL g' e' c' fw).1) fun _ _ _ _ _ h=>h
 ·(have mm:st.mem.length<=k:=by simpa using hk);rw [u5 k v' (by omega)];exact hs.top k mm v'
 ·(rcases lz k B hk with ⟨rfl,rfl⟩|⟨kT,mm⟩);(·have:v+1<v':=Bg;rw [ix k v' (by omega)];exact hn v' (by omega));rw [u5 k v' kT];exact hs.ej k B mm v' Bg
 by_cases hq:k=b/\v1=v+1 <;> by_cases VY:k'=b/\v2=v+1;·rw [hq.1,VY.1]
 ·obtain⟨rfl,rfl⟩:=hq;rw [fK] at h5;cases h5;rw [ix k' _ VY] at h6;exact (AM _ _ _ _ h6).symm
 ·obtain⟨rfl,rfl⟩:=VY;rw [fK] at h6;cases h6;rw [ix k _ hq] at h5;exact AM _ _ _ _ h5
 rw [ix k _ hq] at h5;rw [ix k' _ VY] at h6;exact hs.apart _ _ _ _ _ _ _ _ _ h5 h6
theorem dt.H3 {E:Env} {w:World} {a:Act} {st:St} (hs:dt E w a st) {b v e0 e:Nat} {rs:List V} (hm:st.mem[b]?=some (.rows v e0 rs)):dt E w a { st with mem:=st.mem.set b (.rows (v+1) e []) }:=by
 have hn:∀ v',v<v'->E.cE b v'=none:=fun v' Bg=>hs.ej b _ hm v' Bg;have bH:b<st.mem.length:=(az.1 hm).1;have lz:∀ (k:Nat) (B:bx),(st.mem.set b (.rows (v+1) e []))[k]?=some B->(k=b/\B = .rows (v+1) e [])\/(k≠b/\st.mem[k]?=some B):=fun k B hk=>by rw [cf] at hk;by_cases kT:b=k;(·subst kT;simp only [if_true,bH] at hk;cases hk;exact .inl ⟨rfl,rfl⟩);rw [g5 kT] at hk;exact .inr ⟨fun e=>kT e.symm,hk⟩
 refine⟨hs.F,hs.lt,fun k B hk=>?_,fun k hk v'=>hs.top k (by simpa using hk) v',fun k B hk v' Bg=>?_,hs.apart,hs.fr⟩;·(rcases lz k B hk with ⟨rfl,rfl⟩|⟨kT,mm⟩);(·exact .inl ⟨rfl,hn _ (o6 v)⟩);exact hs.mem k B mm
 rcases lz k B hk with ⟨rfl,rfl⟩|⟨kT,mm⟩
 ·exact hn v' (Nat.lt_of_succ_lt Bg)
 exact hs.ej k B mm v' Bg
theorem np {E:Env} {e:Nat} {rs xs:List V} {A B C:Array Value} (h1:wJ E e rs A) (h2:wJ E e xs B):mR E e (rs++xs) (fun o=>(A++B++C)[o]?):=by
 intro i row hi;rw [po] at hi;split at hi;·rename_i bH;obtain⟨h3,h4⟩:=h1.2 i row hi;refine⟨h3,fun j c hj=>?_⟩;obtain⟨x,hx,hr⟩:=h4 j c hj;dsimp only at hx;have abe:i*e+j<A.size:=(dT.1 hx).1;refine⟨x,?_,hr⟩;dsimp only;rw [awy,awm abe,hx]
 rename_i fP;obtain⟨h3,h4⟩:=h2.2 (i-rs.length) row hi;refine⟨h3,fun j c hj=>?_⟩;obtain⟨x,hx,hr⟩:=h4 j c hj;dsimp only at hx;have abe:(i-rs.length)*e+j<B.size:=(dT.1 hx).1;refine⟨x,?_,hr⟩;dsimp only;have hmul:i*e=A.size+(i-rs.length)*e:=by rw [h1.1,<- jF];congr 1;omega
 rw [awy,awV (by omega),awm (by omega),<- hx];congr 1;omega
theorem FT {E:Env} {b v s l:Nat} {x:Value} (h:df E (.ms b v s l) x):(l=0/\x = .slice none 0 0) \/
  ∃ g e c a cap,x = .slice a l cap/\E.cE b v=some (g,e,c)/\(0<l->a=some ⟨g,s*e,none⟩)/\(s=0->a=some ⟨g,0,none⟩/\cap=c)/\(l<=cap/\s+cap=c/\(0<cap->a=some ⟨g,s*e,none⟩)):=by cases h with|jr=>exact .inl ⟨rfl,rfl⟩|ms _ _ _ _ _ g e c a cap hb hl h0 hc=>exact .inr ⟨g,e,c,a,cap,rfl,hb,hl,h0,hc⟩
theorem zq {E:Env} {e:Nat} {xs:List V} {A:Array Value} (Bp:0<e) (h:wJ E e xs A):∀ v∈A.toList,v.oneCell'=true:=by
 intro v hv;obtain⟨q,hq,rfl⟩:=List.mem_iff_getElem.1 hv;have VY:q<xs.length*e:=by rw [<- h.1];simpa using hq
 have hiq:q / e<xs.length:=by rwa [awK Bp]
 have pZ:=bf hiq;obtain⟨alf,qz⟩:=h.2 _ _ pZ;obtain⟨vv,hvv,KF,-⟩:=qz (q % e) _ (bf (by rw [alf];exact avF _ Bp));dsimp only at hvv;rw [Nat.mul_comm,awq] at hvv;have:A.toList[q]=vv:=by (have mi:q<A.size:=by simpa using hq);rw [cb mi] at hvv;simpa using hvv
 rw [this];exact KF
theorem qd {P:g7} {tt:Table} (ht:TT P tt) {E:Env} {w:World} {a:Act} {st:St} (hs:dt E w a st) {ts:Array g9} {ty:g9} {s x:V} {y z:Value} {size:Nat} {sO:Option (Nat×Nat)} {rows:List V} {key:Nat}
  (hk:jo st.mem key) (oK:df E s y) (Rk:df E x z) (h:fC tt st.mem ts.toList s x=some (size,sO,rows)) :
  ∃ v w' E',(Builtin.append_ ts ty #[y,z]).run P w = .ok v w'/\dt E' w' a { st with mem:=(eU st.mem key size rows sO).1 }/\iF E w E' w'/\df E' (eU st.mem key size rows sO).2 v:=by
 unfold fC at h;split at h
 ·rename_i t u yn;obtain rfl:ts = #[t,u]:=by rw [<- cJ (xs:=ts),yn]
  split at h
  ·rename_i it hT;split at h
   ·rename_i e he
    first
    |skip
     split at h
     ·rename_i i hE
      split at h
      ·rename_i hc
       obtain⟨Bp,Bq,AL⟩:=hc
       split at h
       ·rename_i arl rs oa
        split at h
        ·rename_i xs sA
         split at h
         ·rename_i hlen
          split at h
          case isFalse=>cases h
          rename_i alg
          simp only [aD,dK] at h
          obtain⟨rfl,rfl,rfl⟩:=h
          obtain⟨d,hd,-,wC,-⟩:=ht.desc t it hT
          obtain rfl:=wC e he
          obtain⟨info,u9,Q3,Wm,z0,nr,AJ⟩:=ht.size e i hE
          have Rr:z0.cells.size=info.size:=by rw [Q3,<- AL,<- AJ];simp
          rw [<- Q3] at sA oa Bp ⊢
          rw [<- Wm] at Bq
          have YR:dt E w.drew a st:=hs.drew
          obtain⟨HC,xA,nS,ob⟩:=zp ht hs Rk sA
          obtain⟨-,xB,hx3,hx4⟩:=zp ht YR Rk sA
          have KX:∀ iy,iy<rs.length+xs.length->Builtin.nextslicecap (rs.length+xs.length) iy*info.bytes<=281474976710656:=fun iy bH =>
           growslice_fits bH (gw (awn hlen Bq) (by decide))
          have M4:(rs++xs).length=rs.length+xs.length:=by simp
          have fP:∀ iy,rs.length+xs.length<=grownCap w (rs.length+xs.length) iy e:=fun iy=>grownCap_ge w (rs.length+xs.length) iy e
          have sP:∀ (iy:Nat) (A:Array Value),wJ E.pure info.size rs A->(A++xB++Builtin.zeroCells z0.cells (grownCap w (rs.length+xs.length) iy e-(rs.length+xs.length))).size=grownCap w (rs.length+xs.length) iy e*info.size:=fun iy A hrA=>by
           simp only [afF,size_zeroCells,Rr,hrA.1,hx4.1,<- jF]
           congr 1;have:=fP iy;omega
          unfold js at oa
          split at oa
          ·
           simp only [aD,dK] at oa
           obtain⟨rfl,rfl⟩:=oa
           obtain rfl:=fL oK
           by_cases h0:xs.length=0
           ·have afO:xs=[]:=b9.1 h0
            subst afO
            exact⟨_,w,E,oJ (ty:=ty) hd u9 HC xA nS,hs.Wj hk info.size,iF.refl E w,.jr _ _ _ _⟩
           have fG:=nV (ty:=ty) hd u9 nr none 0 0 xs.length HC #[] xB rfl hx3 (by omega) (by omega) (KX 0 (by simp;omega))
           obtain⟨E',h5,h6,h7⟩:=dt.wH YR (key:=key) hk (xs := #[]++xB++Builtin.zeroCells z0.cells (grownCap w (([]:List V).length+xs.length) 0 e-(([]:List V).length+xs.length))) (rs:=[]++xs) (e:=info.size)
            (c:=grownCap w (([]:List V).length+xs.length) 0 e) e (sP 0 #[] ⟨by simp,fun i row hi=>by simp at hi⟩) (by rw [M4];exact fP 0) (np ⟨by simp,fun i row hi=>by simp at hi⟩ hx4)
           refine⟨_,_,E',fG,h5,(iF.drew E w).trans h6,?_⟩
           simp only [eU]
           rw [M4] at h7 ⊢
           exact h7
          ·
           rename_i oI
           split at oa
           case isFalse=>cases oa
           rename_i yu
           simp only [aD,dK] at oa
           obtain⟨rfl,rfl⟩:=oa
           have MZ:0<xs.length:=by
            cases xs with
            | nil=>simp [H2] at alg
            | cons _ _=>simp
           cases oK with
           | full _ _ sa oK =>
           have hro:rowsOf st.mem info.size (.slice oI)=some oI:=by simp only [rowsOf];rw [gH yu]
           obtain⟨sa',sc,heq,hsc,A,HD,H4⟩:=kU (P:=P) YR oK hro
           simp only [Value.slice.injEq] at heq
           obtain⟨rfl,-,rfl⟩:=heq
           have fG:=nV (ty:=ty) hd u9 nr sa oI.length oI.length xs.length HC A xB HD hx3 (by omega) (by omega) (KX _ (by omega))
           obtain⟨E',h5,h6,h7⟩:=dt.wH YR (key:=key) hk (xs:=A++xB++Builtin.zeroCells z0.cells (grownCap w (oI.length+xs.length) oI.length e-(oI.length+xs.length))) (rs:=oI++xs) (e:=info.size)
            (c:=grownCap w (oI.length+xs.length) oI.length e) e (sP oI.length A H4) (by rw [M4];exact fP _) (np H4 hx4)
           refine⟨_,_,E',fG,h5,(iF.drew E w).trans h6,?_⟩
           simp only [eU]
           rw [M4] at h7 ⊢
           exact h7
          ·rename_i b v l
           split at oa
           ·rename_i v' eb nC hm
            split at oa
            ·rename_i Rs
             obtain⟨rfl,rfl,Q4⟩:=Rs
             simp only [aD,dK] at oa
             obtain⟨rfl,rfl⟩:=oa
             have hro:rowsOf st.mem info.size (.ms b v' 0 l)=some nC:=by
              simp [rowsOf,hm,Q4]
              rw [<- Q4];simp
             obtain⟨sa,sc,rfl,hsc,A,HD,H4⟩:=kU (P:=P) YR oK hro
             simp only [eU]
             by_cases wL:nC.length+xs.length<=sc
             ·
              rcases FT oK with ⟨zi,Rt⟩|⟨g,eb',c,sa',sc',Rt,hb,hl,VV,wD⟩
              ·simp only [Value.slice.injEq] at Rt
               obtain⟨rfl,alh,rfl⟩:=Rt
               have MZ:xs=[]:=b9.1 (by omega)
               have DN:nC=[]:=b9.1 (by omega)
               subst MZ;subst DN
               exact⟨_,w,E,oJ (ty:=ty) hd u9 HC xA nS,hs.H3 hm,iF.refl E w,.jr _ _ _ _⟩
              simp only [Value.slice.injEq] at Rt
              obtain⟨rfl,-,rfl⟩:=Rt
              obtain⟨rfl,hce⟩:=VV rfl
              have ali:=hce.symm
              subst ali
              rcases hs.mem b _ hm with ⟨-,hn⟩|⟨g',T',cur,c',gY,hh,nj,pE,ug,hf⟩
              ·rw [hb] at hn;cases hn
              rw [hb] at gY;cases gY
              have Br:nC.length*info.size+xA.toList.length<=cur.size:=by
               have:=ob.1
               simp only [gD]
               rw [this,nj,<- jF];exact lV _ wL
              obtain⟨w',oh,KE,DO⟩:=lN (P:=P) (g:=g) (T:=T') (nC.length*info.size) xA.toList 0 w cur hh (by simpa using Br) (zq Bp ob)
              have fG:=Ao (ty:=ty) hd u9 g nC.length c xs.length HC xA nS wL oh
              have hle:E.le (E.with b (v'+1) (g,info.size,c)):=Env.nn (hs.ej b _ hm _ (o6 v')) _
              have fK:(E.with b (v'+1) (g,info.size,c)).cE b (v'+1)=some (g,info.size,c):=gH ⟨rfl,rfl⟩
              refine⟨_,w',E.with b (v'+1) (g,info.size,c),fG,hs.renew hm (fun ad y hy=>?_) (by rw [DO.size];exact aA _) (by rw [DO.size];exact hs.lt _ _ _ _ _ hb) (fun k B' kT mm KG g' e' c' fw=>?_) ?_ (fun k v2 e2 c2 h=>hs.apart _ _ _ _ _ _ _ _ _ h hb),
               ⟨hle,fun k q g' e' c' kT=>?_,fun ad y hy=>.inl hy,DO.os,DO.tape,DO.output,by rw [DO.size];exact aA _,fun b' gY dI=>DO.heap b' fun e=>by subst e;exact dI _ _ _ _ hb⟩,?_⟩
              ·have dI:=hs.FL hf hy
               rw [<- hs.F ad y hy];simp [World.cell?,DO.heap _ dI]
              ·have hgg:g'≠g:=fun e=>by
                subst e
                exact kT (hs.apart _ _ _ _ _ _ _ _ _ fw hb)
               exact⟨DO.heap _ hgg,hgg⟩
              ·refine .inr ⟨g,T',_,c,fK,KE,by rw [mq];exact nj,by rw [M4];exact wL,?_,hf⟩
               intro q row hq
               simp only [fI]
               have H5:xA.toList.length=xs.length*info.size:=by simpa using ob.1
               rw [po] at hq
               split at hq
               ·rename_i bH
                obtain⟨h3,h4⟩:=ug q row hq
                refine⟨h3,fun j cc hj=>?_⟩
                obtain⟨v,hv,KF,KZ⟩:=h4 j cc hj
                have DG:j<info.size:=by rw [<- h3];exact (az.1 hj).1
                refine⟨v,?_,KF,KZ⟩
                rw [kA _ _ _ _ Br,g5 (by have:=Bm bH DG;omega)]
                exact hv
               rename_i alj
               obtain⟨h3,h4⟩:=ob.2 _ row hq
               refine⟨h3,fun j cc hj=>?_⟩
               obtain⟨v,hv,KF,KZ⟩:=h4 j cc hj
               have DG:j<info.size:=by rw [<- h3];exact (az.1 hj).1
               have Ej:q-nC.length<xs.length:=(az.1 hq).1
               have hmul:q*info.size=nC.length*info.size+(q-nC.length)*info.size:=by rw [<- jF];congr 1;omega
               refine⟨v,?_,KF,KZ⟩
               rw [kA _ _ _ _ Br,gH (by have:=Bm Ej DG;omega)]
               dsimp only at hv
               rw [<- hv,dV]
               congr 1;omega
              ·by_cases hq:k=b/\q=v'+1
               ·obtain⟨rfl,rfl⟩:=hq;rw [fK] at kT;cases kT;exact .inl ⟨_,_,_,_,hb⟩
               have:(E.with b (v'+1) (g,info.size,c)).cE k q=E.cE k q:=g5 hq
               rw [this] at kT;exact .inl ⟨_,_,_,_,kT⟩
              rw [M4]
              exact .ms _ _ _ _ _ g info.size c _ _ fK (fun _=>by simp) (fun _=>⟨rfl,rfl⟩) ⟨wL,dc _,fun _=>by simp⟩
             have bH:sc<nC.length+xs.length:=by omega
             have fG:=nV (ty:=ty) hd u9 nr sa nC.length sc xs.length HC A xB HD hx3 bH (by omega) (KX sc bH)
             have hle:E.le (E.with b (v'+1) (w.heap.size,info.size,grownCap w (nC.length+xs.length) sc e)):=Env.nn (hs.ej b _ hm _ (o6 v')) _
             have fK:(E.with b (v'+1) (w.heap.size,info.size,grownCap w (nC.length+xs.length) sc e)).cE b (v'+1)=some (w.heap.size,info.size,grownCap w (nC.length+xs.length) sc e):=gH ⟨rfl,rfl⟩
             refine⟨_,_,E.with b (v'+1) (w.heap.size,info.size,grownCap w (nC.length+xs.length) sc e),fG,hs.renew hm (fun ad y hy=>?_) (by simp) (by simp) (fun k B' kT mm KG g' e' c' fw=>?_) ?_ (fun k v2 e2 c2 h=>absurd (hs.lt _ _ _ _ _ h) (aq6 _)),
              ⟨hle,fun k q g' e' c' kT=>?_,fun ad y hy=>.inl hy,rfl,rfl,rfl,by simp,fun b' gY dI=>eB w.drew _ b' gY⟩,?_⟩
             ·rw [World.cell?_alloc_lt w.drew _ ad (World.block_lt_of_cell? w ad (hs.F ad y hy))];exact hs.F ad y hy
             ·have:=hs.lt _ _ _ _ _ fw
              exact⟨eB w.drew _ g' this,by omega⟩
             ·refine .inr ⟨w.heap.size,e,_,_,fK,heap_alloc_new w.drew _,sP sc A H4,by rw [M4];exact fP sc,?_,fun o=>?_⟩
              ·intro q row hq
               obtain⟨h3,h4⟩:=np (C:=Builtin.zeroCells z0.cells (grownCap w (nC.length+xs.length) sc e-(nC.length+xs.length))) H4 hx4 q row hq
               exact⟨h3,fun j cc hj=>let ⟨v,hv,KF,KZ⟩:=h4 j cc hj;⟨v,hv,KF,KZ.mono (Env.lG hle)⟩⟩
              show E.F _=none
              cases hx:E.F ⟨w.heap.size,o,none⟩ with
              | none=>rfl
              | some x=>have:=World.block_lt_of_cell? w _ (hs.F _ _ hx);simp at this
             ·by_cases hq:k=b/\q=v'+1
              ·obtain⟨rfl,rfl⟩:=hq;rw [fK] at kT;cases kT;exact .inr (aA _)
              have:(E.with b (v'+1) (w.heap.size,info.size,grownCap w (nC.length+xs.length) sc e)).cE k q=E.cE k q:=g5 hq
              rw [this] at kT;exact .inl ⟨_,_,_,_,kT⟩
             rw [M4]
             exact .ms _ _ _ _ _ w.heap.size info.size _ _ _ fK (fun _=>by simp) (fun _=>⟨rfl,rfl⟩) ⟨fP sc,dc _,fun _=>by simp⟩
            simp at oa
           simp at oa
          simp at oa
         simp at h
        simp at h
       simp at h
      simp at h
     simp at h
   simp at h
  simp at h
 simp at h
end Go.Eng
end
section
namespace Go.Eng
variable [bJ]
theorem gX.set {E:Env} {dU:List (Value×Nat×V)} {es:List MapEntry} (h:gX E dU es) (i:Nat) {kb:Value×Nat×V} {e:MapEntry} (h1:e.key=kb.1) (h2:e.born=kb.2.1) (h3:df E kb.2.2 e.val):gX E (dU.set i kb) (es.set i e):=by
  refine⟨by simp [h.1],fun j k e' hk he=>?_⟩;by_cases KH:i=j;·subst KH;rw [cf] at hk he;simp only [if_true] at hk he;split at hk;(·split at he;(·cases hk;cases he;exact⟨h1,h2,h3⟩);·cases he);·cases hk
  ·rw [cT KH] at hk he;exact h.2 j k e' hk he
theorem gX.push {E:Env} {dU:List (Value×Nat×V)} {es:List MapEntry} (h:gX E dU es) {kb:Value×Nat×V} {e:MapEntry} (h1:e.key=kb.1) (h2:e.born=kb.2.1) (h3:df E kb.2.2 e.val):gX E (dU++[kb]) (es++[e]):=by
  refine⟨by simp [h.1],fun j k e' hk he=>?_⟩;by_cases hj:j<dU.length;·rw [bz hj] at hk;rw [bz (by have:=h.1;omega)] at he;exact h.2 j k e' hk he
  ·rw [bm (by omega)] at hk;rw [bm (by have:=h.1;omega)] at he;rw [h.1] at hk;cases hd:j-es.length with|zero=>rw [hd] at hk he;simp at hk he;subst hk;subst he;exact⟨h1,h2,h3⟩|succ n=>rw [hd] at hk;simp at hk
theorem gX.erase {E:Env}:∀ {dU:List (Value×Nat×V)} {es:List MapEntry},gX E dU es->∀ (i:Nat),gX E (dU.eraseIdx i) (es.eraseIdx i)
  | [],es,h,i=>by rw [h.of_nil];exact⟨rfl,fun j k e hk=>by simp at hk⟩
  | k :: r,es,h,i=>by
    obtain⟨e,es',rfl,h1,h2,h3,h4⟩:=h.of_cons
    cases i with
    | zero=>exact h4
    | succ i =>
      have h5:=gX.erase h4 i
      simp only [List.eraseIdx_cons_succ]
      refine⟨by simp [h5.1],fun j k' e' hk he=>?_⟩
      cases j with
      | zero=>simp at hk he;subst hk;subst he;exact⟨h1,h2,h3⟩
      | succ j=>exact h5.2 j k' e' (by simpa using hk) (by simpa using he)
def insertAt (P:g7) (kt:g9) (key:Value) (v:V) (dU:List (Value×Nat×V)) (clock:Nat):Option (List (Value×Nat×V)×Nat) :=
  match qv P kt key dU with
  | some (some (i,_))=>match dU[i]? with
    | some e=>if Instr.sameBits 10000 e.1 key=true then some (dU.set i (key,e.2.1,v),clock) else none
    | none=>none
  | some none=>some (dU++[(key,clock,v)],clock+1)
  | none=>none
def ee (P:g7) (mem:List bx) (T:g9) (m k v:V):Option (List bx) :=
  match jN P T with
  | some (kt,_)=>match fq k with
    | some key=>if u2 P kt key=true then
        match m with
        | .mp b=>match mem[b]? with
          | some (.map dU clock)=>match insertAt P kt key v dU clock with
            | some (kvs',clock')=>some (mem.set b (.map kvs' clock'))
            | none=>none
          | _=>none
        | _=>none
      else none
    | none=>none
  | none=>none
def M5 (P:g7) (kt et:g9) (key:Value) (dU:List (Value×Nat×V)) (clock:Nat):Option (List (Value×Nat×V)×Nat×V) :=
  match qv P kt key dU with
  | some (some (i,v))=>match dU[i]? with
    | some e=>if Instr.sameBits 10000 e.1 key=true then some (dU.set i (key,e.2.1,e.2.2),clock,.fZ [v,.sc (.int .i64 e.2.1)]) else none
    | none=>none
  | some none=>match zeroV P et with
    | some z=>some (dU++[(key,clock,z)],clock+1,.fZ [z,.sc (.int .i64 clock)])
    | none=>none
  | none=>none
def yw (P:g7) (mem:List bx) (T:g9) (m k:V):Option (List bx×V) :=
  match jN P T with
  | some (kt,et)=>match fq k with
    | some key=>if u2 P kt key=true then
        match m with
        | .mp b=>match mem[b]? with
          | some (.map dU clock)=>match M5 P kt et key dU clock with
            | some (kvs',clock',v)=>some (mem.set b (.map kvs' clock'),v)
            | none=>none
          | _=>none
        | _=>none
      else none
    | none=>none
  | none=>none
def yx (mem:List bx) (m s v:V):Option (List bx) :=
  match m,s with
  | .mp b,.sc (.int _ n)=>match mem[b]? with
    | some (.map dU clock)=>match dU.findIdx? (fun e=>(e.2.1:Int)==n) with
      | some i=>match dU[i]? with
        | some e=>some (mem.set b (.map (dU.set i (e.1,e.2.1,v)) clock))
        | none=>none
      | none=>none
    | _=>none
  | _,_=>none
def ui (P:g7) (mem:List bx) (ts:Array g9):List V->Option (List bx)
  | [.mp b,k]=>match ts[0]? with
    | some T=>match jN P T with
      | some (kt,_)=>match fq k with
        | some key=>if u2 P kt key=true then
            match mem[b]? with
            | some (.map dU clock)=>match qv P kt key dU with
              | some (some (i,_))=>some (mem.set b (.map (dU.eraseIdx i) clock))
              | some none=>some (mem.set b (.map dU clock))
              | none=>none
            | _=>none
          else none
        | none=>none
      | none=>none
    | none=>none
  | _=>none
theorem sQ {w:World} {g:Nat} {o:Obj}:pF w { w with heap:=w.heap.setIfInBounds g o } g :=
  ⟨rfl,rfl,rfl,by simp,fun b hb=>Ft (fun e=>hb e.symm)⟩
theorem heap_set {w:World} {g:Nat} {o o':Obj} (h:w.heap[g]?=some o):({ w with heap:=w.heap.setIfInBounds g o' }:World).heap[g]?=some o':=by
  have:g<w.heap.size:=by (rcases bn g w.heap.size with h1|h1);(·exact h1);·rw [avG h1] at h;cases h
  simp [this]
theorem dt.rk {E:Env} {w:World} {a:Act} {st:St} (hs:dt E w a st) {b g e c:Nat} {dU kvs':List (Value×Nat×V)} {clock clock':Nat} {es es':Array MapEntry} (hm:st.mem[b]?=some (.map dU clock)) (hb:E.cE b 0=some (g,e,c)) (hh:w.heap[g]?=some (.map es clock))
    (hf:∀ o,E.F ⟨g,o,none⟩=none) (hr:gX E kvs' es'.toList) :
    dt E { w with heap:=w.heap.setIfInBounds g (.map es' clock') } a { st with mem:=st.mem.set b (.map kvs' clock') }/\iF E w E { w with heap:=w.heap.setIfInBounds g (.map es' clock') }:=by obtain⟨-,-,-,-,h0⟩:=nk hs hm hb;cases h0;exact hs.Bl hm rfl (B':=.map kvs' clock') rfl hb hf sQ ⟨g,es',hb,heap_set hh,hr,hf⟩
theorem vJ {es:Array MapEntry} {i:Nat} {e:MapEntry} (h:es[i]?=some e) (f:MapEntry->MapEntry):(es.modify i f).toList=es.toList.set i (f e):=by
  apply eh;intro j;rw [dV,avE,cf];by_cases KH:i=j;·subst KH;have:i<es.size:=(dT.1 h).1;have he:es[i]=e:=(dT.1 h).2;simp [this,he]
  ·simp [KH]
theorem Ek {P:g7} {w:World} {sO new:Value} (h:Instr.sameBits 10000 sO new=true):(Instr.keyThatStays sO new).run P w = .ok new w:=by simp [Instr.keyThatStays,h]
theorem ve {P:g7} {E:Env} {w:World} {a:Act} {st:St} (hs:dt E w a st) {T:g9} {m k v:V} {x y z:Value} {b7:List bx} (hm:df E m x) (hk:df E k y) (hv:df E v z) (h:ee P st.mem T m k v=some b7) :
    ∃ w',(Instr.mapUpdate T x y z).run P w = .ok () w'/\dt E w' a { st with mem:=b7 }/\iF E w E w':=by
  unfold ee at h;split at h;·rename_i kt et hd;have hd:=lL hd;split at h;(·rename_i key fK;cases kQ hk fK;split at h;(·rename_i iq;have Q1:=fun b=>pD iq b w;split at h;(·rename_i b;obtain⟨g,e,c,rfl,hb⟩:=vH hm;split at h;(·rename_i dU clock hB;obtain⟨es,hh,hr,hf,-⟩:=nk hs hB hb;split at h;(·rename_i kvs' clock' hi;cases h;unfold insertAt at hi;split at hi;(·rename_i i u Ru;obtain⟨r',h1,h2⟩:=iN hr w Ru;match r',h2 with|some (j',z'),h2 =>obtain⟨rfl,h3,kb,en,h4,h5,h6,h7⟩:=h2;(have h5':es[i]?=some en:=by simpa using h5);split at hi;(·rename_i kb' kT;rw [kT] at h4;cases h4;split at hi;(·rename_i Rv;cases hi;obtain⟨p1,p2,p3⟩:=hr.2 i _ _ kT h5;(have fG:(Instr.mapUpdate T (.map (some g)) y z).run P w = .ok () { w with heap:=w.heap.setIfInBounds g (.map (es.modify i fun e => { e with key:=y,val:=z }) clock) }:=by have:=jO (P:=P) (o':=.map (es.modify i fun e => { e with key:=y,val:=z }) clock) hh (by simp);simp [Instr.mapUpdate,bu hd,gj hh,Q1,h1,h5',p1,Ek Rv,this]);obtain⟨q1,q2⟩:=hs.rk hB hb hh hf (clock':=clock) (kvs':=dU.set i (y,kb.2.1,v)) (es':=es.modify i fun e => { e with key:=y,val:=z }) (by rw [vJ h5'];exact hr.set i rfl p2 hv);exact⟨_,fG,q1,q2⟩);·cases hi);·cases hi);(·rename_i Ru;obtain⟨r',h1,h2⟩:=iN hr w Ru;match r',h2 with|none,h2 =>cases hi;(have fG:(Instr.mapUpdate T (.map (some g)) y z).run P w = .ok () { w with heap:=w.heap.setIfInBounds g (.map (es.push { key:=y,val:=z,born:=clock }) (clock+1)) }:=by have:=jO (P:=P) (o':=.map (es.push { key:=y,val:=z,born:=clock }) (clock+1)) hh (by simp);simp [Instr.mapUpdate,bu hd,gj hh,Q1,h1,this]);obtain⟨q1,q2⟩:=hs.rk hB hb hh hf (clock':=clock+1) (kvs':=dU++[(y,clock,v)]) (es':=es.push { key:=y,val:=z,born:=clock }) (by rw [awu];exact hr.push rfl rfl hv);exact⟨_,fG,q1,q2⟩);·cases hi);·cases h);·cases h);·cases h);·cases h);·cases h
  ·cases h
theorem H6 {E:Env} {v:V} {x:Value} (h:df E v x) (n:Nat):df E (.fZ [v,.sc (.int .i64 n)]) (.tuple #[x,goInt n]):=by refine .fZ _ _ _ rfl fun i c y hc hy=>?_;match i with|0=>simp at hc hy;subst hc;subst hy;exact h|1=>simp at hc hy;subst hc;subst hy;exact .sc _ _|i+2=>simp at hc
theorem FV {P:g7} {E:Env} {w:World} {a:Act} {st:St} (hs:dt E w a st) {T:g9} {m k v:V} {x y:Value} {b7:List bx} (hm:df E m x) (hk:df E k y) (h:yw P st.mem T m k=some (b7,v)) :
    ∃ z w',(Instr.mapEntry T x y).run P w = .ok z w'/\dt E w' a { st with mem:=b7 }/\iF E w E w'/\df E v z:=by
  unfold yw at h;split at h;·rename_i kt et hd;have hd:=lL hd;split at h;(·rename_i key fK;cases kQ hk fK;split at h;(·rename_i iq;have Q1:=fun b=>pD iq b w;split at h;(·rename_i b;obtain⟨g,e,c,rfl,hb⟩:=vH hm;split at h;(·rename_i dU clock hB;obtain⟨es,hh,hr,hf,-⟩:=nk hs hB hb;split at h;(·rename_i kvs' clock' v' hi;cases h;unfold M5 at hi;split at hi;(·rename_i i u Ru;obtain⟨r',h1,h2⟩:=iN hr w Ru;match r',h2 with|some (j',z'),h2 =>obtain⟨rfl,h3,kb,en,h4,h5,h6,h7⟩:=h2;(have h5':es[i]?=some en:=by simpa using h5);split at hi;(·rename_i kb' kT;rw [kT] at h4;cases h4;split at hi;(·rename_i Rv;cases hi;obtain⟨p1,p2,p3⟩:=hr.2 i _ _ kT h5;(have fG:(Instr.mapEntry T (.map (some g)) y).run P w = .ok (.tuple #[z',goInt en.born]) { w with heap:=w.heap.setIfInBounds g (.map (es.modify i fun e => { e with key:=y }) clock) }:=by have:=jO (P:=P) (o':=.map (es.modify i fun e => { e with key:=y }) clock) hh (by simp);simp [Instr.mapEntry,bu hd,gj hh,Q1,h1,h5',p1,Ek Rv,this]);obtain⟨q1,q2⟩:=hs.rk hB hb hh hf (clock':=clock) (kvs':=dU.set i (y,kb.2.1,kb.2.2)) (es':=es.modify i fun e => { e with key:=y }) (by rw [vJ h5'];exact hr.set i rfl p2 p3);exact⟨_,_,fG,q1,q2,by rw [p2];exact H6 h3 _⟩);·cases hi);·cases hi);(·rename_i Ru;obtain⟨r',h1,h2⟩:=iN hr w Ru;match r',h2 with|none,h2 =>split at hi;(·rename_i z0 nr;cases hi;obtain⟨zz,h3,h4⟩:=sJ nr E w;(have fG:(Instr.mapEntry T (.map (some g)) y).run P w = .ok (.tuple #[zz,goInt clock]) { w with heap:=w.heap.setIfInBounds g (.map (es.push { key:=y,val:=zz,born:=clock }) (clock+1)) }:=by have:=jO (P:=P) (o':=.map (es.push { key:=y,val:=zz,born:=clock }) (clock+1)) hh (by simp);simp [Instr.mapEntry,bu hd,gj hh,Q1,h1,h3,this]);obtain⟨q1,q2⟩:=hs.rk hB hb hh hf (clock':=clock+1) (kvs':=dU++[(y,clock,z0)]) (es':=es.push { key:=y,val:=zz,born:=clock }) (by rw [awu];exact hr.push rfl rfl h4);exact⟨_,_,fG,q1,q2,H6 h4 _⟩);·cases hi);·cases hi);·cases h);·cases h);·cases h);·cases h);·cases h
  ·cases h
theorem zr {E:Env} (n:Int):∀ {dU:List (Value×Nat×V)} {es:List MapEntry},gX E dU es->dU.findIdx? (fun e=>(e.2.1:Int)==n)=es.findIdx? (fun e=>(e.born:Int)==n)
  | [],es,h=>by rw [h.of_nil];rfl
  | k :: r,es,h=>by
    obtain⟨e,es',rfl,h1,h2,h3,h4⟩:=h.of_cons
    rw [awz,awz,h2,zr n h4]
theorem FW {P:g7} {E:Env} {w:World} {a:Act} {st:St} (hs:dt E w a st) {T:g9} {m s v:V} {x y z:Value} {b7:List bx} (hm:df E m x) (hk:df E s y) (hv:df E v z) (h:yx st.mem m s v=some b7) :
    ∃ w',(Instr.entryStore T x y z).run P w = .ok () w'/\dt E w' a { st with mem:=b7 }/\iF E w E w':=by
  unfold yx at h;split at h;·rename_i b k n;obtain⟨g,e,c,rfl,hb⟩:=vH hm;obtain rfl:=ue hk;split at h;(·rename_i dU clock hB;obtain⟨es,hh,hr,hf,-⟩:=nk hs hB hb;split at h;(·rename_i i hi;split at h;(·rename_i kb kT;cases h;obtain⟨en,h5,p1,p2,p3⟩:=hr.get kT;(have h5':es[i]?=some en:=by simpa using h5);(have abi:es.findIdx? (fun e=>(e.born:Int)==n)=some i:=by rw [zr n hr,<- List.findIdx?_toArray,cJ] at hi;exact hi);(have fG:(Instr.entryStore T (.map (some g)) (.int k n) z).run P w = .ok () { w with heap:=w.heap.setIfInBounds g (.map (es.modify i fun e => { e with val:=z }) clock) }:=by have:=jO (P:=P) (o':=.map (es.modify i fun e => { e with val:=z }) clock) hh (by simp);simp [Instr.entryStore,gj hh,asInt,asIntOf,abi,this]);obtain⟨q1,q2⟩:=hs.rk hB hb hh hf (clock':=clock) (kvs':=dU.set i (kb.1,kb.2.1,v)) (es':=es.modify i fun e => { e with val:=z }) (by rw [vJ h5'];exact hr.set i p1 p2 hv);exact⟨_,fG,q1,q2⟩);·cases h);·cases h);·cases h
  ·cases h
theorem DP {P:g7} {E:Env} {w:World} {a:Act} {st:St} (hs:dt E w a st) {ts:Array g9} {ty:g9} {xs:List V} {ys:Array Value} {b7:List bx} (hx:dh E xs ys.toList) (h:ui P st.mem ts xs=some b7) :
    ∃ w',(Builtin.delete_ ts ty ys).run P w = .ok (.tuple #[]) w'/\dt E w' a { st with mem:=b7 }/\iF E w E w':=by
  unfold ui at h;split at h;·rename_i b k;obtain⟨x,r,hy,DJ,hx⟩:=hx.of_cons;obtain⟨y,r2,hz,H7,hx⟩:=hx.of_cons;have:=hx.of_nil;subst this;subst hz;(obtain rfl:ys = #[x,y]:=by rw [<- cJ (xs:=ys),hy]);obtain⟨g,e,c,rfl,hb⟩:=vH DJ;split at h;(·rename_i T h0;split at h;(·rename_i kt et hd;have hd:=lL hd;split at h;(·rename_i key fK;cases kQ H7 fK;split at h;(·rename_i iq;have Q1:=fun b=>pD iq b w;split at h;(·rename_i dU clock hB;obtain⟨es,hh,hr,hf,-⟩:=nk hs hB hb;split at h;(·rename_i i u Ru;cases h;obtain⟨r',h1,h2⟩:=iN hr w Ru;match r',h2 with|some (j',z'),h2 =>obtain⟨rfl,h3,kb,en,h4,h5,h6,h7⟩:=h2;(have fG:(Builtin.delete_ ts ty #[.map (some g),y]).run P w = .ok (.tuple #[]) { w with heap:=w.heap.setIfInBounds g (.map (es.eraseIdxIfInBounds i) clock) }:=by have:=jO (P:=P) (o':=.map (es.eraseIdxIfInBounds i) clock) hh (by simp);simp [Builtin.delete_,h0,bu hd,gj hh,Q1,h1,this]);obtain⟨q1,q2⟩:=hs.rk hB hb hh hf (clock':=clock) (kvs':=dU.eraseIdx i) (es':=es.eraseIdxIfInBounds i) (by rw [Array.toList_eraseIdxIfInBounds];exact hr.erase i);exact⟨_,fG,q1,q2⟩);(·rename_i Ru;cases h;obtain⟨r',h1,h2⟩:=iN hr w Ru;match r',h2 with|none,h2 =>(have fG:(Builtin.delete_ ts ty #[.map (some g),y]).run P w = .ok (.tuple #[]) { w with heap:=w.heap.setIfInBounds g (.map es clock) }:=by have:=jO (P:=P) (o':=.map es clock) hh (by simp);simp [Builtin.delete_,h0,bu hd,gj hh,Q1,h1,this]);obtain⟨q1,q2⟩:=hs.rk hB hb hh hf (clock':=clock) (kvs':=dU) (es':=es) hr;exact⟨_,fG,q1,q2⟩);·cases h);·cases h);·cases h);·cases h);·cases h);·cases h
  ·cases h
def leftOf (dU:List (Value×Nat×V)) (seen:List Nat):List (Value×Nat×V):=dU.filter fun e=>!seen.contains e.2.1
def Bs (dU:List (Value×Nat×V)) (seen:List Nat) (since:Nat):List (Value×Nat×V):=(leftOf dU seen).filter fun e=>e.2.1<since
def Rw (dU:List (Value×Nat×V)) (seen:List Nat) (since:Nat):List (Value×Nat×V):=(leftOf dU seen).filter fun e=>e.2.1≥since
def FX (dU:List (Value×Nat×V)) (seen:List Nat) (last:Nat):Bool:=!seen.isEmpty && !dU.isEmpty&&dU.all fun e=>e.2.1≥last
def Bt:V:=.fZ [.sc (.bool false)]
def Rx (e:Value×Nat×V):V:=.fZ [.sc (.bool true),j6 e.1,e.2.2]
def YS (s:g6) (pos:Nat):V:=.fZ [.sc (.bool true),.sc (.int .i64 pos),.sc (.int .i32 (Utf8.decode s pos).1)]
def wM (st:St) (dst:Option Tmp) (it:V) (str:Bool) (Q:St->Prop):Prop :=
  match it with
  | .ptr b 0=>match st.mem[b]? with
    | some (.jX m since seen last)=>match st.mem[m]? with
      | some (.map dU clock)=>str=false/\FX dU seen last=false/\(Bs dU seen since=[]->Q (st.put dst Bt)) /\
          ∀ e∈Bs dU seen since++Rw dU seen since,Q ({ st with mem:=st.mem.set b (.jX m since (seen++[e.2.1]) clock) }.put dst (Rx e))
      | _=>False
    | some (.n9 s pos)=>str=true/\if pos<s.size then Q ({ st with mem:=st.mem.set b (.n9 s (pos+(Utf8.decode s pos).2)) }.put dst (YS s pos)) else Q (st.put dst Bt)
    | some .oG=>str=false/\Q (st.put dst Bt)
    | _=>False
  | _=>False
theorem gX.filter {E:Env} (p:Nat->Bool):∀ {dU:List (Value×Nat×V)} {es:List MapEntry},gX E dU es->gX E (dU.filter fun e=>p e.2.1) (es.filter fun e=>p e.born)
  | [],es,h=>by rw [h.of_nil];exact⟨rfl,fun j k e hk=>by simp at hk⟩
  | k :: r,es,h=>by
    obtain⟨e,es',rfl,h1,h2,h3,h4⟩:=h.of_cons
    have h5:=gX.filter p h4
    simp only [List.filter_cons,h2]
    split
    · refine⟨by simp [h5.1],fun j k' e' hk he=>?_⟩
      cases j with
      | zero=>simp at hk he;subst hk;subst he;exact⟨h1,h2,h3⟩
      | succ j=>exact h5.2 j k' e' (by simpa using hk) (by simpa using he)
    · exact h5
theorem gX.all {E:Env} (p:Nat->Bool):∀ {dU:List (Value×Nat×V)} {es:List MapEntry},gX E dU es->(dU.all fun e=>p e.2.1)=es.all fun e=>p e.born
  | [],es,h=>by rw [h.of_nil];rfl
  | k :: r,es,h=>by
    obtain⟨e,es',rfl,h1,h2,h3,h4⟩:=h.of_cons
    simp only [cI,h2,gX.all p h4]
theorem gX.append {E:Env} {a b:List (Value×Nat×V)} {x y:List MapEntry} (h:gX E a x) (k:gX E b y):gX E (a++b) (x++y):=by
  refine⟨by simp [h.1,k.1],fun j kk e hk he=>?_⟩;by_cases hj:j<a.length;·rw [bz hj] at hk;rw [bz (by have:=h.1;omega)] at he;exact h.2 j kk e hk he
  ·rw [bm (by omega)] at hk;rw [bm (by have:=h.1;omega)] at he;rw [h.1] at hk;exact k.2 _ kk e hk he
theorem OX {E:Env} {k:Value×Nat×V} {e:MapEntry} (h1:e.key=k.1) (h3:df E k.2.2 e.val):df E (Rx k) (.tuple #[.bool true,e.key,e.val]):=by refine .fZ _ _ _ rfl fun i c y hc hy=>?_;match i with|0=>simp at hc hy;subst hc;subst hy;exact .sc _ _|1=>simp at hc hy;subst hc;subst hy;rw [h1];exact lx E _|2=>simp at hc hy;subst hc;subst hy;exact h3|i+3=>simp at hc
theorem Bu {P:g7} {w:World} {n:Nat} (hn:0<n):∃ i w',(choose (.mapNext n)).run P w = .ok i w'/\i<n/\(w'=w\/w'=w.drew):=by
  unfold choose;rw [Sem.run];split;·exact⟨0,w,rfl,hn,.inl rfl⟩
  ·exact⟨_,_,rfl,avF _ hn,.inr rfl⟩
theorem dt.abj {E:Env} {w w':World} {a:Act} {st:St} (hs:dt E w a st) (h:w'=w\/w'=w.drew):dt E w' a st/\iF E w E w'/\w'.heap=w.heap:=by
  rcases h with rfl|rfl
  ·exact⟨hs,iF.refl _ _,rfl⟩
  ·exact⟨hs.drew,iF.drew _ _,rfl⟩
theorem H8 {P:g7} {E:Env} {w:World} {a:Act} {st:St} (hs:dt E w a st) {dst:Option Tmp} {it:V} {x:Value} {str:Bool} {ty:g9} {Q:St->Prop} (hi:df E it x) (h:wM st dst it str Q) :
    ∃ z w' st',(Instr.next x str ty).run P w = .ok z w'/\dt E w' (a.put dst z) st'/\iF E w E w'/\Q st':=by
  unfold wM at h;split at h
  · rename_i b;split at h
    · rename_i m since seen last hB;split at h
      · rename_i dU clock hM;obtain⟨rfl,oh,afQ,cZ⟩:=h;obtain⟨g,gm,em,cm,hb,VW,hh,hf⟩:=hs.mem b _ hB;obtain⟨es,hhm,hr,hfm,h0⟩:=nk hs hM VW;cases h0
        cases hi with
        | ptr _ _ _ g' e' c' gY =>
        rw [hb] at gY;cases gY
        have lz:(getObj g).run P w = .ok (.mapIter (some gm) since seen.toArray last) w:=by simp [getObj,Sem.run,hh]
        have abk:(!seen.toArray.isEmpty && !es.isEmpty&&es.all (fun e=>decide (e.born≥last)))=false:=by
          rw [<- oh]
          unfold FX
          have e1:seen.toArray.isEmpty=seen.isEmpty:=by simp
          have e2:es.isEmpty=dU.isEmpty:=by
            have h1:=hr.1
            rw [jA,awt,av6,<- b9,h1,gD]
          rw [e1,e2,<- Array.all_toList,<- gX.all (fun n=>decide (n≥last)) hr]
        have YT:(es.filter fun e=>!seen.toArray.contains e.born).toList=es.toList.filter fun e=>!seen.contains e.born:=by
          rw [awd];simp
        have hl:=gX.filter (fun n=>!seen.contains n) hr
        have ho:=gX.filter (fun n=>decide (n<since)) hl
        have hw:=gX.filter (fun n=>decide (n≥since)) hl
        have M6:=ho.append hw
        obtain⟨L,hL⟩:∃ L,L=es.filter fun e=>!seen.toArray.contains e.born:=⟨_,rfl⟩
        have hO:(L.filter fun e=>decide (e.born<since)).toList=(es.toList.filter fun e=>!seen.contains e.born).filter fun e=>decide (e.born<since):=by rw [awd,hL,YT]
        have hN:(L.filter fun e=>decide (e.born≥since)).toList=(es.toList.filter fun e=>!seen.contains e.born).filter fun e=>decide (e.born≥since):=by rw [awd,hL,YT]
        rw [<- hO] at ho
        rw [<- hO,<- hN] at M6
        generalize hOO:L.filter (fun e=>decide (e.born<since))=O at ho M6
        generalize hNN:L.filter (fun e=>decide (e.born≥since))=N at M6
        have alk:O.isEmpty=(Bs dU seen since).isEmpty:=by
          have h1:=ho.1
          rw [jA,awt,av6,<- b9,<- gD,<- h1];rfl
        have afR:0<((if O.isEmpty then #[none] else #[])++(O++N).map some:Array (Option MapEntry)).size:=by
          by_cases Ry:O.isEmpty=true
          · rw [gH Ry];simp;omega
          · rw [g5 Ry]
            have:O.size≠0:=fun h=>Ry (awt.2 h)
            simp;omega
        obtain⟨i,w1,hc1,Rs,Q4⟩:=Bu (P:=P) (w:=w) afR
        obtain⟨s1,v1,uQ⟩:=hs.abj Q4
        have fG:∀ {R},(match ((if O.isEmpty then #[none] else #[])++(O++N).map some:Array (Option MapEntry))[i]? with
            | some (some e)=>do setObj g (.mapIter (some gm) since (seen.toArray.push e.born) clock);pure (Value.tuple #[.bool true,e.key,e.val])
            | some none=>(pure (Value.tuple #[.bool false]):Sem Value)
            | none=>stuck "Next: no such candidate").run P w1=R->(Instr.next (.pointer (some ⟨g,0,none⟩)) false ty).run P w=R:=fun hR=>by
          rw [<- hR]
          simp only [Instr.next,Sem.run_bind,lz,Result.andThen_ok,gj hhm,abk,bw,if_false,<- hL,hOO,hNN,hc1]
          rfl
        have hci:=cb Rs
        by_cases pY:i<(if O.isEmpty then #[none] else #[]:Array (Option MapEntry)).size
        · have Ry:O.isEmpty=true:=by
            by_cases Ry:O.isEmpty=true
            · exact Ry
            · rw [g5 Ry] at pY;simp at pY
          rw [gH Ry] at pY
          have pH:i=0:=by simp at pY;omega
          subst pH
          have hold:Bs dU seen since=[]:=by rw [alk] at Ry;exact av6.1 Ry
          refine⟨_,w1,_,fG (R:=Result.ok (Value.tuple #[.bool false]) w1) ?_,s1.put dst (.fZ _ _ _ rfl fun i c y hc hy=>?_),v1,afQ hold⟩
          · rw [gH Ry,awm (by simp)];rfl
          · match i with
            | 0=>simp at hc hy;subst hc;subst hy;exact .sc _ _
            | i+1=>simp at hc
        · obtain⟨j,hj,Wn⟩:∃ j,j<(O++N).size/\((if O.isEmpty then #[none] else #[])++(O++N).map some:Array (Option MapEntry))[i]?=some (some ((O++N)[j]!)):=by
            refine⟨i-(if O.isEmpty then #[none] else #[]:Array (Option MapEntry)).size,?_,?_⟩
            · have:=Rs;simp only [afF,awo] at this ⊢;omega
            · rw [awV (by omega),awb]
              have bH:i-(if O.isEmpty then #[none] else #[]:Array (Option MapEntry)).size<(O++N).size:=by have:=Rs;simp only [afF,awo] at this ⊢;omega
              rw [cb bH,getElem!_pos (O++N) _ bH];rfl
          rw [getElem!_pos (O++N) _ hj] at Wn
          obtain⟨kb,kT⟩:∃ kb,(Bs dU seen since++Rw dU seen since)[j]?=some kb:=⟨_,bf (by have h1:=M6.1;simp only [ab,gD] at h1;simp only [ab];simp only [afF] at hj;exact Nat.lt_of_lt_of_eq hj h1.symm)⟩
          obtain⟨en,gp,p1,p2,p3⟩:=M6.get kT
          have alm:(O++N)[j]=en:=by
            have:(O++N).toList[j]?=some en:=by rw [AE];exact gp
            rw [dV,cb hj] at this
            simpa using this
          rw [alm] at Wn
          have OY:w1.heap[g]?=some (.mapIter (some gm) since seen.toArray last):=by rw [uQ];exact hh
          have u6:k6 E { w1 with heap:=w1.heap.setIfInBounds g (.mapIter (some gm) since (seen.toArray.push en.born) clock) } b (.jX m since (seen++[kb.2.1]) clock):=by
            refine⟨g,gm,0,0,hb,VW,?_,hf⟩
            rw [heap_set OY,p2];simp
          obtain⟨q1,q2⟩:=s1.Bl hB rfl (B':=.jX m since (seen++[kb.2.1]) clock) rfl hb hf sQ u6
          refine⟨.tuple #[.bool true,en.key,en.val],_,_,fG ?_,q1.put dst (OX p1 p3),v1.trans q2,cZ kb (aw kT)⟩
          rw [Wn]
          have:=jO (P:=P) (o':=.mapIter (some gm) since (seen.toArray.push en.born) clock) OY (by simp)
          dsimp only
          rw [Sem.run_bind,this];rfl
      ·exact h.elim
    ·rename_i s pos hB;obtain⟨rfl,Bv⟩:=h;obtain⟨g,hb,hh,hf⟩:=hs.mem b _ hB;cases hi with|ptr _ _ _ g' e' c' gY =>rw [hb] at gY;cases gY;(have lz:(getObj g).run P w = .ok (.stringIter s pos) w:=by simp [getObj,Sem.run,hh]);split at Bv;(·rename_i bH;obtain⟨q1,q2⟩:=hs.Bl hB rfl (B':=.n9 s (pos+(Utf8.decode s pos).2)) rfl hb hf (sQ (o:=.stringIter s (pos+(Utf8.decode s pos).2))) ⟨g,hb,heap_set hh,hf⟩;refine⟨.tuple #[.bool true,goInt pos,.int .i32 (Utf8.decode s pos).1],_,_,?_,q1.put dst (.fZ _ _ _ rfl fun i c y hc hy=>?_),q2,Bv⟩;(·have:=jO (P:=P) (o':=.stringIter s (pos+(Utf8.decode s pos).2)) hh (by simp);simp [Instr.next,lz,bH,this]);·match i with|0=>simp at hc hy;subst hc;subst hy;exact .sc _ _|1=>simp at hc hy;subst hc;subst hy;exact .sc _ _|2=>simp at hc hy;subst hc;subst hy;exact .sc _ _|i+3=>simp at hc);·rename_i bH;refine⟨.tuple #[.bool false],w,_,by simp [Instr.next,lz,bH],hs.put dst (.fZ _ _ _ rfl fun i c y hc hy=>?_),iF.refl _ _,Bv⟩;match i with|0=>simp at hc hy;subst hc;subst hy;exact .sc _ _|i+1=>simp at hc
    ·rename_i hB;obtain⟨rfl,Bv⟩:=h;obtain⟨g,hb,hh,hf⟩:=hs.mem b _ hB;cases hi with|ptr _ _ _ g' e' c' gY =>rw [hb] at gY;cases gY;(have lz:(getObj g).run P w = .ok (.mapIter none 0 #[] 0) w:=by simp [getObj,Sem.run,hh]);refine⟨.tuple #[.bool false],w,_,by simp [Instr.next,lz],hs.put dst (.fZ _ _ _ rfl fun i c y hc hy=>?_),iF.refl _ _,Bv⟩;match i with|0=>simp at hc hy;subst hc;subst hy;exact .sc _ _|i+1=>simp at hc
    ·exact h.elim
  ·exact h.elim
def qA (P:g7) (mem:List bx) (T:g9) (x:V):Option bx :=
  match x with
  | .mp b=>match mem[b]? with
    | some (.map _ clock)=>match jN P T with|some _=>some (.jX b clock [] clock)|none=>none
    | _=>none
  | .sc (.map none)=>match jN P T with|some _=>some .oG|none=>none
  | .sc (.string s)=>match P.underlying T with|some .string=>some (.n9 s 0)|_=>none
  | _=>none
theorem M7 {E:Env} {w:World} {a:Act} {st:St} (hs:dt E w a st) (o:Nat):E.F ⟨w.heap.size,o,none⟩=none:=by cases hx:E.F ⟨w.heap.size,o,none⟩ with|none=>rfl|some x=>have:=World.block_lt_of_cell? w _ (hs.F _ _ hx);simp at this
theorem dt.newObj {E:Env} {w:World} {a:Act} {st:St} (hs:dt E w a st) {key:Nat} (hk:jo st.mem key) {obj:Obj} {B:bx} (hv:B.ej=0) (hB:k6 (E.with key 0 (w.heap.size,0,0)) (w.alloc obj) key B) :
    ∃ E',dt E' (w.alloc obj) a { st with mem:=dw st.mem key B }/\iF E w E' (w.alloc obj)/\E'.cE key 0=some (w.heap.size,0,0):=by have:=hs.new (obj:=obj) (B:=B) (e:=0) (c:=0) hk hv hB;exact⟨_,this.1,this.2,gH ⟨rfl,rfl⟩⟩
theorem Bw {P:g7} {E:Env} {w:World} {a:Act} {st:St} (hs:dt E w a st) {key:Nat} (hk:jo st.mem key) {T:g9} {x:V} {y:Value} {B:bx} (hx:df E x y) (h:qA P st.mem T x=some B) :
    ∃ E' w',(Instr.range T y).run P w = .ok (.pointer (some ⟨w.heap.size,0,none⟩)) w'/\dt E' w' a { st with mem:=dw st.mem key B }/\iF E w E' w'/\df E' (.ptr key 0) (.pointer (some ⟨w.heap.size,0,none⟩)):=by
  have fK:(E.with key 0 (w.heap.size,0,0)).cE key 0=some (w.heap.size,0,0):=gH ⟨rfl,rfl⟩;unfold qA at h;split at h;·rename_i b;split at h;(·rename_i dU clock hB;split at h;(·rename_i p hp;cases h;obtain⟨kt,et⟩:=p;have hd:=lL hp;obtain⟨g,e,c,rfl,hb⟩:=vH hx;obtain⟨es,hh,hr,-⟩:=nk hs hB hb;(have dI:b≠key:=fun e=>by subst e;rw [hs.free hk 0] at hb;cases hb);obtain⟨E',h1,h2,h3⟩:=hs.newObj hk (obj:=.mapIter (some g) clock #[] clock) (B:=.jX b clock [] clock) rfl ⟨w.heap.size,g,e,c,fK,(g5 fun h=>dI h.1).trans hb,heap_alloc_new w _,fun o=>M7 (E:=E) hs o⟩;exact⟨E',_,by simp [Instr.range,bu hd,gj hh,newObj,Sem.run],h1,h2,.ptr _ _ _ _ 0 0 h3⟩);·cases h);·cases h
  ·obtain rfl:=ue hx;split at h;(·rename_i p hp;cases h;obtain⟨kt,et⟩:=p;have hd:=lL hp;obtain⟨E',h1,h2,h3⟩:=hs.newObj hk (obj:=.mapIter none 0 #[] 0) (B:=.oG) rfl ⟨w.heap.size,fK,heap_alloc_new w _,fun o=>M7 (E:=E) hs o⟩;exact⟨E',_,by simp [Instr.range,bu hd,newObj,Sem.run],h1,h2,.ptr _ _ _ _ 0 0 h3⟩);·cases h
  ·rename_i s;obtain rfl:=ue hx;split at h;(·rename_i hd;cases h;obtain⟨E',h1,h2,h3⟩:=hs.newObj hk (obj:=.stringIter s 0) (B:=.n9 s 0) rfl ⟨w.heap.size,fK,heap_alloc_new w _,fun o=>M7 (E:=E) hs o⟩;exact⟨E',_,by simp [Instr.range,bu hd,newObj,Sem.run],h1,h2,.ptr _ _ _ _ 0 0 h3⟩);·cases h
  ·cases h
theorem DQ {P:g7} {E:Env} {w:World} {a:Act} {st:St} (hs:dt E w a st) {key:Nat} (hk:jo st.mem key) (T:g9) :
    ∃ E' w',(Instr.makeMap T none).run P w = .ok (.map (some w.heap.size)) w'/\dt E' w' a { st with mem:=dw st.mem key (.map [] 0) }/\iF E w E' w'/\df E' (.mp key) (.map (some w.heap.size)):=by have fK:(E.with key 0 (w.heap.size,0,0)).cE key 0=some (w.heap.size,0,0):=gH ⟨rfl,rfl⟩;obtain⟨E',h1,h2,h3⟩:=hs.newObj hk (obj:=.map #[] 0) (B:=.map [] 0) rfl ⟨w.heap.size,#[],fK,heap_alloc_new w _,⟨rfl,fun i k e h=>by simp at h⟩,fun o=>M7 (E:=E) hs o⟩;exact⟨E',_,by simp [Instr.makeMap,newObj,Sem.run],h1,h2,.mp _ _ _ 0 0 h3⟩
def AN (i:Ti):V:=if i.agg=true then .agg (i.zero.map fun z=>qy (.sc z)) else match i.zero with|z :: _=>qy (.sc z)|[]=>.undef
def zv (tt:Table) (T:g9) (l c:V):Option (Nat×List V×Nat) :=
  match l,c with
  | .sc (.int _ l),.sc (.int _ c)=>match ke tt T with
    | some e=>match tt e with
      | some i=>if 0<=l/\l<=c/\i.bytes*c<=281474976710656/\c<=1152921504606846976/\0<i.size/\i.zero.length=i.size/\i.zero.all Value.oneCell'=true/\(i.agg=true\/i.size=1) then some (i.size,List.replicate l.toNat (AN i),c.toNat) else none
      | none=>none
    | none=>none
  | _,_=>none
theorem DR {i:Ti} (h:i.agg=true\/i.size=1) (hz:i.zero.length=i.size):(AN i).cells=i.zero.map fun z=>qy (.sc z):=by
  unfold AN;split;·rfl
  · rename_i hn
    have h1 : i.size = 1 := by rcases h with h|h
                               · exact absurd h hn
                               · exact h
    match hzz:i.zero with|[]=>rw [hzz] at hz;simp at hz;omega|[z]=>simp only [bo,dR];unfold qy;split <;> rfl|_ :: _ :: _=>rw [hzz] at hz;simp at hz;omega
theorem H9 {P:g7} {tt:Table} (ht:TT P tt) {E:Env} {w:World} {a:Act} {st:St} (hs:dt E w a st) {key:Nat} (hk:jo st.mem key) {T:g9} {l c:V} {x y:Value} {size cap:Nat} {rs:List V} (hl:df E l x) (hc:df E c y)
    (h:zv tt T l c=some (size,rs,cap)) :
    ∃ E' w',(Instr.makeSlice T x y).run P w = .ok (.slice (some ⟨w.heap.size,0,none⟩) rs.length cap) w'/\dt E' w' a { st with mem:=dw st.mem key (.rows 0 size rs) }/\iF E w E' w'/\df E' (.ms key 0 0 rs.length) (.slice (some ⟨w.heap.size,0,none⟩) rs.length cap):=by
  unfold zv at h;split at h;·rename_i k1 l k2 c;obtain rfl:=ue hl;obtain rfl:=ue hc;unfold ke at h;cases hT:tt T with|none=>rw [hT] at h;simp at h|some iT =>rw [hT] at h;simp only at h;cases he:iT.elem with|none=>rw [he] at h;simp at h|some e =>rw [he] at h;simp only at h;cases hE:tt e with|none=>rw [hE] at h;simp at h|some i =>rw [hE] at h;simp only at h;split at h;(·rename_i sL;obtain⟨h0,h1,hb,nD,Bp,AL,re,Wo⟩:=sL;cases h;obtain⟨d,hd,-,wC,-⟩:=ht.desc T iT hT;obtain rfl:=wC e he;obtain⟨info,u9,Q3,Wm,z,hz,hzz⟩:=ht.size e i hE;(have Rr:z.cells.size=i.size:=by rw [<- AL,<- hzz];simp);(have hwl:IntKind.i64.wrap l=l:=by rw [IntWalk.i64_in _ (by omega)]);(have hwc:IntKind.i64.wrap c=c:=by rw [IntWalk.i64_in _ (by omega)]);obtain⟨xs,sA⟩:∃ xs:Array Value,xs=(Array.range (c.toNat*i.size)).map (z.cells[· % z.cells.size]!):=⟨_,rfl⟩;(have fG:(Instr.makeSlice T (.int k1 l) (.int k2 c)).run P w = .ok (.slice (some ⟨w.heap.size,0,none⟩) l.toNat c.toNat) (w.alloc (.cells xs e (0,0))):=by (have e0:(decide (c<0)||decide ((info.bytes:Int)*c>2 ^ 48))=false:=by rw [Wm];simp only [eH,decide_eq_false_iff_not];exact⟨by omega,by omega⟩);(have e1:(decide (l<0))=false:=by simp;omega);(have e2:(decide (l>c))=false:=by simp;omega);(have hzv:(zeroValue e).run P (w) = .ok z w:=by simp [zeroValue,fJ u9,hz]);simp only [Instr.makeSlice,Sem.run_bind,bu hd,Result.andThen_ok,asInt,asIntOf,Sem.run_pure,fJ u9,hwl,hwc,e0,e1,e2,bg,bw,if_false,run_askRoom,gJ u9,Q3];by_cases hn:c.toNat*i.size=0;(·(have MZ:xs = #[]:=by rw [sA,hn];simp);have DN:∀ f:Nat->Value,Array.map f (Array.range 0) = #[]:=fun f=>Array.eq_empty_of_size_eq_zero (by simp);simp only [hn,if_true,Sem.run_pure,Result.andThen_ok,DN,MZ];rfl);·simp only [hn,if_false,Sem.run_bind,hzv,Result.andThen_ok,Sem.run_pure];simp [newRow,sA]);obtain⟨E',g1,g2,g3⟩:=hs.wH hk (xs:=xs) (rs:=List.replicate l.toNat (AN i)) (e:=i.size) (c:=c.toNat) e (by rw [sA];simp) (by simp;omega) (fun q row hq=>by rw [awh] at hq;split at hq;(·rename_i Ej;cases hq;have sP:=DR Wo AL;refine⟨by rw [sP];simpa using AL,fun j cc hj=>?_⟩;rw [sP,ae,bp] at hj;obtain⟨v,hv,rfl⟩:=hj;(have DG:j<i.size:=by rw [<- AL];exact (az.1 hv).1);(have bH:q*i.size+j<c.toNat*i.size:=by have:(q+1)*i.size<=c.toNat*i.size:=lV _ (by omega);rw [n6] at this;omega);(have aln:(q*i.size+j) % i.size=j:=by rw [VQ,Nat.add_mul_mod_self_right,Nat.mod_eq_of_lt DG]);refine⟨v,?_,ba.1 re v (aw hv),wK (.sc _ _)⟩;rw [sA];(have hzj:z.cells[j]?=some v:=by rw [<- dV,hzz];exact hv);(have hjz:j<z.cells.size:=by omega);simp only [awb,Array.getElem?_range,bH,if_true,bU,Rr,aln];rw [getElem!_pos z.cells j hjz];rw [cb hjz] at hzj;exact hzj);·cases hq);refine⟨E',_,?_,g1,g2,?_⟩;(·simpa using fG);·simpa using g3);·cases h
  ·cases h
end Go.Eng
end
section
namespace Go.Eng
variable [bJ]
open Go.RowKit (Below)
def pI (tt:Table) (mem:List bx) (ts:List g9) (s x:V):Option (Nat×Nat×Nat×Nat×List V×List V) :=
 match s with
 | .ms b v o l=>match mem[b]? with
  | some (.rows v' eb rs)=>match ts with
   | [t,u]=>match ke tt t with
    | some e=>match ke tt u with
     | some _=>match tt e with
      | some i =>
       if v'=v/\eb=i.size/\o+l=rs.length/\0<i.size/\i.bytes<=4096/\i.zero.length=i.size then
        match rowsOf mem i.size x with
        | some xs=>if l+xs.length<=34359738368 then some (i.size,b,v,l,rs.drop o,xs) else none
        | none=>none
       else none
      | none=>none
     | none=>none
    | none=>none
   | _=>none
  | _=>none
 | _=>none
theorem DS {P:g7} {tt:Table} (ht:TT P tt) {E:Env} {w:World} {a:Act} {st:St} (hs:dt E w a st) {ts:Array g9} {ty:g9} {s x:V} {y z:Value} {size b v l:Nat} {rs0 xs:List V}
  (oK:df E s y) (Rk:df E x z) (h:pI tt st.mem ts.toList s x=some (size,b,v,l,rs0,xs)) :
  ∃ u w' E' o' nC,(Builtin.append_ ts ty #[y,z]).run P w = .ok u w'/\nC.drop o'=rs0++xs/\o'+(l+xs.length)=nC.length/\dt E' w' a { st with mem:=st.mem.set b (.rows (v+1) size nC) }/\iF E w E' w'/\df E' (.ms b (v+1) o' (l+xs.length)) u:=by
 unfold pI at h;split at h
 ·rename_i b1 v1 o l1;split at h
  ·rename_i v' eb rs hm;split at h
   ·rename_i t u yn;obtain rfl:ts = #[t,u]:=by rw [<- cJ (xs:=ts),yn]
    split at h
    ·rename_i e he;split at h
     ·rename_i e' heu;split at h
      ·rename_i i hE;split at h
       ·rename_i hc;obtain⟨rfl,rfl,O0,Bp,Bq,AL⟩:=hc;split at h
        ·rename_i wN sA;split at h
         ·rename_i hlen;simp only [aD,dK] at h;obtain⟨rfl,rfl,rfl,rfl,rfl,rfl⟩:=h;have und:∀ {t e:g9},ke tt t=some e->P.underlying t=some (.slice e):=fun {t e} he=>by unfold ke at he;split at he;(·rename_i iu hU;obtain⟨d,hd,-,wC,-⟩:=ht.desc t iu hU;rw [hd,wC e he]);simp at he
          have hd:=und he;have HC:=und heu;obtain⟨info,u9,Q3,Wm,z0,nr,AJ⟩:=ht.size e i hE;have Rr:z0.cells.size=info.size:=by rw [Q3,<- AL,<- AJ];simp
          rw [<- Q3] at sA Bp hm ⊢;rw [<- Wm] at Bq;have YR:dt E w.drew a st:=hs.drew;obtain⟨xa,xc,rfl,hxc,xA,nS,ob⟩:=kU (P:=P) hs Rk sA;obtain⟨xa',xc',heq,-,xB,hx3,hx4⟩:=kU (P:=P) YR Rk sA;simp only [Value.slice.injEq] at heq;obtain⟨rfl,-,rfl⟩:=heq
          have KX:∀ iy,iy<l1+wN.length->Builtin.nextslicecap (l1+wN.length) iy*info.bytes<=281474976710656:=fun iy bH =>
           growslice_fits bH (gw (awn hlen Bq) (by decide))
          have Du:(rs.drop o).length=l1:=by rw [eL];omega
          have M4:(rs.drop o++wN).length=l1+wN.length:=by rw [ab,Du]
          have fP:∀ iy,l1+wN.length<=grownCap w (l1+wN.length) iy e:=fun iy=>grownCap_ge w (l1+wN.length) iy e;have hro:rowsOf st.mem info.size (.ms b1 v' o l1)=some (rs.drop o):=by (have h1:o+l1<=rs.length:=by omega);simp [rowsOf,hm,h1];rw [b8 (by rw [eL];omega)]
          obtain⟨sa,sc,rfl,hsc,A,HD,H4⟩:=kU (P:=P) YR oK hro;rw [Du] at HD oK ⊢;have sP:∀ iy,(A++xB++Builtin.zeroCells z0.cells (grownCap w (l1+wN.length) iy e-(l1+wN.length))).size=grownCap w (l1+wN.length) iy e*info.size:=fun iy=>by simp only [afF,size_zeroCells,Rr,H4.1,hx4.1,Du,<- jF];congr 1;have:=fP iy;omega
          by_cases wL:l1+wN.length<=sc
          ·rcases FT oK with ⟨zi,Rt⟩|⟨g,eb',c,sa',sc',Rt,hb,hl,VV,wD⟩
           ·simp only [Value.slice.injEq] at Rt;obtain⟨rfl,alh,rfl⟩:=Rt;have MZ:wN=[]:=b9.1 (by omega);subst MZ;(have oc:l1=0:=by omega);subst oc;have DN:rs.drop o=[]:=b9.1 Du;rw [DN];exact⟨_,w,E,0,[],pG (ty:=ty) hd HC u9 xc xa xA nS,rfl,rfl,hs.H3 hm,iF.refl E w,.jr _ _ _ _⟩
           simp only [Value.slice.injEq] at Rt;obtain⟨rfl,-,rfl⟩:=Rt;obtain⟨hc1,Rs,Q4⟩:=wD;rcases hs.mem b1 _ hm with ⟨-,hn⟩|⟨g',T',cur,c',gY,hh,nj,pE,ug,hf⟩
           ·rw [hb] at hn;cases hn
           rw [hb] at gY;cases gY;by_cases alo:sc=0
           ·
            have MZ:wN=[]:=b9.1 (by omega)
            subst MZ
            have oc:l1=0:=by omega
            subst oc
            subst alo
            have DN:rs.drop o=[]:=b9.1 Du
            have fG:(Builtin.append_ #[t,u] ty #[.slice sa 0 0,.slice xa 0 xc]).run P w = .ok (.slice sa 0 0) w:=by
             cases sa with
             | none=>exact pG (ty:=ty) hd HC u9 xc xa xA nS
             | some ad =>
              have hxe:xA.toList=[]:=by
               have:=ob.1
               simp at this
               simpa using this
              have hfc:(Builtin.firstCells info.size 0 (.slice xa 0 xc)).run P w = .ok xA w:=nS
              simp [Builtin.append_,bu hd,bu HC,gJ u9,Builtin.lenOf,hfc,hxe,storeCells]
            have hle:E.le (E.with b1 (v'+1) (g,info.size,c)):=Env.nn (hs.ej b1 _ hm _ (o6 v')) _
            have fK:(E.with b1 (v'+1) (g,info.size,c)).cE b1 (v'+1)=some (g,info.size,c):=gH ⟨rfl,rfl⟩
            refine⟨_,w,E.with b1 (v'+1) (g,info.size,c),o,rs,fG,by simp [DN],by omega,hs.renew hm hs.F (aA _) (hs.lt _ _ _ _ _ hb) (fun k B' kT mm KG g' e' c' fw=>⟨rfl,fun e=>by subst e;exact kT (hs.apart _ _ _ _ _ _ _ _ _ fw hb)⟩) ?_ (fun k v2 e2 c2 h=>hs.apart _ _ _ _ _ _ _ _ _ h hb),
             ⟨hle,fun k q g' e' c' kT=>?_,fun ad y hy=>.inl hy,rfl,rfl,rfl,aA _,fun _ _ _=>rfl⟩,?_⟩
            ·exact .inr ⟨g,T',cur,c,fK,hh,nj,pE,fun q row hq=>let ⟨h3,h4⟩:=ug q row hq;⟨h3,fun j cc hj=>let ⟨v,hv,KF,KZ⟩:=h4 j cc hj;⟨v,hv,KF,KZ.mono (Env.lG hle)⟩⟩,hf⟩
            ·by_cases hq:k=b1/\q=v'+1
             ·obtain⟨rfl,rfl⟩:=hq;rw [fK] at kT;cases kT;exact .inl ⟨_,_,_,_,hb⟩
             have:(E.with b1 (v'+1) (g,info.size,c)).cE k q=E.cE k q:=g5 hq
             rw [this] at kT;exact .inl ⟨_,_,_,_,kT⟩
            exact .ms _ _ _ _ _ g info.size c _ _ fK (fun h=>absurd h (by simp)) (fun h=>VV h) ⟨by simp,Rs,fun h=>absurd h (aq6 _)⟩
           obtain rfl:=Q4 (by omega);have Br:rs.length*info.size+xA.toList.length<=cur.size:=by have:=ob.1;simp only [gD];rw [this,nj,<- jF];exact lV _ (by omega)
           obtain⟨w',oh,KE,DO⟩:=lN (P:=P) (g:=g) (T:=T') (rs.length*info.size) xA.toList 0 w cur hh (by simpa using Br) (zq Bp ob);have fG:(Builtin.append_ #[t,u] ty #[.slice (some ⟨g,o*info.size,none⟩) l1 sc,.slice xa wN.length xc]).run P w = .ok (.slice (some ⟨g,o*info.size,none⟩) (l1+wN.length) sc) w':=by (have Rz:(storeCells (Addr.add ⟨g,o*info.size,none⟩ (l1*info.size)) xA.toList).run P w = .ok () w':=by rw [add_lit,<- jF,O0];exact oh);simp [Builtin.append_,bu hd,bu HC,gJ u9,Builtin.lenOf,wL,nS,Rz]
           have hle:E.le (E.with b1 (v'+1) (g,info.size,c)):=Env.nn (hs.ej b1 _ hm _ (o6 v')) _;have fK:(E.with b1 (v'+1) (g,info.size,c)).cE b1 (v'+1)=some (g,info.size,c):=gH ⟨rfl,rfl⟩
           refine⟨_,w',E.with b1 (v'+1) (g,info.size,c),o,rs++wN,fG,by rw [List.drop_append_of_le_length (by omega)],by rw [ab];omega,hs.renew hm (fun ad y hy=>?_) (by rw [DO.size];exact aA _) (by rw [DO.size];exact hs.lt _ _ _ _ _ hb) (fun k B' kT mm KG g' e' c' fw=>?_) ?_ (fun k v2 e2 c2 h=>hs.apart _ _ _ _ _ _ _ _ _ h hb),
            ⟨hle,fun k q g' e' c' kT=>?_,fun ad y hy=>.inl hy,DO.os,DO.tape,DO.output,by rw [DO.size];exact aA _,fun b' gY dI=>DO.heap b' fun e=>by subst e;exact dI _ _ _ _ hb⟩,?_⟩
           ·have dI:=hs.FL hf hy;rw [<- hs.F ad y hy];simp [World.cell?,DO.heap _ dI]
           ·(have hgg:g'≠g:=fun e=>by subst e;exact kT (hs.apart _ _ _ _ _ _ _ _ _ fw hb));exact⟨DO.heap _ hgg,hgg⟩
           ·refine .inr ⟨g,T',_,c,fK,KE,by rw [mq];exact nj,by rw [ab];omega,?_,hf⟩;intro q row hq;simp only [fI];(have H5:xA.toList.length=wN.length*info.size:=by simpa using ob.1);rw [po] at hq;split at hq;(·rename_i bH;obtain⟨h3,h4⟩:=ug q row hq;refine⟨h3,fun j cc hj=>?_⟩;obtain⟨v,hv,KF,KZ⟩:=h4 j cc hj;(have DG:j<info.size:=by rw [<- h3];exact (az.1 hj).1);refine⟨v,?_,KF,KZ⟩;rw [kA _ _ _ _ Br,g5 (by have:=Bm bH DG;omega)];exact hv);rename_i alj;obtain⟨h3,h4⟩:=ob.2 _ row hq;refine⟨h3,fun j cc hj=>?_⟩;obtain⟨v,hv,KF,KZ⟩:=h4 j cc hj;(have DG:j<info.size:=by rw [<- h3];exact (az.1 hj).1);have Ej:q-rs.length<wN.length:=(az.1 hq).1;(have hmul:q*info.size=rs.length*info.size+(q-rs.length)*info.size:=by rw [<- jF];congr 1;omega);refine⟨v,?_,KF,KZ⟩;rw [kA _ _ _ _ Br,gH (by have:=Bm Ej DG;omega)];dsimp only at hv;rw [<- hv,dV];congr 1;omega
           ·by_cases hq:k=b1/\q=v'+1;(·obtain⟨rfl,rfl⟩:=hq;rw [fK] at kT;cases kT;exact .inl ⟨_,_,_,_,hb⟩);have:(E.with b1 (v'+1) (g,info.size,c)).cE k q=E.cE k q:=g5 hq;rw [this] at kT;exact .inl ⟨_,_,_,_,kT⟩
           exact .ms _ _ _ _ _ g info.size c _ _ fK (fun _=>rfl) (fun h=>VV h) ⟨wL,Rs,fun _=>rfl⟩
          have bH:sc<l1+wN.length:=by omega
          have fG:=Bn (ty:=ty) hd HC u9 nr sa l1 sc wN.length xc xa A xB HD hx3 bH (by omega) (KX sc bH);have hle:E.le (E.with b1 (v'+1) (w.heap.size,info.size,grownCap w (l1+wN.length) sc e)):=Env.nn (hs.ej b1 _ hm _ (o6 v')) _;have fK:(E.with b1 (v'+1) (w.heap.size,info.size,grownCap w (l1+wN.length) sc e)).cE b1 (v'+1)=some (w.heap.size,info.size,grownCap w (l1+wN.length) sc e):=gH ⟨rfl,rfl⟩
          refine⟨_,_,E.with b1 (v'+1) (w.heap.size,info.size,grownCap w (l1+wN.length) sc e),0,rs.drop o++wN,fG,rfl,by rw [M4];omega,hs.renew hm (fun ad y hy=>?_) (by simp) (by simp) (fun k B' kT mm KG g' e' c' fw=>?_) ?_ (fun k v2 e2 c2 h=>absurd (hs.lt _ _ _ _ _ h) (aq6 _)),
           ⟨hle,fun k q g' e' c' kT=>?_,fun ad y hy=>.inl hy,rfl,rfl,rfl,by simp,fun b' gY dI=>eB w.drew _ b' gY⟩,?_⟩
          ·rw [World.cell?_alloc_lt w.drew _ ad (World.block_lt_of_cell? w ad (hs.F ad y hy))];exact hs.F ad y hy
          ·have:=hs.lt _ _ _ _ _ fw;exact⟨eB w.drew _ g' this,by omega⟩
          ·refine .inr ⟨w.heap.size,e,_,_,fK,heap_alloc_new w.drew _,sP sc,by rw [M4];exact fP sc,?_,fun o=>?_⟩;(·intro q row hq;obtain⟨h3,h4⟩:=np (C:=Builtin.zeroCells z0.cells (grownCap w (l1+wN.length) sc e-(l1+wN.length))) H4 hx4 q row hq;exact⟨h3,fun j cc hj=>let ⟨v,hv,KF,KZ⟩:=h4 j cc hj;⟨v,hv,KF,KZ.mono (Env.lG hle)⟩⟩);show E.F _=none;cases hx:E.F ⟨w.heap.size,o,none⟩ with|none=>rfl|some x=>have:=World.block_lt_of_cell? w _ (hs.F _ _ hx);simp at this
          ·by_cases hq:k=b1/\q=v'+1;(·obtain⟨rfl,rfl⟩:=hq;rw [fK] at kT;cases kT;exact .inr (aA _));have:(E.with b1 (v'+1) (w.heap.size,info.size,grownCap w (l1+wN.length) sc e)).cE k q=E.cE k q:=g5 hq;rw [this] at kT;exact .inl ⟨_,_,_,_,kT⟩
          exact .ms _ _ _ _ _ w.heap.size info.size _ _ _ fK (fun _=>by simp) (fun _=>⟨rfl,rfl⟩) ⟨fP sc,dc _,fun _=>by simp⟩
         simp at h
        simp at h
       simp at h
      simp at h
     simp at h
    simp at h
   simp at h
  simp at h
 simp at h
end Go.Eng
end
