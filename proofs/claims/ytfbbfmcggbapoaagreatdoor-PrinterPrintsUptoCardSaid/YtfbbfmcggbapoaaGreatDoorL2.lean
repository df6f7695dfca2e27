import Derived.Test.YtfbbfmcggbapoaaGreatDoorL1
import Derived.Test.YtfbbfmcggbapoaaGreatDoorRows
import Derived.Sort.Walk0
open Array renaming length_toList->gD,toList_inj->ake
open Bool renaming eq_iff_iff->jA
open Go.Proofs.Tryz renaming prog->ak
open List renaming all_eq_true->ba,any_eq_false->n7,any_eq_true->u1,drop_drop->av2,drop_eq_nil_of_le->dq,getElem?_eq_getElem->bf,getElem?_eq_some_iff->az,getElem?_map->ae,headD_cons->a7,length_eq_zero_iff->b9,length_map->aC,mapM_cons->av0,mem_append->ey,mem_iff_getElem?->br,mem_of_getElem?->aw,take_append_drop->ji
open Nat renaming add_assoc->eD,eq_zero_or_pos->Dt,lt_or_ge->bn,not_lt_zero->bR,zero_le->aY
open Option renaming bind_some->av7,map_eq_some_iff->bp
open Prod.mk renaming injEq->dK
set_option linter.all false
set_option maxRecDepth 100000
set_option maxHeartbeats 4000000
section
namespace Go.Proofs.YtfbbfmcggbapoaaGreatDoor
open Go.Eng
variable [bJ]
section
section
variable {H:Type} {enc:g9×Value->H} {P:g7} {w:World} {sp:Nat->Bool} {held:Bool} {f:Nat} {T:g9} {cs:List Value} {d:DataW H} {p:List MemPlace}
theorem trod_bool (hT:P.underlying T=some .bool) (h:DataW.trod enc P w 0 sp held (f+1) T cs=some (d,p)):∃ b,cs=[.bool b]/\d = .lit (.bool b):=by unfold DataW.trod at h;rw [hT] at h;split at h <;> simp_all
theorem trod_string (hT:P.underlying T=some .string) (h:DataW.trod enc P w 0 sp held (f+1) T cs=some (d,p)):∃ s,cs=[.string s]/\d = .lit (.string s.data.toList):=by unfold DataW.trod at h;rw [hT] at h;split at h <;> simp_all
theorem xu {α β:Type} {g:α->Option β}:∀ {l:List α} {r:List β},l.mapM g=some r->r.length=l.length/\∀ (i:Nat) (b:β),r[i]?=some b->∃ a:α,l[i]?=some a/\g a=some b
 | [],r,h=>by simp at h;subst h;simp
 | a :: l,r,h=>by
  rw [av0] at h
  cases h1:g a with
  | none=>rw [h1] at h;simp at h
  | some b =>
   rw [h1] at h
   cases h2:l.mapM g with
   | none=>rw [h2] at h;simp at h
   | some r' =>
    rw [h2] at h
    simp at h
    subst h
    obtain⟨e1,e2⟩:=xu h2
    refine⟨by simp [e1],fun i b' hb=>?_⟩
    cases i with
    | zero=>simp at hb;subst hb;exact⟨a,rfl,h1⟩
    | succ i=>simpa using e2 i b' (by simpa using hb)
theorem trod_slice {T':g9} (hT:P.underlying T=some (.slice T')) (h:DataW.trod enc P w 0 sp held (f+1) T cs=some (d,p)) :
  (cs=[.slice none 0 0]/\d = .nil)\/∃ (a:Addr) (cap:Nat) (elems spare:List (DataW H)),cs=[.slice (some a) elems.length cap]/\d = .slice elems spare/\elems.length<=cap /\
   ∀ (i:Nat) (e:DataW H),elems[i]?=some e->∃ u7 p',w.cells? 0 (a.add (i*P.cellsOf T')) (P.cellsOf T')=some u7/\DataW.trod enc P w 0 sp held f T' u7=some (e,p'):=by
 unfold DataW.trod at h;rw [hT] at h;split at h <;> try (simp at *;done)
 ·rename_i e' h1 h2;simp at h;exact .inl ⟨rfl,h.1.symm⟩
 rename_i e' a len cap h1;obtain rfl:T'=e':=by simpa using h1
 refine .inr ?_;dsimp only at h;split at h;·rename_i hb;cases h3:(List.range len).mapM (fun i=>(w.cells? 0 (a.add (i*P.cellsOf T')) (P.cellsOf T')).bind (DataW.trod enc P w 0 sp held f T')) with|none=>rw [h3] at h;simp at h|some elems =>rw [h3] at h;obtain⟨e1,e2⟩:=xu h3;simp only [av7,bp] at h;obtain⟨rest,-,h5⟩:=h;simp only [dK] at h5;(have hl:elems.length=len:=by simpa using e1);refine⟨a,cap,elems.map (·.1),rest.map (·.1),by rw [aC,hl],h5.1.symm,by rw [aC,hl];exact hb.2.1,fun i e he=>?_⟩;rw [ae,bp] at he;obtain⟨x,hx,rfl⟩:=he;obtain⟨j,hj,hg⟩:=e2 i x hx;(have KH:j=i:=by obtain⟨bH,hv⟩:=az.1 hj;simpa using hv.symm);subst KH;rw [Option.bind_eq_some_iff] at hg;obtain⟨u7,hc,ht⟩:=hg;exact⟨u7,x.2,hc,ht⟩
 simp at h
theorem trod_struct {fs:Array Field} (hT:P.underlying T=some (.struct fs)) (h:DataW.trod enc P w 0 sp held (f+1) T cs=some (d,p)) :
  cs.length=P.cellsOf T/\∃ parts:List (DataW H),d = .agg parts/\parts.length=fs.size /\
   ∀ (i:Nat) (e:DataW H),parts[i]?=some e->∃ (fd:Field) (p':List MemPlace),fs[i]?=some fd/\DataW.trod enc P w 0 sp held f fd.type ((cs.drop fd.offset).take (P.cellsOf fd.type))=some (e,p'):=by
 unfold DataW.trod at h;rw [hT] at h;split at h <;> try (simp at *;done)
 rename_i fs' h1;obtain rfl:fs=fs':=by simpa using h1
 split at h;·rename_i hl;refine⟨hl,?_⟩;rw [bp] at h;obtain⟨xs,h3,h4⟩:=h;simp only [dK] at h4;obtain⟨e1,e2⟩:=xu h3;refine⟨xs.map (·.1),h4.1.symm,by rw [aC,e1];simp,fun i e he=>?_⟩;rw [ae,bp] at he;obtain⟨x,hx,rfl⟩:=he;obtain⟨fd,hj,hg⟩:=e2 i x hx;exact⟨fd,x.2,by simpa using hj,hg⟩
 simp at h
end
end
section
def Rd (F:Addr->Option Value) (hg:Gl F) (vs:List V) (cs:List Value):Prop:=dh ⟨F,fun _ _=>none,hg⟩ vs cs/\∀ c∈cs,c.oneCell'=true
section
variable {F:Addr->Option Value} {hg:Gl F}
theorem LW {v:Value} (h:v.oneCell'=true):Rd F hg [.sc v] [v]:=⟨.cons (.sc _ _) (.nil _),by simpa using h⟩
theorem ef {a b:List V} {cs:List Value} {off n:Nat} (h1:Rd F hg a ((cs.drop off).take n)) (h2:Rd F hg b (cs.drop (off+n))):Rd F hg (a++b) (cs.drop off):=by
 have e:cs.drop off=(cs.drop off).take n++cs.drop (off+n):=by rw [<- av2,ji]
 rw [e];refine⟨.append h1.1 h2.1,fun c hc=>?_⟩;rcases ey.1 hc with hc|hc
 ·exact h1.2 c hc
 exact h2.2 c hc
theorem SV {cs:List Value} {off:Nat} (h:cs.length=off):Rd F hg [] (cs.drop off):=by rw [dq (by omega)];exact⟨.nil _,by simp⟩
theorem GC (a:Addr) (x y:Nat):(a.add x).add y=a.add (x+y):=by
 unfold Addr.add;by_cases hx:x=0;·subst hx;simp
 by_cases hy:y=0;·subst hy;simp
 simp [hx,hy,eD]
theorem Ja {α β:Type} {R:Nat->β->α->Prop}:∀ {es:List β},(∀ (i:Nat) (e:β),es[i]?=some e->∃ a:α,R i e a)->∃ l:List α,l.length=es.length/\∀ (i:Nat) (e:β) (a:α),es[i]?=some e->l[i]?=some a->R i e a:=by intro es;induction es generalizing R with|nil=>intro _;exact⟨[],rfl,by simp⟩|cons e r ih =>intro h;obtain⟨a,ha⟩:=h 0 e rfl;obtain⟨l,hl,hr⟩:=ih (R:=fun i=>R (i+1)) fun i e he=>h (i+1) e (by simpa using he);refine⟨a :: l,by simp [hl],fun i e' a' he ha'=>?_⟩;cases i with|zero=>simp at he ha';subst he;subst ha';exact ha|succ i=>exact hr i e' a' (by simpa using he) (by simpa using ha')
theorem zZ {H α:Type} {g:α->Nat}:∀ {l:List α} {es:List (DataW H)},l.length=es.length->(∀ (i:Nat) (e:DataW H) (a:α),es[i]?=some e->l[i]?=some a->g a<=Rows.uptoBulk e)->aU g l<=Rows.uptoBulkAll es
 | [],[],_,_=>by simp [aU]
 | a :: l,e :: es,hl,h=>by
  have h1:=h 0 e a rfl rfl
  have h2:=zZ (l:=l) (es:=es) (g:=g) (by simpa using hl) fun i e a he ha=>h (i+1) e a (by simpa using he) (by simpa using ha)
  simp only [aU,Rows.uptoBulkAll];omega
 | [],_ :: _,hl,_=>by simp at hl
 | _ :: _,[],hl,_=>by simp at hl
theorem SX {H:Type} {enc:g9×Value->H} {P:g7} {w:World} {sp:Nat->Bool} {held:Bool} {f:Nat} {T T':g9} {α:Type} {row:α->V} {g:α->Nat} {n:Nat}
  (hF:F=w.cell?) (hT:P.underlying T=some (.slice T')) (hn:P.cellsOf T'=n)
  (hr:∀ {cs:List Value} {d:DataW H} {p:List MemPlace},DataW.trod enc P w 0 sp held f T' cs=some (d,p)->∃ a:α,Rd F hg (row a).cells cs/\g a<=Rows.uptoBulk d)
  {cs:List Value} {d:DataW H} {p:List MemPlace} (h:DataW.trod enc P w 0 sp held (f+1) T cs=some (d,p)) :
  ∃ l:List α,Rd F hg [.slice (l.map row)] cs/\aU g l+1<=Rows.uptoBulk d:=by
 rcases trod_slice hT h with ⟨rfl,rfl⟩|⟨a,cap,elems,spare,rfl,rfl,hc,he⟩
 ·exact⟨[],⟨.cons (.slice _ [] none 0 0 default (fun _ _=>default) (by simp) (by simp) (by simp) (by simp) (by simp) (by simp)) (.nil _),by simp [Value.oneCell']⟩,by simp [aU,Rows.uptoBulk]⟩
 obtain⟨l,hl,hR⟩:=Ja (es:=elems) (R:=fun i e (x:α)=>∃ u7:List Value,w.cells? 0 (a.add (i*P.cellsOf T')) (P.cellsOf T')=some u7/\Rd F hg (row x).cells u7/\g x<=Rows.uptoBulk e) fun i e hi=>by obtain⟨u7,p',h1,h2⟩:=he i e hi;obtain⟨x,h3,h4⟩:=hr h2;exact⟨x,u7,h1,h3,h4⟩
 rw [hn] at hR;have key:∀ (i:Nat) (x:α),l[i]?=some x->∃ u7:List Value,Rd F hg (row x).cells u7/\(row x).cells.length=n/\∀ (j:Nat) (c:Value),u7[j]?=some c->F (a.add (i*n+j))=some c:=fun i x hx=>by obtain⟨e,hei⟩:∃ e,elems[i]?=some e:=⟨_,bf (by rw [<- hl];exact (az.1 hx).1)⟩;obtain⟨u7,h1,h2,-⟩:=hR i e x hei hx;unfold World.cells? at h1;rw [gH (aY _)] at h1;obtain⟨e1,e2⟩:=xu h1;refine⟨u7,h2,by rw [h2.1.1,e1];simp,fun j c hj=>?_⟩;obtain⟨k,hk,hc'⟩:=e2 j c hj;(have hkj:k=j:=by obtain⟨bH,hv⟩:=az.1 hk;simpa using hv.symm);subst hkj;rw [GC] at hc';rw [hF];exact hc'
 have cell:∀ (i:Nat) (r:V) (j:Nat) (c:V),(l.map row)[i]?=some r->r.cells[j]?=some c->∃ x,F (a.add (i*n+j))=some x/\x.oneCell'=true/\df ⟨F,fun _ _=>none,hg⟩ c x:=fun i r j c hi hj=>by rw [ae,bp] at hi;obtain⟨x,hx,rfl⟩:=hi;obtain⟨u7,h2,-,h3⟩:=key i x hx;obtain⟨y,hy,kV⟩:=h2.1.get hj;exact⟨y,h3 j y hy,h2.2 y (aw hy),kV⟩
 refine⟨l,⟨.cons ?_ (.nil _),by simp [Value.oneCell']⟩,?_⟩
 ·have:=df.slice ⟨F,fun _ _=>none,hg⟩ (l.map row) (some a) cap n a (fun i j=>(F (a.add (i*n+j))).getD default) (fun _=>rfl) (by rw [aC,hl];exact hc)
   (fun i r hi=>by
    rw [ae,bp] at hi
    obtain⟨x,hx,rfl⟩:=hi
    obtain⟨_,-,h,-⟩:=key i x hx
    exact h)
   (fun i r j c hi hj=>by obtain⟨x,h,-,-⟩:=cell i r j c hi hj;show F _=some ((F _).getD _);rw [h];rfl)
   (fun i r j c hi hj=>by obtain⟨x,h,h',-⟩:=cell i r j c hi hj;show Value.oneCell' ((F _).getD _)=true;rw [h];exact h')
   (fun i r j c hi hj=>by obtain⟨x,h,-,h'⟩:=cell i r j c hi hj;show df _ c ((F _).getD _);rw [h];exact h')
  rwa [aC,hl] at this
 have:=zZ (g:=g) hl fun i e x he hx=>by obtain⟨_,-,-,h⟩:=hR i e x he hx;exact h
 simp only [Rows.uptoBulk];omega
end
def LX {H:Type} (enc:g9×Value->H) (P:g7) (w:World) (sp:Nat->Bool) (held:Bool) (f:Nat) (cs:List Value):List Field->(List (DataW H)->Prop)->Prop
 | [],K=>K []
 | fd :: r,K=>∃ (e:DataW H) (p:List MemPlace),DataW.trod enc P w 0 sp held f fd.type ((cs.drop fd.offset).take (P.cellsOf fd.type))=some (e,p)/\LX enc P w sp held f cs r fun es=>K (e :: es)
theorem EH {H:Type} {enc:g9×Value->H} {P:g7} {w:World} {sp:Nat->Bool} {held:Bool} {f:Nat} {cs:List Value}:∀ {fs:List Field} {K:List (DataW H)->Prop} {es:List (DataW H)},es.length=fs.length ->
  (∀ (i:Nat) (e:DataW H),es[i]?=some e->∃ (fd:Field) (p':List MemPlace),fs[i]?=some fd/\DataW.trod enc P w 0 sp held f fd.type ((cs.drop fd.offset).take (P.cellsOf fd.type))=some (e,p'))->K es->LX enc P w sp held f cs fs K
 | [],K,[],_,_,hK=>hK
 | fd :: r,K,e :: es,hl,h,hK=>by
  obtain⟨fd',p',h1,h2⟩:=h 0 e rfl
  obtain rfl:fd=fd':=by simpa using h1
  exact⟨e,p',h2,EH (es:=es) (by simpa using hl) (fun i e he=>by simpa using h (i+1) e (by simpa using he)) hK⟩
 | [],_,_ :: _,hl,_,_=>by simp at hl
 | _ :: _,_,[],hl,_,_=>by simp at hl
theorem kF {H:Type} {enc:g9×Value->H} {P:g7} {w:World} {sp:Nat->Bool} {held:Bool} {f:Nat} {T:g9} {cs:List Value} {d:DataW H} {p:List MemPlace} {fs:Array Field}
  (hT:P.underlying T=some (.struct fs)) (h:DataW.trod enc P w 0 sp held (f+1) T cs=some (d,p)):cs.length=P.cellsOf T/\LX enc P w sp held f cs fs.toList fun es=>d = .agg es:=by obtain⟨h1,parts,h2,h3,h4⟩:=trod_struct hT h;exact⟨h1,EH (by simpa using h3) (fun i e he=>by simpa using h4 i e he) h2⟩
end
end Go.Proofs.YtfbbfmcggbapoaaGreatDoor
end
section
namespace Go.Proofs.YtfbbfmcggbapoaaGreatDoor
structure ZF where
 lo:Int
 hi:Int
structure ZG where
 mj:Int
 mn:Int
 pt:Int
structure Rq where
 path:g6
 set:List ZF
structure Rl where
 path:g6
 ej:ZG
 reqs:List Rq
 ar:g6
 itf:g6
 ce:g6
 yk:Bool
structure Sel where
 path:g6
 ej:ZG
theorem ZG.ext' {a b:ZG} (h1:a.mj=b.mj) (h2:a.mn=b.mn) (h3:a.pt=b.pt):a=b:=by cases a;cases b;simp_all
theorem ZF.ext' {a b:ZF} (h1:a.lo=b.lo) (h2:a.hi=b.hi):a=b:=by cases a;cases b;simp_all
instance:DecidableEq ZF:=fun a b=>if h:a.lo=b.lo/\a.hi=b.hi then .isTrue (ZF.ext' h.1 h.2) else .isFalse fun e=>h (by subst e;exact⟨rfl,rfl⟩)
theorem Sel.ext' {a b:Sel} (h1:a.path=b.path) (h2:a.ej=b.ej):a=b:=by cases a;cases b;simp_all
instance:DecidableEq ZG:=fun a b=>if h:a.mj=b.mj/\a.mn=b.mn/\a.pt=b.pt then .isTrue (ZG.ext' h.1 h.2.1 h.2.2) else .isFalse fun e=>h (by subst e;exact⟨rfl,rfl,rfl⟩)
instance:DecidableEq Sel:=fun a b=>if h:a.path=b.path/\a.ej=b.ej then .isTrue (Sel.ext' h.1 h.2) else .isFalse fun e=>h (by subst e;exact⟨rfl,rfl⟩)
def Rl.key (r:Rl):Sel:=⟨r.path,r.ej⟩
def ZG.place (v:ZG):Int:=1000*v.mn+v.pt
def has (s:List ZF) (p:Int):Bool:=decide (0<=p)&&decide (p<1000000)&&s.any fun x=>decide (x.lo<=p)&&decide (p<x.hi)
def ag1 (q:Rq) (r:Rl):Bool:=decide (q.path=r.path)&&has q.set r.ej.place
inductive SY (l:List Rl) (roots:List Rq):Rl->Prop
 | root (q:Rq) (r:Rl) (hq:q∈roots) (hr:r∈l) (h:ag1 q r=true):SY l roots r
 | step (a:Rl) (q:Rq) (r:Rl) (ha:SY l roots a) (hq:q∈a.reqs) (hr:r∈l) (h:ag1 q r=true):SY l roots r
theorem SY.mem {l:List Rl} {roots:List Rq} {r:Rl} (h:SY l roots r):r∈l:=by cases h <;> assumption
theorem SY.mono {l:List Rl} {roots more:List Rq} (hm:∀ q∈roots,q∈more) {r:Rl} (h:SY l roots r):SY l more r:=by induction h with|root q r hq hr h=>exact .root q r (hm q hq) hr h|step a q r _ hq hr h ih=>exact .step a q r ih hq hr h
inductive acN (l:List Rl) (roots:List Rq):g6->Prop
 | root (q:Rq) (hq:q∈roots):acN l roots q.path
 | step (a:Rl) (q:Rq) (ha:a∈l) (hn:acN l roots a.path) (hq:q∈a.reqs):acN l roots q.path
theorem SY.sub {l m:List Rl} {roots:List Rq} (hlm:∀ r∈l,r∈m) {r:Rl} (h:SY l roots r):SY m roots r:=by induction h with|root q r hq hr h=>exact .root q r hq (hlm r hr) h|step a q r _ hq hr h ih=>exact .step a q r ih hq (hlm r hr) h
def gu (s:g6):List UInt8:=s.data.toList
end Go.Proofs.YtfbbfmcggbapoaaGreatDoor
end
section
namespace Go.Proofs.YtfbbfmcggbapoaaGreatDoor
open Go.Eng
variable [bJ]
open Nat renaming reduceAdd -> zA, reduceLT -> zB, reduceLeDiff -> zC, reduceMul -> zD, reduceEqDiff -> zE, reduceSub -> zF
def acO (s:ZF):V:=.agg [num s.lo,num s.hi]
def SZ (l:List ZF):V:=.slice (l.map acO)
def ag2 (q:Rq):V:=.agg [str q.path,SZ q.set]
def S1 (l:List Rq):V:=.slice (l.map ag2)
def acP (s:Sel):V:=.agg [str s.path,num s.ej.mj,num s.ej.mn,num s.ej.pt]
def Xn (l:List Sel):V:=.slice (l.map acP)
def Xo (r:Rl):List V:=[str r.path,num r.ej.mj,num r.ej.mn,num r.ej.pt,S1 r.reqs,str r.ar,str r.itf,str r.ce,bl r.yk]
def ag3 (r:Rl):V:=.agg (Xo r)
def acQ (l:List Rl):V:=.slice (l.map ag3)
attribute [go_sem] SZ S1 Xn acQ
theorem acR {s e:g6} (he:e.size=0) (h:(!(s.toList==e.toList))=true):∃ c,s[0]?=some c:=by
 refine er (s:=s) (i:=0) ?_;rcases Dt s.size with hz|hz
 ·exfalso;(have e1:s.toList=e.toList:=by rw [ByteArray.toList_eq,ByteArray.toList_eq];(have a1:s.data.toList=[]:=by simpa [<- b9,gD] using hz);(have a2:e.data.toList=[]:=by simpa [<- b9,gD] using he);rw [a1,a2]);rw [e1] at h;simp at h
 exact hz
def GD (c:Int):Bool:=decide (97<=c)&&decide (c<=122)
def PM (c:Int):Bool:=decide (65<=c)&&decide (c<=90)
def lh (c:Int):Bool:=decide (48<=c)&&decide (c<=57)
def uV (c:Int):Bool:=GD c||PM c||lh c||decide (c=95)
def DX (c:Int):Bool:=GD c||lh c
def mC (p:Int->Bool) (s:g6):Bool:=s.data.toList.all fun b=>p b.toNat
def eT (s:g6) (i:Nat):Int:=match s[i]? with|some c=>c.toNat|none=>0
theorem tD {s:g6} {i:Nat} {c:UInt8} (h:s[i]?=some c):s.data.toList[i]?=some c:=by
 obtain⟨h1,h2⟩:=getElem?_eq_some_iff.1 h;have h3:i<s.data.toList.length:=by simpa using h1
 rw [bf h3];exact yJ some (by rw [Array.getElem_toList];exact h2)
theorem ff {s:g6} {i:Nat} {c:UInt8} (h:s[i]?=some c):eT s i=c.toNat:=by unfold eT;rw [h]
theorem qL {p:Int->Bool} {s:g6} (h:∀ j<s.size,∀ b,s[j]?=some b->p b.toNat=true):mC p s=true:=by
 refine ba.2 fun b hb=>?_;obtain⟨j,hj⟩:=br.1 hb;have h1:j<s.size:=by have:=(az.1 hj).1;simpa using this
 obtain⟨c,hc⟩:=er h1;have:=tD hc;rw [hj] at this;cases this;exact h j h1 b hc
theorem oT {p:Int->Bool} {s:g6} {j:Nat} {b:UInt8} (h:s[j]?=some b) (hp:p b.toNat=false):mC p s=false:=by have hm:=aw (tD h);cases ha:mC p s with|false=>rfl|true=>have:=ba.1 ha b hm;rw [hp] at this;cases this
def iv (s:g6):Bool:=decide (1<=s.size)&&decide (s.size<=32)&&PM (eT s 0)&&mC uV s
theorem AW {s e:g6} (he:e.size=0) (h:(!(s.toList==e.toList))=true):1<=s.size:=by obtain⟨c,hc⟩:=acR he h;exact (getElem?_eq_some_iff.1 hc).1
theorem xv {s e:g6} (he:e.size=0) (h:(!(s.toList==e.toList))=false):s.size=0:=by
 have e1:s.toList=e.toList:=by simpa using h
 rw [ByteArray.toList_eq,ByteArray.toList_eq] at e1;have:=yJ List.length e1;simp only [gD] at this;exact Eq.trans this he
theorem Ck (c:Int):Cn 239 [.sc (.int .u8 c)] (bl (GD c)):=by refine cM [] 9 [.tmp 2] Tryz.func239 Tryz.call239 fun K hK=>?_;repeat' (simp only [go_sem];first|apply bE <;> intro hg|(exact hK _ (yJ bl (by simp_all [GD] <;> (intros;omega)))))
theorem Cl (c:Int):Cn 236 [.sc (.int .u8 c)] (bl (PM c)):=by refine cM [] 9 [.tmp 2] Tryz.func236 Tryz.call236 fun K hK=>?_;repeat' (simp only [go_sem];first|apply bE <;> intro hg|(exact hK _ (yJ bl (by simp_all [PM] <;> (intros;omega)))))
theorem xw (c:Int):Cn 245 [.sc (.int .u8 c)] (bl (lh c)):=by refine cM [] 9 [.tmp 2] Tryz.func245 Tryz.call245 fun K hK=>?_;repeat' (simp only [go_sem];first|apply bE <;> intro hg|(exact hK _ (yJ bl (by simp_all [lh] <;> (intros;omega)))))
theorem yN (c:Int):Cn 156 [.sc (.int .u8 c)] (bl (GD c)):=by refine cM [] 9 [.tmp 2] Tryz.func156 Tryz.call156 fun K hK=>?_;repeat' (simp only [go_sem];first|apply bE <;> intro hg|(exact hK _ (yJ bl (by simp_all [GD] <;> (intros;omega)))))
theorem z7 (c:Int):Cn 157 [.sc (.int .u8 c)] (bl (PM c)):=by refine cM [] 9 [.tmp 2] Tryz.func157 Tryz.call157 fun K hK=>?_;repeat' (simp only [go_sem];first|apply bE <;> intro hg|(exact hK _ (yJ bl (by simp_all [PM] <;> (intros;omega)))))
theorem ux (c:Int):Cn 153 [.sc (.int .u8 c)] (bl (lh c)):=by refine cM [] 9 [.tmp 2] Tryz.func153 Tryz.call153 fun K hK=>?_;repeat' (simp only [go_sem];first|apply bE <;> intro hg|(exact hK _ (yJ bl (by simp_all [lh] <;> (intros;omega)))))
theorem NI (c:Int):Cn 238 [.sc (.int .u8 c)] (bl (uV c)):=by refine cM [] 17 [.tmp 2] Tryz.func238 Tryz.call238 fun K hK=>?_;simp only [go_sem];refine cL (Ck _) ?_;repeat' (simp only [go_sem];first|apply bE <;> intro hg|refine cL (Cl _) ?_|refine cL (xw _) ?_|(exact hK _ (yJ bl (by simp_all [uV]))))
theorem S2 (c:Int):Cn 155 [.sc (.int .u8 c)] (bl (uV c)):=by refine cM [] 17 [.tmp 2] Tryz.func155 Tryz.call155 fun K hK=>?_;simp only [go_sem];refine cL (yN _) ?_;repeat' (simp only [go_sem];first|apply bE <;> intro hg|refine cL (z7 _) ?_|refine cL (ux _) ?_|(exact hK _ (yJ bl (by simp_all [uV]))))
theorem ag4 (c:Int):Cn 244 [.sc (.int .u8 c)] (bl (DX c)):=by refine cM [] 9 [.tmp 2] Tryz.func244 Tryz.call244 fun K hK=>?_;simp only [go_sem];refine cL (Ck _) ?_;repeat' (simp only [go_sem];first|apply bE <;> intro hg|refine cL (xw _) ?_|(exact hK _ (yJ bl (by simp_all [DX]))))
theorem Cm (g:FuncId) (p:Int->Bool) (hg:∀ c:Int,Cn g [.sc (.int .u8 c)] (bl (p c))) (s:g6) (hs:s.size<=1048576):Cn 237 [str s,.sc (.func (.func g) #[] #[])] (bl (mC p s)):=by
 refine cM [] 18 [.tmp 4] Tryz.func237 Tryz.call237 fun K hK=>?_;have rJ:ak.underlying 9=some .string:=kr;have sl:=zY;simp only [sl,go_sem];refine di tt_ok [] [8] 0 [0,1,7] (fun vs=>((s.size:Int)-Go.Eng.intOf (vs.headD .undef)).toNat) (fun vs=>∃ i:Nat,vs=[num i]/\i<=s.size/\∀ j<i,∀ b,s[j]?=some b->p b.toNat=true) (by omega) (by simp only [sl,go_sem]) (⟨0,rfl,aY _,fun j hj=>absurd hj (bR j)⟩) fun vs hI Z1 dm=>?_;obtain⟨i,rfl,hi,lH⟩:=hI;simp only [sl,go_sem];apply bE <;> intro kj;·have bH:=jq kj;have hw:=bj i (by omega);obtain⟨c,su⟩:=er (s:=s) (i:=i) bH;have ic:=eM (P:=ak) s rJ .i64 (i:Int) (by omega) (c:=c) (show s[((i:Nat):Int).toNat]?=some c from su);simp only [hw,ic,sl,go_sem];refine cL (hg _) ?_;simp only [hw,ic,sl,go_sem];apply bE <;> intro iG;(·have cj:false=mC p s:=(oT su (by simpa using iG)).symm;simp only [hw,ic,sl,go_sem];exact hK _ (yJ bl cj));simp only [hw,ic,sl,go_sem];refine dm _ (fN (by omega) (by simp only [hw,ic,sl,go_sem]) ?_ ?_) <;> simp only [eO,lk,reduceIte,zE];(·refine⟨i+1,rfl,bH,fun j hj b hb=>?_⟩;(rcases bn j i with h|h);(·exact lH j h b hb);(obtain rfl:j=i:=by omega);rw [su] at hb;cases hb;simpa using iG);simp only [Go.Eng.intOf,a7];omega
 have fP:=ki kj;have cj:true=mC p s:=(qL fun j hj b hb=>lH j (by omega) b hb).symm;simp only [sl,go_sem];exact hK _ (yJ bl cj)
theorem Jb (s:g6) (hs:s.size<=1048576):Cn 224 [str s] (bl (mC uV s)):=by
 refine cM [] 15 [.tmp 2] Tryz.func224 Tryz.call224 fun K hK=>?_;have rJ:ak.underlying 9=some .string:=kr;have sl:=zY;simp only [sl,go_sem];refine di tt_ok [] [3] 0 [0] (fun vs=>((s.size:Int)-Go.Eng.intOf (vs.headD .undef)).toNat) (fun vs=>∃ i:Nat,vs=[num i]/\i<=s.size/\∀ j<i,∀ b,s[j]?=some b->uV b.toNat=true) (by omega) (by simp only [sl,go_sem]) (⟨0,rfl,aY _,fun j hj=>absurd hj (bR j)⟩) fun vs hI Z1 dm=>?_;obtain⟨i,rfl,hi,lH⟩:=hI;simp only [sl,go_sem];apply bE <;> intro NJ;·have bH:=jq NJ;have hw:=bj i (by omega);obtain⟨c,su⟩:=er (s:=s) (i:=i) bH;have ic:=eM (P:=ak) s rJ .i64 (i:Int) (by omega) (c:=c) (show s[((i:Nat):Int).toNat]?=some c from su);simp only [hw,ic,sl,go_sem];refine cL (S2 _) ?_;simp only [hw,ic,sl,go_sem];apply bE <;> intro mG;(·have cj:false=mC uV s:=(oT su (by simpa using mG)).symm;simp only [hw,ic,sl,go_sem];exact hK _ (yJ bl cj));simp only [hw,ic,sl,go_sem];refine dm _ (fN (by omega) (by simp only [hw,ic,sl,go_sem]) ?_ ?_) <;> simp only [eO,lk,reduceIte,zE];(·refine⟨i+1,rfl,bH,fun j hj b hb=>?_⟩;(rcases bn j i with h|h);(·exact lH j h b hb);(obtain rfl:j=i:=by omega);rw [su] at hb;cases hb;simpa using mG);simp only [Go.Eng.intOf,a7];omega
 have fP:=ki NJ;have cj:true=mC uV s:=(qL fun j hj b hb=>lH j (by omega) b hb).symm;simp only [sl,go_sem];exact hK _ (yJ bl cj)
def S3 (a b:g6):Bool:=Op.bytesLess a.toList b.toList
theorem cY (a b:g6):(a.toList==b.toList)=decide (a=b):=by rw [jA,beq_iff_eq,decide_eq_true_eq];refine⟨fun h=>?_,fun h=>by rw [h]⟩;rw [ByteArray.toList_eq,ByteArray.toList_eq] at h;cases a;cases b;congr 1;exact ake.1 h
theorem GF (a b:g6):S3 a b=decide (a.data.toList<b.data.toList):=by unfold S3;rw [Proofs.bytesLess_eq,ByteArray.toList_eq,ByteArray.toList_eq]
def yO (a b:g6):Int:=if S3 a b=true then -1 else if a=b then 0 else 1
theorem ka {α:Type} {q:α->Bool} {l:List α} {i:Nat} {x:α} (h:l[i]?=some x) (hq:q x=true):l.any q=true:=u1.2 ⟨x,aw h,hq⟩
theorem any_none {α:Type} {q:α->Bool} {l:List α} (h:∀ j<l.length,∀ x,l[j]?=some x->q x=false):l.any q=false:=by rw [n7];intro x hx;obtain⟨j,hj⟩:=br.1 hx;rw [h j (az.1 hj).1 x hj];simp
def qk (s:g6) (l:List g6):Bool:=l.any fun b=>decide (s=b)
theorem AX {s:g6} {l:List g6}:qk s l=true↔s∈l:=by unfold qk;simp
end Go.Proofs.YtfbbfmcggbapoaaGreatDoor
end
