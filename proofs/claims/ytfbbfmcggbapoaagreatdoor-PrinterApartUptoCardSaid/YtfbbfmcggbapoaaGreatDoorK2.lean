import Derived.Test.YtfbbfmcggbapoaaGreatDoorK1
import Derived.Test.YtfbbfmcggbapoaaGreatDoorRows
import Derived.Sort.Walk0
open Array renaming length_toList→fA,toList_inj→aiS
open Bool renaming eq_iff_iff→ajO
open Go.Proofs.Tryz renaming prog→aj
open List renaming all_eq_true→aN,any_eq_false→km,any_eq_true→tP,drop_drop→aup,drop_eq_nil_of_le→eH,getElem?_eq_getElem→au,getElem?_eq_some_iff→aA,getElem?_map→aq,headD_cons→cg,length_eq_zero_iff→cb,length_map→ax,mapM_cons→atU,mem_append→eA,mem_iff_getElem?→bB,mem_of_getElem?→aE,take_append_drop→nB
open Nat renaming add_assoc→lT,eq_zero_or_pos→atC,lt_or_ge→bS,not_lt_zero→iH,zero_le→ck
open Option renaming bind_some→at2,map_eq_some_iff→aY
open Prod.mk renaming injEq→dn
set_option linter.all false
section
namespace Go.Proofs.YtfbbfmcggbapoaaGreatDoor
open Go.Eng
variable [ba]
set_option maxHeartbeats 4000000
set_option maxRecDepth 100000
section
section
variable {H:Type} {enc:TypeId×Value→H} {P:Program} {w:World} {sp:Nat→Bool} {held:Bool} {f:Nat} {T:TypeId} {cs:List Value} {d:DataW H} {p:List MemPlace}
theorem trod_bool (hT:P.underlying T=some .bool) (h:DataW.trod enc P w 0 sp held (f+1) T cs=some (d,p)):∃ b,cs=[.bool b]∧d = .lit (.bool b):=by unfold DataW.trod at h;rw [hT] at h;split at h <;> simp_all
theorem trod_string (hT:P.underlying T=some .string) (h:DataW.trod enc P w 0 sp held (f+1) T cs=some (d,p)):∃ s,cs=[.string s]∧d = .lit (.string s.data.toList):=by unfold DataW.trod at h;rw [hT] at h;split at h <;> simp_all
theorem vS {α β:Type} {g:α→Option β}:∀ {l:List α} {r:List β},l.mapM g=some r→r.length=l.length∧∀ (i:Nat) (b:β),r[i]?=some b→∃ a:α,l[i]?=some a∧g a=some b
 | [],r,h=>by simp at h;subst h;simp
 | a :: l,r,h=>by
  rw [atU] at h
  cases h1:g a with
  | none=>rw [h1] at h;simp at h
  | some b =>
   rw [h1] at h
   cases h2:l.mapM g with
   | none=>rw [h2] at h;simp at h
   | some r' =>
    rw [h2] at h
    simp at h
    subst h
    obtain⟨e1,e2⟩:=vS h2
    refine⟨by simp [e1],fun i b' hb=>?_⟩
    cases i with
    | zero=>simp at hb;subst hb;exact⟨a,rfl,h1⟩
    | succ i=>simpa using e2 i b' (by simpa using hb)
theorem trod_slice {T':TypeId} (hT:P.underlying T=some (.slice T')) (h:DataW.trod enc P w 0 sp held (f+1) T cs=some (d,p)) :
  (cs=[.slice none 0 0]∧d = .nil)∨∃ (a:Addr) (cap:Nat) (elems spare:List (DataW H)),cs=[.slice (some a) elems.length cap]∧d = .slice elems spare∧elems.length≤cap ∧
   ∀ (i:Nat) (e:DataW H),elems[i]?=some e→∃ tW p',w.cells? 0 (a.add (i*P.cellsOf T')) (P.cellsOf T')=some tW∧DataW.trod enc P w 0 sp held f T' tW=some (e,p'):=by
 unfold DataW.trod at h;rw [hT] at h;split at h <;> try (simp at *;done)
 ·rename_i e' h1 h2;simp at h;exact .inl ⟨rfl,h.1.symm⟩
 rename_i e' a len cap h1;obtain rfl:T'=e':=by simpa using h1
 refine .inr ?_;dsimp only at h;split at h;·rename_i hb;cases h3:(List.range len).mapM (fun i=>(w.cells? 0 (a.add (i*P.cellsOf T')) (P.cellsOf T')).bind (DataW.trod enc P w 0 sp held f T')) with|none=>rw [h3] at h;simp at h|some elems =>rw [h3] at h;obtain⟨e1,e2⟩:=vS h3;simp only [at2,aY] at h;obtain⟨rest,-,h5⟩:=h;simp only [dn] at h5;(have hl:elems.length=len:=by simpa using e1);refine⟨a,cap,elems.map (·.1),rest.map (·.1),by rw [ax,hl],h5.1.symm,by rw [ax,hl];exact hb.2.1,fun i e he=>?_⟩;rw [aq,aY] at he;obtain⟨x,hx,rfl⟩:=he;obtain⟨j,hj,hg⟩:=e2 i x hx;(have Ig:j=i:=by obtain⟨bQ,hv⟩:=aA.1 hj;simpa using hv.symm);subst Ig;rw [Option.bind_eq_some_iff] at hg;obtain⟨tW,hc,ht⟩:=hg;exact⟨tW,x.2,hc,ht⟩
 simp at h
theorem trod_struct {fs:Array Field} (hT:P.underlying T=some (.struct fs)) (h:DataW.trod enc P w 0 sp held (f+1) T cs=some (d,p)) :
  cs.length=P.cellsOf T∧∃ parts:List (DataW H),d = .agg parts∧parts.length=fs.size ∧
   ∀ (i:Nat) (e:DataW H),parts[i]?=some e→∃ (fd:Field) (p':List MemPlace),fs[i]?=some fd∧DataW.trod enc P w 0 sp held f fd.type ((cs.drop fd.offset).take (P.cellsOf fd.type))=some (e,p'):=by
 unfold DataW.trod at h;rw [hT] at h;split at h <;> try (simp at *;done)
 rename_i fs' h1;obtain rfl:fs=fs':=by simpa using h1
 split at h;·rename_i hl;refine⟨hl,?_⟩;rw [aY] at h;obtain⟨xs,h3,h4⟩:=h;simp only [dn] at h4;obtain⟨e1,e2⟩:=vS h3;refine⟨xs.map (·.1),h4.1.symm,by rw [ax,e1];simp,fun i e he=>?_⟩;rw [aq,aY] at he;obtain⟨x,hx,rfl⟩:=he;obtain⟨fd,hj,hg⟩:=e2 i x hx;exact⟨fd,x.2,by simpa using hj,hg⟩
 simp at h
end
end
section
def Rd (F:Addr→Option Value) (hg:Gl F) (vs:List V) (cs:List Value):Prop:=cU ⟨F,fun _ _=>none,hg⟩ vs cs∧∀ c∈cs,c.oneCell'=true
section
variable {F:Addr→Option Value} {hg:Gl F}
theorem Jo {v:Value} (h:v.oneCell'=true):Rd F hg [.sc v] [v]:=⟨.cons (.sc _ _) (.nil _),by simpa using h⟩
theorem gE {a b:List V} {cs:List Value} {off n:Nat} (h1:Rd F hg a ((cs.drop off).take n)) (h2:Rd F hg b (cs.drop (off+n))):Rd F hg (a++b) (cs.drop off):=by
 have e:cs.drop off=(cs.drop off).take n++cs.drop (off+n):=by rw [← aup,nB]
 rw [e];refine⟨.append h1.1 h2.1,fun c hc=>?_⟩;rcases eA.1 hc with hc|hc
 ·exact h1.2 c hc
 exact h2.2 c hc
theorem QM {cs:List Value} {off:Nat} (h:cs.length=off):Rd F hg [] (cs.drop off):=by rw [eH (by omega)];exact⟨.nil _,by simp⟩
theorem Eu (a:Addr) (x y:Nat):(a.add x).add y=a.add (x+y):=by
 unfold Addr.add;by_cases hx:x=0;·subst hx;simp
 by_cases hy:y=0;·subst hy;simp
 simp [hx,hy,lT]
theorem GQ {α β:Type} {R:Nat→β→α→Prop}:∀ {es:List β},(∀ (i:Nat) (e:β),es[i]?=some e→∃ a:α,R i e a)→∃ l:List α,l.length=es.length∧∀ (i:Nat) (e:β) (a:α),es[i]?=some e→l[i]?=some a→R i e a:=by intro es;induction es generalizing R with|nil=>intro _;exact⟨[],rfl,by simp⟩|cons e r ih =>intro h;obtain⟨a,ha⟩:=h 0 e rfl;obtain⟨l,hl,hr⟩:=ih (R:=fun i=>R (i+1)) fun i e he=>h (i+1) e (by simpa using he);refine⟨a :: l,by simp [hl],fun i e' a' he ha'=>?_⟩;cases i with|zero=>simp at he ha';subst he;subst ha';exact ha|succ i=>exact hr i e' a' (by simpa using he) (by simpa using ha')
theorem yv {H α:Type} {g:α→Nat}:∀ {l:List α} {es:List (DataW H)},l.length=es.length→(∀ (i:Nat) (e:DataW H) (a:α),es[i]?=some e→l[i]?=some a→g a≤Rows.uptoBulk e)→aM g l≤Rows.uptoBulkAll es
 | [],[],_,_=>by simp [aM]
 | a :: l,e :: es,hl,h=>by
  have h1:=h 0 e a rfl rfl
  have h2:=yv (l:=l) (es:=es) (g:=g) (by simpa using hl) fun i e a he ha=>h (i+1) e a (by simpa using he) (by simpa using ha)
  simp only [aM,Rows.uptoBulkAll];omega
 | [],_ :: _,hl,_=>by simp at hl
 | _ :: _,[],hl,_=>by simp at hl
theorem QN {H:Type} {enc:TypeId×Value→H} {P:Program} {w:World} {sp:Nat→Bool} {held:Bool} {f:Nat} {T T':TypeId} {α:Type} {row:α→V} {g:α→Nat} {n:Nat}
  (hF:F=w.cell?) (hT:P.underlying T=some (.slice T')) (hn:P.cellsOf T'=n)
  (hr:∀ {cs:List Value} {d:DataW H} {p:List MemPlace},DataW.trod enc P w 0 sp held f T' cs=some (d,p)→∃ a:α,Rd F hg (row a).cells cs∧g a≤Rows.uptoBulk d)
  {cs:List Value} {d:DataW H} {p:List MemPlace} (h:DataW.trod enc P w 0 sp held (f+1) T cs=some (d,p)) :
  ∃ l:List α,Rd F hg [.slice (l.map row)] cs∧aM g l+1≤Rows.uptoBulk d:=by
 rcases trod_slice hT h with ⟨rfl,rfl⟩|⟨a,cap,elems,spare,rfl,rfl,hc,he⟩
 ·exact⟨[],⟨.cons (.slice _ [] none 0 0 default (fun _ _=>default) (by simp) (by simp) (by simp) (by simp) (by simp) (by simp)) (.nil _),by simp [Value.oneCell']⟩,by simp [aM,Rows.uptoBulk]⟩
 obtain⟨l,hl,hR⟩:=GQ (es:=elems) (R:=fun i e (x:α)=>∃ tW:List Value,w.cells? 0 (a.add (i*P.cellsOf T')) (P.cellsOf T')=some tW∧Rd F hg (row x).cells tW∧g x≤Rows.uptoBulk e) fun i e hi=>by obtain⟨tW,p',h1,h2⟩:=he i e hi;obtain⟨x,h3,h4⟩:=hr h2;exact⟨x,tW,h1,h3,h4⟩
 rw [hn] at hR;have key:∀ (i:Nat) (x:α),l[i]?=some x→∃ tW:List Value,Rd F hg (row x).cells tW∧(row x).cells.length=n∧∀ (j:Nat) (c:Value),tW[j]?=some c→F (a.add (i*n+j))=some c:=fun i x hx=>by obtain⟨e,hei⟩:∃ e,elems[i]?=some e:=⟨_,au (by rw [← hl];exact (aA.1 hx).1)⟩;obtain⟨tW,h1,h2,-⟩:=hR i e x hei hx;unfold World.cells? at h1;rw [if_pos (ck _)] at h1;obtain⟨e1,e2⟩:=vS h1;refine⟨tW,h2,by rw [h2.1.1,e1];simp,fun j c hj=>?_⟩;obtain⟨k,hk,WD⟩:=e2 j c hj;(have hkj:k=j:=by obtain⟨bQ,hv⟩:=aA.1 hk;simpa using hv.symm);subst hkj;rw [Eu] at WD;rw [hF];exact WD
 have cell:∀ (i:Nat) (r:V) (j:Nat) (c:V),(l.map row)[i]?=some r→r.cells[j]?=some c→∃ x,F (a.add (i*n+j))=some x∧x.oneCell'=true∧cT ⟨F,fun _ _=>none,hg⟩ c x:=fun i r j c hi hj=>by rw [aq,aY] at hi;obtain⟨x,hx,rfl⟩:=hi;obtain⟨tW,h2,-,h3⟩:=key i x hx;obtain⟨y,hy,j4⟩:=h2.1.get hj;exact⟨y,h3 j y hy,h2.2 y (aE hy),j4⟩
 refine⟨l,⟨.cons ?_ (.nil _),by simp [Value.oneCell']⟩,?_⟩
 ·have:=cT.slice ⟨F,fun _ _=>none,hg⟩ (l.map row) (some a) cap n a (fun i j=>(F (a.add (i*n+j))).getD default) (fun _=>rfl) (by rw [ax,hl];exact hc)
   (fun i r hi=>by
    rw [aq,aY] at hi
    obtain⟨x,hx,rfl⟩:=hi
    obtain⟨_,-,h,-⟩:=key i x hx
    exact h)
   (fun i r j c hi hj=>by obtain⟨x,h,-,-⟩:=cell i r j c hi hj;show F _=some ((F _).getD _);rw [h];rfl)
   (fun i r j c hi hj=>by obtain⟨x,h,h',-⟩:=cell i r j c hi hj;show Value.oneCell' ((F _).getD _)=true;rw [h];exact h')
   (fun i r j c hi hj=>by obtain⟨x,h,-,h'⟩:=cell i r j c hi hj;show cT _ c ((F _).getD _);rw [h];exact h')
  rwa [ax,hl] at this
 have:=yv (g:=g) hl fun i e x he hx=>by obtain⟨_,-,-,h⟩:=hR i e x he hx;exact h
 simp only [Rows.uptoBulk];omega
end
def Jp {H:Type} (enc:TypeId×Value→H) (P:Program) (w:World) (sp:Nat→Bool) (held:Bool) (f:Nat) (cs:List Value):List Field→(List (DataW H)→Prop)→Prop
 | [],K=>K []
 | fd :: r,K=>∃ (e:DataW H) (p:List MemPlace),DataW.trod enc P w 0 sp held f fd.type ((cs.drop fd.offset).take (P.cellsOf fd.type))=some (e,p)∧Jp enc P w sp held f cs r fun es=>K (e :: es)
theorem C5 {H:Type} {enc:TypeId×Value→H} {P:Program} {w:World} {sp:Nat→Bool} {held:Bool} {f:Nat} {cs:List Value}:∀ {fs:List Field} {K:List (DataW H)→Prop} {es:List (DataW H)},es.length=fs.length →
  (∀ (i:Nat) (e:DataW H),es[i]?=some e→∃ (fd:Field) (p':List MemPlace),fs[i]?=some fd∧DataW.trod enc P w 0 sp held f fd.type ((cs.drop fd.offset).take (P.cellsOf fd.type))=some (e,p'))→K es→Jp enc P w sp held f cs fs K
 | [],K,[],_,_,hK=>hK
 | fd :: r,K,e :: es,hl,h,hK=>by
  obtain⟨fd',p',h1,h2⟩:=h 0 e rfl
  obtain rfl:fd=fd':=by simpa using h1
  exact⟨e,p',h2,C5 (es:=es) (by simpa using hl) (fun i e he=>by simpa using h (i+1) e (by simpa using he)) hK⟩
 | [],_,_ :: _,hl,_,_=>by simp at hl
 | _ :: _,_,[],hl,_,_=>by simp at hl
theorem qw {H:Type} {enc:TypeId×Value→H} {P:Program} {w:World} {sp:Nat→Bool} {held:Bool} {f:Nat} {T:TypeId} {cs:List Value} {d:DataW H} {p:List MemPlace} {fs:Array Field}
  (hT:P.underlying T=some (.struct fs)) (h:DataW.trod enc P w 0 sp held (f+1) T cs=some (d,p)):cs.length=P.cellsOf T∧Jp enc P w sp held f cs fs.toList fun es=>d = .agg es:=by obtain⟨h1,parts,h2,h3,h4⟩:=trod_struct hT h;exact⟨h1,C5 (by simpa using h3) (fun i e he=>by simpa using h4 i e he) h2⟩
end
end Go.Proofs.YtfbbfmcggbapoaaGreatDoor
end
section
namespace Go.Proofs.YtfbbfmcggbapoaaGreatDoor
set_option maxHeartbeats 4000000
set_option maxRecDepth 100000
structure XG where
 lo:Int
 hi:Int
structure XH where
 mj:Int
 mn:Int
 pt:Int
structure Rq where
 path:ByteArray
 set:List XG
structure Rl where
 path:ByteArray
 dI:XH
 reqs:List Rq
 ar:ByteArray
 itf:ByteArray
 ce:ByteArray
 yk:Bool
structure Sel where
 path:ByteArray
 dI:XH
theorem XH.ext' {a b:XH} (h1:a.mj=b.mj) (h2:a.mn=b.mn) (h3:a.pt=b.pt):a=b:=by cases a;cases b;simp_all
theorem XG.ext' {a b:XG} (h1:a.lo=b.lo) (h2:a.hi=b.hi):a=b:=by cases a;cases b;simp_all
instance:DecidableEq XG:=fun a b=>if h:a.lo=b.lo∧a.hi=b.hi then .isTrue (XG.ext' h.1 h.2) else .isFalse fun e=>h (by subst e;exact⟨rfl,rfl⟩)
theorem Sel.ext' {a b:Sel} (h1:a.path=b.path) (h2:a.dI=b.dI):a=b:=by cases a;cases b;simp_all
instance:DecidableEq XH:=fun a b=>if h:a.mj=b.mj∧a.mn=b.mn∧a.pt=b.pt then .isTrue (XH.ext' h.1 h.2.1 h.2.2) else .isFalse fun e=>h (by subst e;exact⟨rfl,rfl,rfl⟩)
instance:DecidableEq Sel:=fun a b=>if h:a.path=b.path∧a.dI=b.dI then .isTrue (Sel.ext' h.1 h.2) else .isFalse fun e=>h (by subst e;exact⟨rfl,rfl⟩)
def Rl.key (r:Rl):Sel:=⟨r.path,r.dI⟩
def XH.place (v:XH):Int:=1000*v.mn+v.pt
def has (s:List XG) (p:Int):Bool:=decide (0≤p)&&decide (p<1000000)&&s.any fun x=>decide (x.lo≤p)&&decide (p<x.hi)
def afa (q:Rq) (r:Rl):Bool:=decide (q.path=r.path)&&has q.set r.dI.place
inductive QO (l:List Rl) (roots:List Rq):Rl→Prop
 | root (q:Rq) (r:Rl) (hq:q∈roots) (hr:r∈l) (h:afa q r=true):QO l roots r
 | step (a:Rl) (q:Rq) (r:Rl) (ha:QO l roots a) (hq:q∈a.reqs) (hr:r∈l) (h:afa q r=true):QO l roots r
theorem QO.mem {l:List Rl} {roots:List Rq} {r:Rl} (h:QO l roots r):r∈l:=by cases h <;> assumption
theorem QO.mono {l:List Rl} {roots more:List Rq} (hm:∀ q∈roots,q∈more) {r:Rl} (h:QO l roots r):QO l more r:=by induction h with|root q r hq hr h=>exact .root q r (hm q hq) hr h|step a q r _ hq hr h ih=>exact .step a q r ih hq hr h
inductive aar (l:List Rl) (roots:List Rq):ByteArray→Prop
 | root (q:Rq) (hq:q∈roots):aar l roots q.path
 | step (a:Rl) (q:Rq) (ha:a∈l) (hn:aar l roots a.path) (hq:q∈a.reqs):aar l roots q.path
theorem QO.sub {l m:List Rl} {roots:List Rq} (hlm:∀ r∈l,r∈m) {r:Rl} (h:QO l roots r):QO m roots r:=by induction h with|root q r hq hr h=>exact .root q r hq (hlm r hr) h|step a q r _ hq hr h ih=>exact .step a q r ih hq (hlm r hr) h
end Go.Proofs.YtfbbfmcggbapoaaGreatDoor
end
section
namespace Go.Proofs.YtfbbfmcggbapoaaGreatDoor
open Go.Eng
variable [ba]
open Nat renaming reduceAdd → zA, reduceLT → zB, reduceLeDiff → zC, reduceMul → zD, reduceEqDiff → zE, reduceSub → zF
set_option maxHeartbeats 4000000
set_option maxRecDepth 100000
def aat (s:XG):V:=.agg [num s.lo,num s.hi]
def QP (l:List XG):V:=.slice (l.map aat)
def afb (q:Rq):V:=.agg [str q.path,QP q.set]
def QQ (l:List Rq):V:=.slice (l.map afb)
def aau (s:Sel):V:=.agg [str s.path,num s.dI.mj,num s.dI.mn,num s.dI.pt]
def Vj (l:List Sel):V:=.slice (l.map aau)
def Vk (r:Rl):List V:=[str r.path,num r.dI.mj,num r.dI.mn,num r.dI.pt,QQ r.reqs,str r.ar,str r.itf,str r.ce,bl r.yk]
def afc (r:Rl):V:=.agg (Vk r)
def aav (l:List Rl):V:=.slice (l.map afc)
attribute [go_sem] QP QQ Vj aav
theorem aaw {s e:ByteArray} (he:e.size=0) (h:(!(s.toList==e.toList))=true):∃ c,s[0]?=some c:=by
 refine ji (s:=s) (i:=0) ?_;rcases atC s.size with hz|hz
 ·exfalso;(have e1:s.toList=e.toList:=by rw [ByteArray.toList_eq,ByteArray.toList_eq];(have a1:s.data.toList=[]:=by simpa [← cb,fA] using hz);(have a2:e.data.toList=[]:=by simpa [← cb,fA] using he);rw [a1,a2]);rw [e1] at h;simp at h
 exact hz
def vT (c:Int):Bool:=decide (97≤c)&&decide (c≤122)
def yQ (c:Int):Bool:=decide (65≤c)&&decide (c≤90)
def uL (c:Int):Bool:=decide (48≤c)&&decide (c≤57)
def GR (c:Int):Bool:=vT c||yQ c||uL c||decide (c=95)
def Vl (c:Int):Bool:=vT c||uL c
def ss (p:Int→Bool) (s:ByteArray):Bool:=s.data.toList.all fun b=>p b.toNat
def lF (s:ByteArray) (i:Nat):Int:=match s[i]? with|some c=>c.toNat|none=>0
theorem AR {s:ByteArray} {i:Nat} {c:UInt8} (h:s[i]?=some c):s.data.toList[i]?=some c:=by
 obtain⟨h1,h2⟩:=getElem?_eq_some_iff.1 h;have h3:i<s.data.toList.length:=by simpa using h1
 rw [au h3];exact congrArg some (by rw [Array.getElem_toList];exact h2)
theorem kR {s:ByteArray} {i:Nat} {c:UInt8} (h:s[i]?=some c):lF s i=c.toNat:=by unfold lF;rw [h]
theorem Nc {p:Int→Bool} {s:ByteArray} (h:∀ j<s.size,∀ b,s[j]?=some b→p b.toNat=true):ss p s=true:=by
 refine aN.2 fun b hb=>?_;obtain⟨j,hj⟩:=bB.1 hb;have h1:j<s.size:=by have:=(aA.1 hj).1;simpa using this
 obtain⟨c,hc⟩:=ji h1;have:=AR hc;rw [hj] at this;cases this;exact h j h1 b hc
theorem Jq {p:Int→Bool} {s:ByteArray} {j:Nat} {b:UInt8} (h:s[j]?=some b) (hp:p b.toNat=false):ss p s=false:=by have hm:=aE (AR h);cases ha:ss p s with|false=>rfl|true=>have:=aN.1 ha b hm;rw [hp] at this;cases this
def jx (s:ByteArray):Bool:=decide (1≤s.size)&&decide (s.size≤32)&&yQ (lF s 0)&&ss GR s
theorem zr {s e:ByteArray} (he:e.size=0) (h:(!(s.toList==e.toList))=true):1≤s.size:=by obtain⟨c,hc⟩:=aaw he h;exact (getElem?_eq_some_iff.1 hc).1
theorem vU {s e:ByteArray} (he:e.size=0) (h:(!(s.toList==e.toList))=false):s.size=0:=by
 have e1:s.toList=e.toList:=by simpa using h
 rw [ByteArray.toList_eq,ByteArray.toList_eq] at e1;have:=congrArg List.length e1;simp only [fA] at this;exact Eq.trans this he
theorem AS (c:Int):Cn 239 [.sc (.int .u8 c)] (bl (vT c)):=by refine jq tt_ok [] 9 [.tmp 2] (fn:=Tryz.f239) Tryz.func239 rfl Tryz.call239 ⟨rfl,rfl,by simp⟩ fun K hK=>?_;repeat' (simp only [go_sem];first|refine cC (fun hg=>?_) (fun hg=>?_)|(exact hK _ (congrArg bl (by simp_all [vT] <;> (intros;omega)))))
theorem AT (c:Int):Cn 236 [.sc (.int .u8 c)] (bl (yQ c)):=by refine jq tt_ok [] 9 [.tmp 2] (fn:=Tryz.f236) Tryz.func236 rfl Tryz.call236 ⟨rfl,rfl,by simp⟩ fun K hK=>?_;repeat' (simp only [go_sem];first|refine cC (fun hg=>?_) (fun hg=>?_)|(exact hK _ (congrArg bl (by simp_all [yQ] <;> (intros;omega)))))
theorem vV (c:Int):Cn 245 [.sc (.int .u8 c)] (bl (uL c)):=by refine jq tt_ok [] 9 [.tmp 2] (fn:=Tryz.f245) Tryz.func245 rfl Tryz.call245 ⟨rfl,rfl,by simp⟩ fun K hK=>?_;repeat' (simp only [go_sem];first|refine cC (fun hg=>?_) (fun hg=>?_)|(exact hK _ (congrArg bl (by simp_all [uL] <;> (intros;omega)))))
theorem Lq (c:Int):Cn 238 [.sc (.int .u8 c)] (bl (GR c)):=by refine jq tt_ok [] 17 [.tmp 2] (fn:=Tryz.f238) Tryz.func238 rfl Tryz.call238 ⟨rfl,rfl,by simp⟩ fun K hK=>?_;simp only [go_sem];refine ep (AS _) ?_;repeat' (simp only [go_sem];first|refine cC (fun hg=>?_) (fun hg=>?_)|refine ep (AT _) ?_|refine ep (vV _) ?_|(exact hK _ (congrArg bl (by simp_all [GR]))))
theorem afd (c:Int):Cn 244 [.sc (.int .u8 c)] (bl (Vl c)):=by refine jq tt_ok [] 9 [.tmp 2] (fn:=Tryz.f244) Tryz.func244 rfl Tryz.call244 ⟨rfl,rfl,by simp⟩ fun K hK=>?_;simp only [go_sem];refine ep (AS _) ?_;repeat' (simp only [go_sem];first|refine cC (fun hg=>?_) (fun hg=>?_)|refine ep (vV _) ?_|(exact hK _ (congrArg bl (by simp_all [Vl]))))
theorem AU (g:FuncId) (p:Int→Bool) (hg:∀ c:Int,Cn g [.sc (.int .u8 c)] (bl (p c))) (s:ByteArray) (hs:s.size≤1048576):Cn 237 [str s,.sc (.func (.func g) #[] #[])] (bl (ss p s)):=by
 refine jq tt_ok [] 18 [.tmp 4] (fn:=Tryz.f237) Tryz.func237 rfl Tryz.call237 ⟨rfl,rfl,by simp⟩ fun K hK=>?_;have tH:aj.underlying 9=some .string:=kr;have sl:∀ (a:ByteArray) (ty:TypeId),ko aj (Builtin.len_ #[9] ty) [.sc (.string a)]=some (num a.size):=fun a ty=>kD (P:=aj) (tt:=tt) (T:=9) a tH ty;simp only [sl,go_sem];refine iz tt_ok [] [8] 0 [0,1,7] (fun vs=>((s.size:Int)-Go.Eng.intOf (vs.headD .undef)).toNat) (fun vs=>∃ i:Nat,vs=[num i]∧i≤s.size∧∀ j<i,∀ b,s[j]?=some b→p b.toNat=true) (by omega) (by simp only [sl,go_sem]) (⟨0,rfl,ck _,fun j hj=>absurd hj (iH j)⟩) fun vs hI Z1 fh=>?_;obtain⟨i,rfl,hi,ud⟩:=hI;simp only [sl,go_sem];refine cC (fun kh=>?_) (fun kh=>?_);·(have bQ:i<s.size:=by simpa using kh);have hw:=bN i (by omega);obtain⟨c,QR⟩:=ji (s:=s) (i:=i) bQ;have oz:=ku (P:=aj) s tH .i64 (i:Int) (by omega) (c:=c) (show s[((i:Nat):Int).toNat]?=some c from QR);simp only [hw,oz,sl,go_sem];refine ep (hg _) ?_;simp only [hw,oz,sl,go_sem];refine cC (fun gh=>?_) (fun gh=>?_);(·have cX:false=ss p s:=(Jq QR (by simpa using gh)).symm;simp only [hw,oz,sl,go_sem];exact hK _ (congrArg bl cX));simp only [hw,oz,sl,go_sem];refine fh _ (oU (by omega) (by simp only [hw,oz,sl,go_sem]) ?_ ?_) <;> simp only [lS,lk,reduceIte,zE];(·refine⟨i+1,rfl,bQ,fun j hj b hb=>?_⟩;(rcases bS j i with h|h);(·exact ud j h b hb);(obtain rfl:j=i:=by omega);rw [QR] at hb;cases hb;simpa using gh);simp only [Go.Eng.intOf,cg];omega
 have jL:¬ i<s.size:=by simpa using kh
 have cX:true=ss p s:=(Nc fun j hj b hb=>ud j (by omega) b hb).symm;simp only [sl,go_sem];exact hK _ (congrArg bl cX)
def T7 (a b:ByteArray):Bool:=Op.bytesLess a.toList b.toList
theorem dZ (a b:ByteArray):(a.toList==b.toList)=decide (a=b):=by rw [ajO,beq_iff_eq,decide_eq_true_eq];refine⟨fun h=>?_,fun h=>by rw [h]⟩;rw [ByteArray.toList_eq,ByteArray.toList_eq] at h;cases a;cases b;congr 1;exact aiS.1 h
theorem QS (a b:ByteArray):T7 a b=decide (a.data.toList<b.data.toList):=by unfold T7;rw [Proofs.bytesLess_eq,ByteArray.toList_eq,ByteArray.toList_eq]
def xt (a b:ByteArray):Int:=if T7 a b=true then -1 else if a=b then 0 else 1
theorem qx {α:Type} {q:α→Bool} {l:List α} {i:Nat} {x:α} (h:l[i]?=some x) (hq:q x=true):l.any q=true:=tP.2 ⟨x,aE h,hq⟩
theorem any_none {α:Type} {q:α→Bool} {l:List α} (h:∀ j<l.length,∀ x,l[j]?=some x→q x=false):l.any q=false:=by rw [km];intro x hx;obtain⟨j,hj⟩:=bB.1 hx;rw [h j (aA.1 hj).1 x hj];simp
def qy (s:ByteArray) (l:List ByteArray):Bool:=l.any fun b=>decide (s=b)
theorem Lr {s:ByteArray} {l:List ByteArray}:qy s l=true↔s∈l:=by unfold qy;simp
end Go.Proofs.YtfbbfmcggbapoaaGreatDoor
end
