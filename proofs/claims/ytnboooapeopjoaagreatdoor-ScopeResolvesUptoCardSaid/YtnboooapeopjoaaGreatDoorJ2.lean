import Derived.Test.YtnboooapeopjoaaGreatDoorJ1
import Derived.Test.YtnboooapeopjoaaGreatDoorRows
import Derived.Sort.Walk0
open Array renaming length_toList→j6,toList_inj→ajq
open Bool renaming eq_iff_iff→ju
open Go.Proofs.Tryz renaming prog→ab
open List renaming all_eq_true→aX,any_eq_false→atA,any_eq_true→Gu,drop_drop→atp,drop_eq_nil_of_le→cH,getElem?_eq_getElem→af,getElem?_eq_some_iff→aq,getElem?_map→ae,headD_cons→bg,length_eq_zero_iff→b7,length_map→aw,mapM_cons→as7,mem_append→ft,mem_iff_getElem?→bS,mem_of_getElem?→ay,take_append_drop→ld
open Nat renaming add_assoc→o6,eq_zero_or_pos→atc,lt_or_ge→br,not_lt_zero→cf,zero_le→aW
open Option renaming bind_some→l6,map_eq_some_iff→bH
open Prod.mk renaming injEq→dE
set_option linter.all false
section
namespace Go.Proofs.YtnboooapeopjoaaGreatDoor
open Go.Eng
variable [bk]
set_option maxHeartbeats 4000000
set_option maxRecDepth 100000
section
section
variable {H:Type} {enc:TypeId×Value→H} {P:Program} {w:World} {sp:Nat→Bool} {held:Bool} {f:Nat} {T:TypeId} {cs:List Value} {d:DataW H} {p:List MemPlace}
theorem trod_bool (hT:P.underlying T=some .bool) (h:DataW.trod enc P w 0 sp held (f+1) T cs=some (d,p)):∃ b,cs=[.bool b]∧d = .lit (.bool b):=by unfold DataW.trod at h;rw [hT] at h;split at h <;> simp_all
theorem trod_int {k:IntKind} (hT:P.underlying T=some (.int k)) (h:DataW.trod enc P w 0 sp held (f+1) T cs=some (d,p)):∃ n,cs=[.int k n]∧d = .lit (.int k n):=by unfold DataW.trod at h;rw [hT] at h;split at h <;> simp_all
theorem trod_string (hT:P.underlying T=some .string) (h:DataW.trod enc P w 0 sp held (f+1) T cs=some (d,p)):∃ s,cs=[.string s]∧d = .lit (.string s.data.toList):=by unfold DataW.trod at h;rw [hT] at h;split at h <;> simp_all
theorem wD {α β:Type} {g:α→Option β}:∀ {l:List α} {r:List β},l.mapM g=some r→r.length=l.length∧∀ (i:Nat) (b:β),r[i]?=some b→∃ a:α,l[i]?=some a∧g a=some b
 | [],r,h=>by simp at h;subst h;simp
 | a :: l,r,h=>by
  rw [as7] at h
  cases h1:g a with
  | none=>rw [h1] at h;simp at h
  | some b =>
   rw [h1] at h
   cases h2:l.mapM g with
   | none=>rw [h2] at h;simp at h
   | some r' =>
    rw [h2] at h
    simp at h
    subst h
    obtain⟨e1,e2⟩:=wD h2
    refine⟨by simp [e1],fun i b' hb=>?_⟩
    cases i with
    | zero=>simp at hb;subst hb;exact⟨a,rfl,h1⟩
    | succ i=>simpa using e2 i b' (by simpa using hb)
theorem trod_slice {T':TypeId} (hT:P.underlying T=some (.slice T')) (h:DataW.trod enc P w 0 sp held (f+1) T cs=some (d,p)) :
  (cs=[.slice none 0 0]∧d = .nil)∨∃ (a:Addr) (cap:Nat) (elems spare:List (DataW H)),cs=[.slice (some a) elems.length cap]∧d = .slice elems spare∧elems.length≤cap ∧
   ∀ (i:Nat) (e:DataW H),elems[i]?=some e→∃ uB p',w.cells? 0 (a.add (i*P.cellsOf T')) (P.cellsOf T')=some uB∧DataW.trod enc P w 0 sp held f T' uB=some (e,p'):=by
 unfold DataW.trod at h;rw [hT] at h;split at h <;> try (simp at *;done)
 ·rename_i e' h1 h2;simp at h;exact .inl ⟨rfl,h.1.symm⟩
 rename_i e' a len cap h1;obtain rfl:T'=e':=by simpa using h1
 refine .inr ?_;dsimp only at h;split at h;·rename_i hb;cases h3:(List.range len).mapM (fun i=>(w.cells? 0 (a.add (i*P.cellsOf T')) (P.cellsOf T')).bind (DataW.trod enc P w 0 sp held f T')) with|none=>rw [h3] at h;simp at h|some elems =>rw [h3] at h;obtain⟨e1,e2⟩:=wD h3;simp only [l6,bH] at h;obtain⟨rest,-,h5⟩:=h;simp only [dE] at h5;(have hl:elems.length=len:=by simpa using e1);refine⟨a,cap,elems.map (·.1),rest.map (·.1),by rw [aw,hl],h5.1.symm,by rw [aw,hl];exact hb.2.1,fun i e he=>?_⟩;rw [ae,bH] at he;obtain⟨x,hx,rfl⟩:=he;obtain⟨j,hj,hg⟩:=e2 i x hx;(have JM:j=i:=by obtain⟨bR,hv⟩:=aq.1 hj;simpa using hv.symm);subst JM;rw [Option.bind_eq_some_iff] at hg;obtain⟨uB,hc,ht⟩:=hg;exact⟨uB,x.2,hc,ht⟩
 simp at h
theorem trod_struct {fs:Array Field} (hT:P.underlying T=some (.struct fs)) (h:DataW.trod enc P w 0 sp held (f+1) T cs=some (d,p)) :
  cs.length=P.cellsOf T∧∃ parts:List (DataW H),d = .agg parts∧parts.length=fs.size ∧
   ∀ (i:Nat) (e:DataW H),parts[i]?=some e→∃ (fd:Field) (p':List MemPlace),fs[i]?=some fd∧DataW.trod enc P w 0 sp held f fd.type ((cs.drop fd.offset).take (P.cellsOf fd.type))=some (e,p'):=by
 unfold DataW.trod at h;rw [hT] at h;split at h <;> try (simp at *;done)
 rename_i fs' h1;obtain rfl:fs=fs':=by simpa using h1
 split at h;·rename_i hl;refine⟨hl,?_⟩;rw [bH] at h;obtain⟨xs,h3,h4⟩:=h;simp only [dE] at h4;obtain⟨e1,e2⟩:=wD h3;refine⟨xs.map (·.1),h4.1.symm,by rw [aw,e1];simp,fun i e he=>?_⟩;rw [ae,bH] at he;obtain⟨x,hx,rfl⟩:=he;obtain⟨fd,hj,hg⟩:=e2 i x hx;exact⟨fd,x.2,by simpa using hj,hg⟩
 simp at h
end
end
section
def Rd (F:Addr→Option Value) (hg:Gl F) (vs:List V) (cs:List Value):Prop:=cJ ⟨F,fun _ _=>none,hg⟩ vs cs∧∀ c∈cs,c.oneCell'=true
section
variable {F:Addr→Option Value} {hg:Gl F}
theorem KV {v:Value} (h:v.oneCell'=true):Rd F hg [.sc v] [v]:=⟨.cons (.sc _ _) (.nil _),by simpa using h⟩
theorem dS {a b:List V} {cs:List Value} {off n:Nat} (h1:Rd F hg a ((cs.drop off).take n)) (h2:Rd F hg b (cs.drop (off+n))):Rd F hg (a++b) (cs.drop off):=by
 have e:cs.drop off=(cs.drop off).take n++cs.drop (off+n):=by rw [← atp,ld]
 rw [e];refine⟨.append h1.1 h2.1,fun c hc=>?_⟩;rcases ft.1 hc with hc|hc
 ·exact h1.2 c hc
 exact h2.2 c hc
theorem Rs {cs:List Value} {off:Nat} (h:cs.length=off):Rd F hg [] (cs.drop off):=by rw [cH (by omega)];exact⟨.nil _,by simp⟩
theorem FG (a:Addr) (x y:Nat):(a.add x).add y=a.add (x+y):=by
 unfold Addr.add;by_cases hx:x=0;·subst hx;simp
 by_cases hy:y=0;·subst hy;simp
 simp [hx,hy,o6]
theorem HX {α β:Type} {R:Nat→β→α→Prop}:∀ {es:List β},(∀ (i:Nat) (e:β),es[i]?=some e→∃ a:α,R i e a)→∃ l:List α,l.length=es.length∧∀ (i:Nat) (e:β) (a:α),es[i]?=some e→l[i]?=some a→R i e a:=by intro es;induction es generalizing R with|nil=>intro _;exact⟨[],rfl,by simp⟩|cons e r ih =>intro h;obtain⟨a,ha⟩:=h 0 e rfl;obtain⟨l,hl,hr⟩:=ih (R:=fun i=>R (i+1)) fun i e he=>h (i+1) e (by simpa using he);refine⟨a :: l,by simp [hl],fun i e' a' he ha'=>?_⟩;cases i with|zero=>simp at he ha';subst he;subst ha';exact ha|succ i=>exact hr i e' a' (by simpa using he) (by simpa using ha')
theorem y9 {H α:Type} {g:α→Nat}:∀ {l:List α} {es:List (DataW H)},l.length=es.length→(∀ (i:Nat) (e:DataW H) (a:α),es[i]?=some e→l[i]?=some a→g a≤Rows.uptoBulk e)→bh g l≤Rows.uptoBulkAll es
 | [],[],_,_=>by simp [bh]
 | a :: l,e :: es,hl,h=>by
  have h1:=h 0 e a rfl rfl
  have h2:=y9 (l:=l) (es:=es) (g:=g) (by simpa using hl) fun i e a he ha=>h (i+1) e a (by simpa using he) (by simpa using ha)
  simp only [bh,Rows.uptoBulkAll];omega
 | [],_ :: _,hl,_=>by simp at hl
 | _ :: _,[],hl,_=>by simp at hl
theorem Rt {H:Type} {enc:TypeId×Value→H} {P:Program} {w:World} {sp:Nat→Bool} {held:Bool} {f:Nat} {T T':TypeId} {α:Type} {row:α→V} {g:α→Nat} {n:Nat}
  (hF:F=w.cell?) (hT:P.underlying T=some (.slice T')) (hn:P.cellsOf T'=n)
  (hr:∀ {cs:List Value} {d:DataW H} {p:List MemPlace},DataW.trod enc P w 0 sp held f T' cs=some (d,p)→∃ a:α,Rd F hg (row a).cells cs∧g a≤Rows.uptoBulk d)
  {cs:List Value} {d:DataW H} {p:List MemPlace} (h:DataW.trod enc P w 0 sp held (f+1) T cs=some (d,p)) :
  ∃ l:List α,Rd F hg [.slice (l.map row)] cs∧bh g l+1≤Rows.uptoBulk d:=by
 rcases trod_slice hT h with ⟨rfl,rfl⟩|⟨a,cap,elems,spare,rfl,rfl,hc,he⟩
 ·exact⟨[],⟨.cons (.slice _ [] none 0 0 default (fun _ _=>default) (by simp) (by simp) (by simp) (by simp) (by simp) (by simp)) (.nil _),by simp [Value.oneCell']⟩,by simp [bh,Rows.uptoBulk]⟩
 obtain⟨l,hl,hR⟩:=HX (es:=elems) (R:=fun i e (x:α)=>∃ uB:List Value,w.cells? 0 (a.add (i*P.cellsOf T')) (P.cellsOf T')=some uB∧Rd F hg (row x).cells uB∧g x≤Rows.uptoBulk e) fun i e hi=>by obtain⟨uB,p',h1,h2⟩:=he i e hi;obtain⟨x,h3,h4⟩:=hr h2;exact⟨x,uB,h1,h3,h4⟩
 rw [hn] at hR;have key:∀ (i:Nat) (x:α),l[i]?=some x→∃ uB:List Value,Rd F hg (row x).cells uB∧(row x).cells.length=n∧∀ (j:Nat) (c:Value),uB[j]?=some c→F (a.add (i*n+j))=some c:=fun i x hx=>by obtain⟨e,hei⟩:∃ e,elems[i]?=some e:=⟨_,af (by rw [← hl];exact (aq.1 hx).1)⟩;obtain⟨uB,h1,h2,-⟩:=hR i e x hei hx;unfold World.cells? at h1;rw [if_pos (aW _)] at h1;obtain⟨e1,e2⟩:=wD h1;refine⟨uB,h2,by rw [h2.1.1,e1];simp,fun j c hj=>?_⟩;obtain⟨k,hk,hc'⟩:=e2 j c hj;(have hkj:k=j:=by obtain⟨bR,hv⟩:=aq.1 hk;simpa using hv.symm);subst hkj;rw [FG] at hc';rw [hF];exact hc'
 have cell:∀ (i:Nat) (r:V) (j:Nat) (c:V),(l.map row)[i]?=some r→r.cells[j]?=some c→∃ x,F (a.add (i*n+j))=some x∧x.oneCell'=true∧cV ⟨F,fun _ _=>none,hg⟩ c x:=fun i r j c hi hj=>by rw [ae,bH] at hi;obtain⟨x,hx,rfl⟩:=hi;obtain⟨uB,h2,-,h3⟩:=key i x hx;obtain⟨y,hy,nB⟩:=h2.1.get hj;exact⟨y,h3 j y hy,h2.2 y (ay hy),nB⟩
 refine⟨l,⟨.cons ?_ (.nil _),by simp [Value.oneCell']⟩,?_⟩
 ·have:=cV.slice ⟨F,fun _ _=>none,hg⟩ (l.map row) (some a) cap n a (fun i j=>(F (a.add (i*n+j))).getD default) (fun _=>rfl) (by rw [aw,hl];exact hc)
   (fun i r hi=>by
    rw [ae,bH] at hi
    obtain⟨x,hx,rfl⟩:=hi
    obtain⟨_,-,h,-⟩:=key i x hx
    exact h)
   (fun i r j c hi hj=>by obtain⟨x,h,-,-⟩:=cell i r j c hi hj;show F _=some ((F _).getD _);rw [h];rfl)
   (fun i r j c hi hj=>by obtain⟨x,h,h',-⟩:=cell i r j c hi hj;show Value.oneCell' ((F _).getD _)=true;rw [h];exact h')
   (fun i r j c hi hj=>by obtain⟨x,h,-,h'⟩:=cell i r j c hi hj;show cV _ c ((F _).getD _);rw [h];exact h')
  rwa [aw,hl] at this
 have:=y9 (g:=g) hl fun i e x he hx=>by obtain⟨_,-,-,h⟩:=hR i e x he hx;exact h
 simp only [Rows.uptoBulk];omega
end
def KW {H:Type} (enc:TypeId×Value→H) (P:Program) (w:World) (sp:Nat→Bool) (held:Bool) (f:Nat) (cs:List Value):List Field→(List (DataW H)→Prop)→Prop
 | [],K=>K []
 | fd :: r,K=>∃ (e:DataW H) (p:List MemPlace),DataW.trod enc P w 0 sp held f fd.type ((cs.drop fd.offset).take (P.cellsOf fd.type))=some (e,p)∧KW enc P w sp held f cs r fun es=>K (e :: es)
theorem DQ {H:Type} {enc:TypeId×Value→H} {P:Program} {w:World} {sp:Nat→Bool} {held:Bool} {f:Nat} {cs:List Value}:∀ {fs:List Field} {K:List (DataW H)→Prop} {es:List (DataW H)},es.length=fs.length →
  (∀ (i:Nat) (e:DataW H),es[i]?=some e→∃ (fd:Field) (p':List MemPlace),fs[i]?=some fd∧DataW.trod enc P w 0 sp held f fd.type ((cs.drop fd.offset).take (P.cellsOf fd.type))=some (e,p'))→K es→KW enc P w sp held f cs fs K
 | [],K,[],_,_,hK=>hK
 | fd :: r,K,e :: es,hl,h,hK=>by
  obtain⟨fd',p',h1,h2⟩:=h 0 e rfl
  obtain rfl:fd=fd':=by simpa using h1
  exact⟨e,p',h2,DQ (es:=es) (by simpa using hl) (fun i e he=>by simpa using h (i+1) e (by simpa using he)) hK⟩
 | [],_,_ :: _,hl,_,_=>by simp at hl
 | _ :: _,_,[],hl,_,_=>by simp at hl
theorem ku {H:Type} {enc:TypeId×Value→H} {P:Program} {w:World} {sp:Nat→Bool} {held:Bool} {f:Nat} {T:TypeId} {cs:List Value} {d:DataW H} {p:List MemPlace} {fs:Array Field}
  (hT:P.underlying T=some (.struct fs)) (h:DataW.trod enc P w 0 sp held (f+1) T cs=some (d,p)):cs.length=P.cellsOf T∧KW enc P w sp held f cs fs.toList fun es=>d = .agg es:=by obtain⟨h1,parts,h2,h3,h4⟩:=trod_struct hT h;exact⟨h1,DQ (by simpa using h3) (fun i e he=>by simpa using h4 i e he) h2⟩
end
end Go.Proofs.YtnboooapeopjoaaGreatDoor
end
section
namespace Go.Proofs.YtnboooapeopjoaaGreatDoor
set_option maxHeartbeats 4000000
set_option maxRecDepth 100000
structure YR where
 lo:Int
 hi:Int
structure YS where
 mj:Int
 mn:Int
 pt:Int
structure Rq where
 path:ByteArray
 set:List YR
structure Rl where
 path:ByteArray
 dF:YS
 reqs:List Rq
 ar:ByteArray
 itf:ByteArray
 ce:ByteArray
 yk:Bool
structure Sel where
 path:ByteArray
 dF:YS
theorem YS.ext' {a b:YS} (h1:a.mj=b.mj) (h2:a.mn=b.mn) (h3:a.pt=b.pt):a=b:=by cases a;cases b;simp_all
theorem YR.ext' {a b:YR} (h1:a.lo=b.lo) (h2:a.hi=b.hi):a=b:=by cases a;cases b;simp_all
instance:DecidableEq YR:=fun a b=>if h:a.lo=b.lo∧a.hi=b.hi then .isTrue (YR.ext' h.1 h.2) else .isFalse fun e=>h (by subst e;exact⟨rfl,rfl⟩)
theorem Sel.ext' {a b:Sel} (h1:a.path=b.path) (h2:a.dF=b.dF):a=b:=by cases a;cases b;simp_all
instance:DecidableEq YS:=fun a b=>if h:a.mj=b.mj∧a.mn=b.mn∧a.pt=b.pt then .isTrue (YS.ext' h.1 h.2.1 h.2.2) else .isFalse fun e=>h (by subst e;exact⟨rfl,rfl,rfl⟩)
instance:DecidableEq Sel:=fun a b=>if h:a.path=b.path∧a.dF=b.dF then .isTrue (Sel.ext' h.1 h.2) else .isFalse fun e=>h (by subst e;exact⟨rfl,rfl⟩)
def Rl.key (r:Rl):Sel:=⟨r.path,r.dF⟩
def YS.place (v:YS):Int:=1000*v.mn+v.pt
def has (s:List YR) (p:Int):Bool:=decide (0≤p)&&decide (p<1000000)&&s.any fun x=>decide (x.lo≤p)&&decide (p<x.hi)
def afD (q:Rq) (r:Rl):Bool:=decide (q.path=r.path)&&has q.set r.dF.place
inductive Ru (l:List Rl) (roots:List Rq):Rl→Prop
 | root (q:Rq) (r:Rl) (hq:q∈roots) (hr:r∈l) (h:afD q r=true):Ru l roots r
 | step (a:Rl) (q:Rq) (r:Rl) (ha:Ru l roots a) (hq:q∈a.reqs) (hr:r∈l) (h:afD q r=true):Ru l roots r
theorem Ru.mem {l:List Rl} {roots:List Rq} {r:Rl} (h:Ru l roots r):r∈l:=by cases h <;> assumption
theorem Ru.mono {l:List Rl} {roots more:List Rq} (hm:∀ q∈roots,q∈more) {r:Rl} (h:Ru l roots r):Ru l more r:=by induction h with|root q r hq hr h=>exact .root q r (hm q hq) hr h|step a q r _ hq hr h ih=>exact .step a q r ih hq hr h
inductive abA (l:List Rl) (roots:List Rq):ByteArray→Prop
 | root (q:Rq) (hq:q∈roots):abA l roots q.path
 | step (a:Rl) (q:Rq) (ha:a∈l) (hn:abA l roots a.path) (hq:q∈a.reqs):abA l roots q.path
theorem Ru.sub {l m:List Rl} {roots:List Rq} (hlm:∀ r∈l,r∈m) {r:Rl} (h:Ru l roots r):Ru m roots r:=by induction h with|root q r hq hr h=>exact .root q r hq (hlm r hr) h|step a q r _ hq hr h ih=>exact .step a q r ih hq (hlm r hr) h
def ga (s:ByteArray):List UInt8:=s.data.toList
end Go.Proofs.YtnboooapeopjoaaGreatDoor
end
section
namespace Go.Proofs.YtnboooapeopjoaaGreatDoor
open Go.Eng
variable [bk]
open Nat renaming reduceAdd → zA, reduceLT → zB, reduceLeDiff → zC, reduceMul → zD, reduceEqDiff → zE, reduceSub → zF
set_option maxHeartbeats 4000000
set_option maxRecDepth 100000
def abB (s:YR):V:=.agg [num s.lo,num s.hi]
def Rw (l:List YR):V:=.slice (l.map abB)
def afE (q:Rq):V:=.agg [str q.path,Rw q.set]
def Rx (l:List Rq):V:=.slice (l.map afE)
def abC (s:Sel):V:=.agg [str s.path,num s.dF.mj,num s.dF.mn,num s.dF.pt]
def Ws (l:List Sel):V:=.slice (l.map abC)
def Wt (r:Rl):List V:=[str r.path,num r.dF.mj,num r.dF.mn,num r.dF.pt,Rx r.reqs,str r.ar,str r.itf,str r.ce,bl r.yk]
def afF (r:Rl):V:=.agg (Wt r)
def abD (l:List Rl):V:=.slice (l.map afF)
attribute [go_sem] Rw Rx Ws abD
theorem abE {s e:ByteArray} (he:e.size=0) (h:(!(s.toList==e.toList))=true):∃ c,s[0]?=some c:=by
 refine eK (s:=s) (i:=0) ?_;rcases atc s.size with hz|hz
 ·exfalso;(have e1:s.toList=e.toList:=by rw [ByteArray.toList_eq,ByteArray.toList_eq];(have a1:s.data.toList=[]:=by simpa [← b7,j6] using hz);(have a2:e.data.toList=[]:=by simpa [← b7,j6] using he);rw [a1,a2]);rw [e1] at h;simp at h
 exact hz
def HY (c:Int):Bool:=decide (97≤c)&&decide (c≤122)
def Og (c:Int):Bool:=decide (65≤c)&&decide (c≤90)
def k6 (c:Int):Bool:=decide (48≤c)&&decide (c≤57)
def uj (c:Int):Bool:=HY c||Og c||k6 c||decide (c=95)
def C5 (c:Int):Bool:=HY c||k6 c
def l4 (p:Int→Bool) (s:ByteArray):Bool:=s.data.toList.all fun b=>p b.toNat
def eL (s:ByteArray) (i:Nat):Int:=match s[i]? with|some c=>c.toNat|none=>0
theorem sY {s:ByteArray} {i:Nat} {c:UInt8} (h:s[i]?=some c):s.data.toList[i]?=some c:=by
 obtain⟨h1,h2⟩:=getElem?_eq_some_iff.1 h;have h3:i<s.data.toList.length:=by simpa using h1
 rw [af h3];exact congrArg some (by rw [Array.getElem_toList];exact h2)
theorem eQ {s:ByteArray} {i:Nat} {c:UInt8} (h:s[i]?=some c):eL s i=c.toNat:=by unfold eL;rw [h]
theorem qz {p:Int→Bool} {s:ByteArray} (h:∀ j<s.size,∀ b,s[j]?=some b→p b.toNat=true):l4 p s=true:=by
 refine aX.2 fun b hb=>?_;obtain⟨j,hj⟩:=bS.1 hb;have h1:j<s.size:=by have:=(aq.1 hj).1;simpa using this
 obtain⟨c,hc⟩:=eK h1;have:=sY hc;rw [hj] at this;cases this;exact h j h1 b hc
theorem oP {p:Int→Bool} {s:ByteArray} {j:Nat} {b:UInt8} (h:s[j]?=some b) (hp:p b.toNat=false):l4 p s=false:=by have hm:=ay (sY h);cases ha:l4 p s with|false=>rfl|true=>have:=aX.1 ha b hm;rw [hp] at this;cases this
def ka (s:ByteArray):Bool:=decide (1≤s.size)&&decide (s.size≤32)&&Og (eL s 0)&&l4 uj s
theorem FH {s e:ByteArray} (he:e.size=0) (h:(!(s.toList==e.toList))=true):1≤s.size:=by obtain⟨c,hc⟩:=abE he h;exact (getElem?_eq_some_iff.1 hc).1
theorem Bs {s e:ByteArray} (he:e.size=0) (h:(!(s.toList==e.toList))=false):s.size=0:=by
 have e1:s.toList=e.toList:=by simpa using h
 rw [ByteArray.toList_eq,ByteArray.toList_eq] at e1;have:=congrArg List.length e1;simp only [j6] at this;exact Eq.trans this he
theorem Bt (c:Int):Cn 178 [.sc (.int .u8 c)] (bl (HY c)):=by refine fZ tt_ok [] 9 [.tmp 2] (fn:=Tryz.f178) Tryz.func178 rfl Tryz.call178 ⟨rfl,rfl,by simp⟩ fun K hK=>?_;repeat' (simp only [go_sem];first|refine bQ (fun hg=>?_) (fun hg=>?_)|(exact hK _ (congrArg bl (by simp_all [HY] <;> (intros;omega)))))
theorem Bu (c:Int):Cn 168 [.sc (.int .u8 c)] (bl (Og c)):=by refine fZ tt_ok [] 9 [.tmp 2] (fn:=Tryz.f168) Tryz.func168 rfl Tryz.call168 ⟨rfl,rfl,by simp⟩ fun K hK=>?_;repeat' (simp only [go_sem];first|refine bQ (fun hg=>?_) (fun hg=>?_)|(exact hK _ (congrArg bl (by simp_all [Og] <;> (intros;omega)))))
theorem wE (c:Int):Cn 198 [.sc (.int .u8 c)] (bl (k6 c)):=by refine fZ tt_ok [] 9 [.tmp 2] (fn:=Tryz.f198) Tryz.func198 rfl Tryz.call198 ⟨rfl,rfl,by simp⟩ fun K hK=>?_;repeat' (simp only [go_sem];first|refine bQ (fun hg=>?_) (fun hg=>?_)|(exact hK _ (congrArg bl (by simp_all [k6] <;> (intros;omega)))))
theorem x3 (c:Int):Cn 58 [.sc (.int .u8 c)] (bl (HY c)):=by refine fZ tt_ok [] 9 [.tmp 2] (fn:=Tryz.f58) Tryz.func58 rfl Tryz.call58 ⟨rfl,rfl,by simp⟩ fun K hK=>?_;repeat' (simp only [go_sem];first|refine bQ (fun hg=>?_) (fun hg=>?_)|(exact hK _ (congrArg bl (by simp_all [HY] <;> (intros;omega)))))
theorem za (c:Int):Cn 154 [.sc (.int .u8 c)] (bl (Og c)):=by refine fZ tt_ok [] 9 [.tmp 2] (fn:=Tryz.f154) Tryz.func154 rfl Tryz.call154 ⟨rfl,rfl,by simp⟩ fun K hK=>?_;repeat' (simp only [go_sem];first|refine bQ (fun hg=>?_) (fun hg=>?_)|(exact hK _ (congrArg bl (by simp_all [Og] <;> (intros;omega)))))
theorem tQ (c:Int):Cn 153 [.sc (.int .u8 c)] (bl (k6 c)):=by refine fZ tt_ok [] 9 [.tmp 2] (fn:=Tryz.f153) Tryz.func153 rfl Tryz.call153 ⟨rfl,rfl,by simp⟩ fun K hK=>?_;repeat' (simp only [go_sem];first|refine bQ (fun hg=>?_) (fun hg=>?_)|(exact hK _ (congrArg bl (by simp_all [k6] <;> (intros;omega)))))
theorem MU (c:Int):Cn 170 [.sc (.int .u8 c)] (bl (uj c)):=by refine fZ tt_ok [] 17 [.tmp 2] (fn:=Tryz.f170) Tryz.func170 rfl Tryz.call170 ⟨rfl,rfl,by simp⟩ fun K hK=>?_;simp only [go_sem];refine dg (Bt _) ?_;repeat' (simp only [go_sem];first|refine bQ (fun hg=>?_) (fun hg=>?_)|refine dg (Bu _) ?_|refine dg (wE _) ?_|(exact hK _ (congrArg bl (by simp_all [uj]))))
theorem Ry (c:Int):Cn 107 [.sc (.int .u8 c)] (bl (uj c)):=by refine fZ tt_ok [] 17 [.tmp 2] (fn:=Tryz.f107) Tryz.func107 rfl Tryz.call107 ⟨rfl,rfl,by simp⟩ fun K hK=>?_;simp only [go_sem];refine dg (x3 _) ?_;repeat' (simp only [go_sem];first|refine bQ (fun hg=>?_) (fun hg=>?_)|refine dg (za _) ?_|refine dg (tQ _) ?_|(exact hK _ (congrArg bl (by simp_all [uj]))))
theorem afG (c:Int):Cn 197 [.sc (.int .u8 c)] (bl (C5 c)):=by refine fZ tt_ok [] 9 [.tmp 2] (fn:=Tryz.f197) Tryz.func197 rfl Tryz.call197 ⟨rfl,rfl,by simp⟩ fun K hK=>?_;simp only [go_sem];refine dg (Bt _) ?_;repeat' (simp only [go_sem];first|refine bQ (fun hg=>?_) (fun hg=>?_)|refine dg (wE _) ?_|(exact hK _ (congrArg bl (by simp_all [C5]))))
theorem Bv (g:FuncId) (p:Int→Bool) (hg:∀ c:Int,Cn g [.sc (.int .u8 c)] (bl (p c))) (s:ByteArray) (hs:s.size≤1048576):Cn 169 [str s,.sc (.func (.func g) #[] #[])] (bl (l4 p s)):=by
 refine fZ tt_ok [] 18 [.tmp 4] (fn:=Tryz.f169) Tryz.func169 rfl Tryz.call169 ⟨rfl,rfl,by simp⟩ fun K hK=>?_;have l7:ab.underlying 9=some .string:=kr;have sl:∀ (a:ByteArray) (ty:TypeId),iH ab (Builtin.len_ #[9] ty) [.sc (.string a)]=some (num a.size):=fun a ty=>gF (P:=ab) (tt:=tt) (T:=9) a l7 ty;simp only [sl,go_sem];refine cZ tt_ok [] [8] 0 [0,1,7] (fun vs=>((s.size:Int)-Go.Eng.intOf (vs.headD .undef)).toNat) (fun vs=>∃ i:Nat,vs=[num i]∧i≤s.size∧∀ j<i,∀ b,s[j]?=some b→p b.toNat=true) (by omega) (by simp only [sl,go_sem]) (⟨0,rfl,aW _,fun j hj=>absurd hj (cf j)⟩) fun vs hI Z1 dv=>?_;obtain⟨i,rfl,hi,kZ⟩:=hI;simp only [sl,go_sem];refine bQ (fun kQ=>?_) (fun kQ=>?_);·(have bR:i<s.size:=by simpa using kQ);have hw:=a7 i (by omega);obtain⟨c,vD⟩:=eK (s:=s) (i:=i) bR;have oQ:=fA (P:=ab) s l7 .i64 (i:Int) (by omega) (c:=c) (show s[((i:Nat):Int).toNat]?=some c from vD);simp only [hw,oQ,sl,go_sem];refine dg (hg _) ?_;simp only [hw,oQ,sl,go_sem];refine bQ (fun gw=>?_) (fun gw=>?_);(·have bM:false=l4 p s:=(oP vD (by simpa using gw)).symm;simp only [hw,oQ,sl,go_sem];exact hK _ (congrArg bl bM));simp only [hw,oQ,sl,go_sem];refine dv _ (fR (by omega) (by simp only [hw,oQ,sl,go_sem]) ?_ ?_) <;> simp only [eE,lk,reduceIte,zE];(·refine⟨i+1,rfl,bR,fun j hj b hb=>?_⟩;(rcases br j i with h|h);(·exact kZ j h b hb);(obtain rfl:j=i:=by omega);rw [vD] at hb;cases hb;simpa using gw);simp only [Go.Eng.intOf,bg];omega
 have hZ:¬ i<s.size:=by simpa using kQ
 have bM:true=l4 p s:=(qz fun j hj b hb=>kZ j (by omega) b hb).symm;simp only [sl,go_sem];exact hK _ (congrArg bl bM)
theorem HZ (s:ByteArray) (hs:s.size≤1048576):Cn 59 [str s] (bl (l4 uj s)):=by
 refine fZ tt_ok [] 15 [.tmp 2] (fn:=Tryz.f59) Tryz.func59 rfl Tryz.call59 ⟨rfl,rfl,by simp⟩ fun K hK=>?_;have l7:ab.underlying 9=some .string:=kr;have sl:∀ (a:ByteArray) (ty:TypeId),iH ab (Builtin.len_ #[9] ty) [.sc (.string a)]=some (num a.size):=fun a ty=>gF (P:=ab) (tt:=tt) (T:=9) a l7 ty;simp only [sl,go_sem];refine cZ tt_ok [] [3] 0 [0] (fun vs=>((s.size:Int)-Go.Eng.intOf (vs.headD .undef)).toNat) (fun vs=>∃ i:Nat,vs=[num i]∧i≤s.size∧∀ j<i,∀ b,s[j]?=some b→uj b.toNat=true) (by omega) (by simp only [sl,go_sem]) (⟨0,rfl,aW _,fun j hj=>absurd hj (cf j)⟩) fun vs hI Z1 dv=>?_;obtain⟨i,rfl,hi,kZ⟩:=hI;simp only [sl,go_sem];refine bQ (fun Af=>?_) (fun Af=>?_);·(have bR:i<s.size:=by simpa using Af);have hw:=a7 i (by omega);obtain⟨c,vD⟩:=eK (s:=s) (i:=i) bR;have oQ:=fA (P:=ab) s l7 .i64 (i:Int) (by omega) (c:=c) (show s[((i:Nat):Int).toNat]?=some c from vD);simp only [hw,oQ,sl,go_sem];refine dg (Ry _) ?_;simp only [hw,oQ,sl,go_sem];refine bQ (fun nS=>?_) (fun nS=>?_);(·have bM:false=l4 uj s:=(oP vD (by simpa using nS)).symm;simp only [hw,oQ,sl,go_sem];exact hK _ (congrArg bl bM));simp only [hw,oQ,sl,go_sem];refine dv _ (fR (by omega) (by simp only [hw,oQ,sl,go_sem]) ?_ ?_) <;> simp only [eE,lk,reduceIte,zE];(·refine⟨i+1,rfl,bR,fun j hj b hb=>?_⟩;(rcases br j i with h|h);(·exact kZ j h b hb);(obtain rfl:j=i:=by omega);rw [vD] at hb;cases hb;simpa using nS);simp only [Go.Eng.intOf,bg];omega
 have hZ:¬ i<s.size:=by simpa using Af
 have bM:true=l4 uj s:=(qz fun j hj b hb=>kZ j (by omega) b hb).symm;simp only [sl,go_sem];exact hK _ (congrArg bl bM)
def Rz (a b:ByteArray):Bool:=Op.bytesLess a.toList b.toList
theorem de (a b:ByteArray):(a.toList==b.toList)=decide (a=b):=by rw [ju,beq_iff_eq,decide_eq_true_eq];refine⟨fun h=>?_,fun h=>by rw [h]⟩;rw [ByteArray.toList_eq,ByteArray.toList_eq] at h;cases a;cases b;congr 1;exact ajq.1 h
theorem FI (a b:ByteArray):Rz a b=decide (a.data.toList<b.data.toList):=by unfold Rz;rw [Proofs.bytesLess_eq,ByteArray.toList_eq,ByteArray.toList_eq]
def x4 (a b:ByteArray):Int:=if Rz a b=true then -1 else if a=b then 0 else 1
theorem mr {α:Type} {q:α→Bool} {l:List α} {i:Nat} {x:α} (h:l[i]?=some x) (hq:q x=true):l.any q=true:=Gu.2 ⟨x,ay h,hq⟩
theorem any_none {α:Type} {q:α→Bool} {l:List α} (h:∀ j<l.length,∀ x,l[j]?=some x→q x=false):l.any q=false:=by rw [atA];intro x hx;obtain⟨j,hj⟩:=bS.1 hx;rw [h j (aq.1 hj).1 x hj];simp
def jC (s:ByteArray) (l:List ByteArray):Bool:=l.any fun b=>decide (s=b)
theorem tR {s:ByteArray} {l:List ByteArray}:jC s l=true↔s∈l:=by unfold jC;simp
end Go.Proofs.YtnboooapeopjoaaGreatDoor
end
