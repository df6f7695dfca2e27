import Derived.Test.YtnboooapeopjoaaGreatDoorJ1
import Derived.Test.YtnboooapeopjoaaGreatDoorRows
import Derived.Sort.Walk0
open Array renaming length_toList→jY,toList_inj→apA
open Bool renaming eq_iff_iff→mB
open Go.Proofs.Tryz renaming prog→af
open List renaming all_eq_true→a7,any_eq_false→apB,any_eq_true→agH,drop_drop→ap8,drop_eq_nil_of_le→eI,getElem?_eq_getElem→ak,getElem?_eq_some_iff→az,getElem?_map→ae,headD_cons→cr,length_eq_zero_iff→cC,length_map→ab,mapM_cons→apN,mem_append→ew,mem_iff_getElem?→cq,mem_of_getElem?→aB,take_append_drop→wI
open Nat renaming add_assoc→oI,eq_zero_or_pos→apW,lt_or_ge→bL,not_lt_zero→du,zero_le→bn
open Option renaming bind_some→eL,map_eq_some_iff→bA
open Prod.mk renaming injEq→eA
set_option linter.all false
section
namespace Go.Proofs.YtnboooapeopjoaaGreatDoor
open Go.Eng
variable [bg]
set_option maxHeartbeats 4000000
set_option maxRecDepth 100000
section
section
variable {H:Type} {enc:TypeId×Value→H} {P:Program} {w:World} {sp:Nat→Bool} {held:Bool} {f:Nat} {T:TypeId} {cs:List Value} {d:DataW H} {p:List MemPlace}
theorem trod_bool (hT:P.underlying T=some .bool) (h:DataW.trod enc P w 0 sp held (f+1) T cs=some (d,p)):∃ b,cs=[.bool b]∧d = .lit (.bool b):=by unfold DataW.trod at h;rw [hT] at h;split at h <;> simp_all
theorem trod_int {k:IntKind} (hT:P.underlying T=some (.int k)) (h:DataW.trod enc P w 0 sp held (f+1) T cs=some (d,p)):∃ n,cs=[.int k n]∧d = .lit (.int k n):=by unfold DataW.trod at h;rw [hT] at h;split at h <;> simp_all
theorem trod_string (hT:P.underlying T=some .string) (h:DataW.trod enc P w 0 sp held (f+1) T cs=some (d,p)):∃ s,cs=[.string s]∧d = .lit (.string s.data.toList):=by unfold DataW.trod at h;rw [hT] at h;split at h <;> simp_all
theorem vA {α β:Type} {g:α→Option β}:∀ {l:List α} {r:List β},l.mapM g=some r→r.length=l.length∧∀ (i:Nat) (b:β),r[i]?=some b→∃ a:α,l[i]?=some a∧g a=some b
 | [],r,h=>by simp at h; subst h; simp
 | a :: l,r,h=>by
  rw [apN] at h
  cases h1:g a with
  | none=>rw [h1] at h; simp at h
  | some b =>
   rw [h1] at h
   cases h2:l.mapM g with
   | none=>rw [h2] at h; simp at h
   | some r' =>
    rw [h2] at h
    simp at h
    subst h
    obtain⟨e1,e2⟩:=vA h2
    refine⟨by simp [e1],fun i b' hb=>?_⟩
    cases i with
    | zero=>simp at hb; subst hb; exact⟨a,rfl,h1⟩
    | succ i=>simpa using e2 i b' (by simpa using hb)
theorem trod_slice {T':TypeId} (hT:P.underlying T=some (.slice T')) (h:DataW.trod enc P w 0 sp held (f+1) T cs=some (d,p)) :
  (cs=[.slice none 0 0]∧d = .nil)∨∃ (a:Addr) (cap:Nat) (elems spare:List (DataW H)),cs=[.slice (some a) elems.length cap]∧d = .slice elems spare∧elems.length≤cap ∧
   ∀ (i:Nat) (e:DataW H),elems[i]?=some e→∃ tC p',w.cells? 0 (a.add (i*P.cellsOf T')) (P.cellsOf T')=some tC∧DataW.trod enc P w 0 sp held f T' tC=some (e,p'):=by
 unfold DataW.trod at h;rw [hT] at h;split at h <;> try (simp at *; done)
 ·rename_i e' h1 h2;simp at h;exact .inl ⟨rfl,h.1.symm⟩
 rename_i e' a len cap h1;obtain rfl:T'=e':=by simpa using h1
 refine .inr ?_;dsimp only at h;split at h;·rename_i hb;cases h3:(List.range len).mapM (fun i=>(w.cells? 0 (a.add (i*P.cellsOf T')) (P.cellsOf T')).bind (DataW.trod enc P w 0 sp held f T')) with | none=>rw [h3] at h; simp at h | some elems =>rw [h3] at h;obtain⟨e1,e2⟩:=vA h3;simp only [eL,bA] at h;obtain⟨rest,-,h5⟩:=h;simp only [eA] at h5;(have hl:elems.length=len:=by simpa using e1);refine⟨a,cap,elems.map (·.1),rest.map (·.1),by rw [ab,hl],h5.1.symm,by rw [ab,hl]; exact hb.2.1,fun i e he=>?_⟩;rw [ae,bA] at he;obtain⟨x,hx,rfl⟩:=he;obtain⟨j,hj,hg⟩:=e2 i x hx;(have Ic:j=i:=by obtain⟨ca,hv⟩:=az.1 hj;simpa using hv.symm);subst Ic;rw [Option.bind_eq_some_iff] at hg;obtain⟨tC,hc,ht⟩:=hg;exact⟨tC,x.2,hc,ht⟩
 simp at h
theorem trod_struct {fs:Array Field} (hT:P.underlying T=some (.struct fs)) (h:DataW.trod enc P w 0 sp held (f+1) T cs=some (d,p)) :
  cs.length=P.cellsOf T∧∃ parts:List (DataW H),d = .agg parts∧parts.length=fs.size ∧
   ∀ (i:Nat) (e:DataW H),parts[i]?=some e→∃ (fd:Field) (p':List MemPlace),fs[i]?=some fd∧DataW.trod enc P w 0 sp held f fd.type ((cs.drop fd.offset).take (P.cellsOf fd.type))=some (e,p'):=by
 unfold DataW.trod at h;rw [hT] at h;split at h <;> try (simp at *; done)
 rename_i fs' h1;obtain rfl:fs=fs':=by simpa using h1
 split at h;·rename_i hl;refine⟨hl,?_⟩;rw [bA] at h;obtain⟨xs,h3,h4⟩:=h;simp only [eA] at h4;obtain⟨e1,e2⟩:=vA h3;refine⟨xs.map (·.1),h4.1.symm,by rw [ab,e1]; simp,fun i e he=>?_⟩;rw [ae,bA] at he;obtain⟨x,hx,rfl⟩:=he;obtain⟨fd,hj,hg⟩:=e2 i x hx;exact⟨fd,x.2,by simpa using hj,hg⟩
 simp at h
end
end
section
def Rd (F:Addr→Option Value) (hg:Gl F) (vs:List V) (cs:List Value):Prop:=cY ⟨F,fun _ _=>none,hg⟩ vs cs∧∀ c∈cs,c.oneCell'=true
section
variable {F:Addr→Option Value} {hg:Gl F}
theorem Jp {v:Value} (h:v.oneCell'=true):Rd F hg [.sc v] [v]:=⟨.cons (.sc _ _) (.nil _),by simpa using h⟩
theorem dX {a b:List V} {cs:List Value} {off n:Nat} (h1:Rd F hg a ((cs.drop off).take n)) (h2:Rd F hg b (cs.drop (off+n))):Rd F hg (a++b) (cs.drop off):=by
 have e:cs.drop off=(cs.drop off).take n++cs.drop (off+n):=by rw [← ap8,wI]
 rw [e];refine⟨.append h1.1 h2.1,fun c hc=>?_⟩;rcases ew.1 hc with hc | hc
 ·exact h1.2 c hc
 exact h2.2 c hc
theorem Qu {cs:List Value} {off:Nat} (h:cs.length=off):Rd F hg [] (cs.drop off):=by rw [eI (by omega)];exact⟨.nil _,by simp⟩
theorem Em (a:Addr) (x y:Nat):(a.add x).add y=a.add (x+y):=by
 unfold Addr.add;by_cases hx:x=0;·subst hx; simp
 by_cases hy:y=0;·subst hy; simp
 simp [hx,hy,oI]
theorem Gx {α β:Type} {R:Nat→β→α→Prop}:∀ {es:List β},(∀ (i:Nat) (e:β),es[i]?=some e→∃ a:α,R i e a)→∃ l:List α,l.length=es.length∧∀ (i:Nat) (e:β) (a:α),es[i]?=some e→l[i]?=some a→R i e a:=by intro es;induction es generalizing R with | nil=>intro _; exact⟨[],rfl,by simp⟩ | cons e r ih =>intro h;obtain⟨a,ha⟩:=h 0 e rfl;obtain⟨l,hl,hr⟩:=ih (R:=fun i=>R (i+1)) fun i e he=>h (i+1) e (by simpa using he);refine⟨a :: l,by simp [hl],fun i e' a' he ha'=>?_⟩;cases i with | zero=>simp at he ha'; subst he; subst ha'; exact ha | succ i=>exact hr i e' a' (by simpa using he) (by simpa using ha')
theorem yq {H α:Type} {g:α→Nat}:∀ {l:List α} {es:List (DataW H)},l.length=es.length→(∀ (i:Nat) (e:DataW H) (a:α),es[i]?=some e→l[i]?=some a→g a≤Rows.uptoBulk e)→bd g l≤Rows.uptoBulkAll es
 | [],[],_,_=>by simp [bd]
 | a :: l,e :: es,hl,h=>by
  have h1:=h 0 e a rfl rfl
  have h2:=yq (l:=l) (es:=es) (g:=g) (by simpa using hl) fun i e a he ha=>h (i+1) e a (by simpa using he) (by simpa using ha)
  simp only [bd,Rows.uptoBulkAll]; omega
 | [],_ :: _,hl,_=>by simp at hl
 | _ :: _,[],hl,_=>by simp at hl
theorem Qv {H:Type} {enc:TypeId×Value→H} {P:Program} {w:World} {sp:Nat→Bool} {held:Bool} {f:Nat} {T T':TypeId} {α:Type} {row:α→V} {g:α→Nat} {n:Nat}
  (hF:F=w.cell?) (hT:P.underlying T=some (.slice T')) (hn:P.cellsOf T'=n)
  (hr:∀ {cs:List Value} {d:DataW H} {p:List MemPlace},DataW.trod enc P w 0 sp held f T' cs=some (d,p)→∃ a:α,Rd F hg (row a).cells cs∧g a≤Rows.uptoBulk d)
  {cs:List Value} {d:DataW H} {p:List MemPlace} (h:DataW.trod enc P w 0 sp held (f+1) T cs=some (d,p)) :
  ∃ l:List α,Rd F hg [.slice (l.map row)] cs∧bd g l+1≤Rows.uptoBulk d:=by
 rcases trod_slice hT h with ⟨rfl,rfl⟩ | ⟨a,cap,elems,spare,rfl,rfl,hc,he⟩
 ·exact⟨[],⟨.cons (.slice _ [] none 0 0 default (fun _ _=>default) (by simp) (by simp) (by simp) (by simp) (by simp) (by simp)) (.nil _),by simp [Value.oneCell']⟩,by simp [bd,Rows.uptoBulk]⟩
 obtain⟨l,hl,hR⟩:=Gx (es:=elems) (R:=fun i e (x:α)=>∃ tC:List Value,w.cells? 0 (a.add (i*P.cellsOf T')) (P.cellsOf T')=some tC∧Rd F hg (row x).cells tC∧g x≤Rows.uptoBulk e) fun i e hi=>by obtain⟨tC,p',h1,h2⟩:=he i e hi;obtain⟨x,h3,h4⟩:=hr h2;exact⟨x,tC,h1,h3,h4⟩
 rw [hn] at hR;have key:∀ (i:Nat) (x:α),l[i]?=some x→∃ tC:List Value,Rd F hg (row x).cells tC∧(row x).cells.length=n∧∀ (j:Nat) (c:Value),tC[j]?=some c→F (a.add (i*n+j))=some c:=fun i x hx=>by obtain⟨e,hei⟩:∃ e,elems[i]?=some e:=⟨_,ak (by rw [← hl]; exact (az.1 hx).1)⟩;obtain⟨tC,h1,h2,-⟩:=hR i e x hei hx;unfold World.cells? at h1;rw [if_pos (bn _)] at h1;obtain⟨e1,e2⟩:=vA h1;refine⟨tC,h2,by rw [h2.1.1,e1]; simp,fun j c hj=>?_⟩;obtain⟨k,hk,hc'⟩:=e2 j c hj;(have hkj:k=j:=by obtain⟨ca,hv⟩:=az.1 hk;simpa using hv.symm);subst hkj;rw [Em] at hc';rw [hF]; exact hc'
 have cell:∀ (i:Nat) (r:V) (j:Nat) (c:V),(l.map row)[i]?=some r→r.cells[j]?=some c→∃ x,F (a.add (i*n+j))=some x∧x.oneCell'=true∧dh ⟨F,fun _ _=>none,hg⟩ c x:=fun i r j c hi hj=>by rw [ae,bA] at hi;obtain⟨x,hx,rfl⟩:=hi;obtain⟨tC,h2,-,h3⟩:=key i x hx;obtain⟨y,hy,ni⟩:=h2.1.get hj;exact⟨y,h3 j y hy,h2.2 y (aB hy),ni⟩
 refine⟨l,⟨.cons ?_ (.nil _),by simp [Value.oneCell']⟩,?_⟩
 ·have:=dh.slice ⟨F,fun _ _=>none,hg⟩ (l.map row) (some a) cap n a (fun i j=>(F (a.add (i*n+j))).getD default) (fun _=>rfl) (by rw [ab,hl]; exact hc)
   (fun i r hi=>by
    rw [ae,bA] at hi
    obtain⟨x,hx,rfl⟩:=hi
    obtain⟨_,-,h,-⟩:=key i x hx
    exact h)
   (fun i r j c hi hj=>by obtain⟨x,h,-,-⟩:=cell i r j c hi hj; show F _=some ((F _).getD _); rw [h]; rfl)
   (fun i r j c hi hj=>by obtain⟨x,h,h',-⟩:=cell i r j c hi hj; show Value.oneCell' ((F _).getD _)=true; rw [h]; exact h')
   (fun i r j c hi hj=>by obtain⟨x,h,-,h'⟩:=cell i r j c hi hj; show dh _ c ((F _).getD _); rw [h]; exact h')
  rwa [ab,hl] at this
 have:=yq (g:=g) hl fun i e x he hx=>by obtain⟨_,-,-,h⟩:=hR i e x he hx; exact h
 simp only [Rows.uptoBulk]; omega
end
def Jq {H:Type} (enc:TypeId×Value→H) (P:Program) (w:World) (sp:Nat→Bool) (held:Bool) (f:Nat) (cs:List Value):List Field→(List (DataW H)→Prop)→Prop
 | [],K=>K []
 | fd :: r,K=>∃ (e:DataW H) (p:List MemPlace),DataW.trod enc P w 0 sp held f fd.type ((cs.drop fd.offset).take (P.cellsOf fd.type))=some (e,p)∧Jq enc P w sp held f cs r fun es=>K (e :: es)
theorem CV {H:Type} {enc:TypeId×Value→H} {P:Program} {w:World} {sp:Nat→Bool} {held:Bool} {f:Nat} {cs:List Value}:∀ {fs:List Field} {K:List (DataW H)→Prop} {es:List (DataW H)},es.length=fs.length →
  (∀ (i:Nat) (e:DataW H),es[i]?=some e→∃ (fd:Field) (p':List MemPlace),fs[i]?=some fd∧DataW.trod enc P w 0 sp held f fd.type ((cs.drop fd.offset).take (P.cellsOf fd.type))=some (e,p'))→K es→Jq enc P w sp held f cs fs K
 | [],K,[],_,_,hK=>hK
 | fd :: r,K,e :: es,hl,h,hK=>by
  obtain⟨fd',p',h1,h2⟩:=h 0 e rfl
  obtain rfl:fd=fd':=by simpa using h1
  exact⟨e,p',h2,CV (es:=es) (by simpa using hl) (fun i e he=>by simpa using h (i+1) e (by simpa using he)) hK⟩
 | [],_,_ :: _,hl,_,_=>by simp at hl
 | _ :: _,_,[],hl,_,_=>by simp at hl
theorem kq {H:Type} {enc:TypeId×Value→H} {P:Program} {w:World} {sp:Nat→Bool} {held:Bool} {f:Nat} {T:TypeId} {cs:List Value} {d:DataW H} {p:List MemPlace} {fs:Array Field}
  (hT:P.underlying T=some (.struct fs)) (h:DataW.trod enc P w 0 sp held (f+1) T cs=some (d,p)):cs.length=P.cellsOf T∧Jq enc P w sp held f cs fs.toList fun es=>d = .agg es:=by obtain⟨h1,parts,h2,h3,h4⟩:=trod_struct hT h;exact⟨h1,CV (by simpa using h3) (fun i e he=>by simpa using h4 i e he) h2⟩
end
end Go.Proofs.YtnboooapeopjoaaGreatDoor
end

section
namespace Go.Proofs.YtnboooapeopjoaaGreatDoor
set_option maxHeartbeats 4000000
set_option maxRecDepth 100000
structure W8 where
 lo:Int
 hi:Int
structure W9 where
 mj:Int
 mn:Int
 pt:Int
structure Rq where
 path:ByteArray
 set:List W8
structure Rl where
 path:ByteArray
 dV:W9
 reqs:List Rq
 ar:ByteArray
 itf:ByteArray
 ce:ByteArray
 yk:Bool
structure Zb where
 path:ByteArray
 dV:W9
theorem W9.ext' {a b:W9} (h1:a.mj=b.mj) (h2:a.mn=b.mn) (h3:a.pt=b.pt):a=b:=by cases a; cases b; simp_all
theorem W8.ext' {a b:W8} (h1:a.lo=b.lo) (h2:a.hi=b.hi):a=b:=by cases a; cases b; simp_all
instance:DecidableEq W8:=fun a b=>if h:a.lo=b.lo∧a.hi=b.hi then .isTrue (W8.ext' h.1 h.2) else .isFalse fun e=>h (by subst e; exact⟨rfl,rfl⟩)
theorem Zb.ext' {a b:Zb} (h1:a.path=b.path) (h2:a.dV=b.dV):a=b:=by cases a; cases b; simp_all
instance:DecidableEq W9:=fun a b=>if h:a.mj=b.mj∧a.mn=b.mn∧a.pt=b.pt then .isTrue (W9.ext' h.1 h.2.1 h.2.2) else .isFalse fun e=>h (by subst e; exact⟨rfl,rfl,rfl⟩)
instance:DecidableEq Zb:=fun a b=>if h:a.path=b.path∧a.dV=b.dV then .isTrue (Zb.ext' h.1 h.2) else .isFalse fun e=>h (by subst e; exact⟨rfl,rfl⟩)
def Rl.key (r:Rl):Zb:=⟨r.path,r.dV⟩
def W9.place (v:W9):Int:=1000*v.mn+v.pt
def has (s:List W8) (p:Int):Bool:=decide (0≤p)&&decide (p<1000000)&&s.any fun x=>decide (x.lo≤p)&&decide (p<x.hi)
def adR (q:Rq) (r:Rl):Bool:=decide (q.path=r.path)&&has q.set r.dV.place
inductive Qw (l:List Rl) (roots:List Rq):Rl→Prop
 | root (q:Rq) (r:Rl) (hq:q∈roots) (hr:r∈l) (h:adR q r=true):Qw l roots r
 | step (a:Rl) (q:Rq) (r:Rl) (ha:Qw l roots a) (hq:q∈a.reqs) (hr:r∈l) (h:adR q r=true):Qw l roots r
theorem Qw.mem {l:List Rl} {roots:List Rq} {r:Rl} (h:Qw l roots r):r∈l:=by cases h <;> assumption
theorem Qw.mono {l:List Rl} {roots more:List Rq} (hm:∀ q∈roots,q∈more) {r:Rl} (h:Qw l roots r):Qw l more r:=by induction h with | root q r hq hr h=>exact .root q r (hm q hq) hr h | step a q r _ hq hr h ih=>exact .step a q r ih hq hr h
inductive Zc (l:List Rl) (roots:List Rq):ByteArray→Prop
 | root (q:Rq) (hq:q∈roots):Zc l roots q.path
 | step (a:Rl) (q:Rq) (ha:a∈l) (hn:Zc l roots a.path) (hq:q∈a.reqs):Zc l roots q.path
theorem Qw.sub {l m:List Rl} {roots:List Rq} (hlm:∀ r∈l,r∈m) {r:Rl} (h:Qw l roots r):Qw m roots r:=by induction h with | root q r hq hr h=>exact .root q r hq (hlm r hr) h | step a q r _ hq hr h ih=>exact .step a q r ih hq (hlm r hr) h
def gg (s:ByteArray):List UInt8:=s.data.toList
end Go.Proofs.YtnboooapeopjoaaGreatDoor
end

section
namespace Go.Proofs.YtnboooapeopjoaaGreatDoor
open Go.Eng
variable [bg]
open Nat renaming reduceAdd → zA, reduceLT → zB, reduceLeDiff → zC, reduceMul → zD, reduceEqDiff → zE, reduceSub → zF
set_option maxHeartbeats 4000000
set_option maxRecDepth 100000
def Zd (s:W8):V:=.agg [num s.lo,num s.hi]
def Qx (l:List W8):V:=.slice (l.map Zd)
def adS (q:Rq):V:=.agg [str q.path,Qx q.set]
def Qy (l:List Rq):V:=.slice (l.map adS)
def Ze (s:Zb):V:=.agg [str s.path,num s.dV.mj,num s.dV.mn,num s.dV.pt]
def Uy (l:List Zb):V:=.slice (l.map Ze)
def Uz (r:Rl):List V:=[str r.path,num r.dV.mj,num r.dV.mn,num r.dV.pt,Qy r.reqs,str r.ar,str r.itf,str r.ce,bl r.yk]
def adT (r:Rl):V:=.agg (Uz r)
def Zf (l:List Rl):V:=.slice (l.map adT)
attribute [go_sem] Qx Qy Uy Zf
theorem Zg {s e:ByteArray} (he:e.size=0) (h:(!(s.toList==e.toList))=true):∃ c,s[0]?=some c:=by
 refine ft (s:=s) (i:=0) ?_;rcases apW s.size with hz | hz
 ·exfalso;(have e1:s.toList=e.toList:=by rw [ByteArray.toList_eq,ByteArray.toList_eq];(have a1:s.data.toList=[]:=by simpa [← cC,jY] using hz);(have a2:e.data.toList=[]:=by simpa [← cC,jY] using he);rw [a1,a2]);rw [e1] at h; simp at h
 exact hz
def Cf (c:Int):Bool:=decide (97≤c)&&decide (c≤122)
def Gy (c:Int):Bool:=decide (65≤c)&&decide (c≤90)
def kr (c:Int):Bool:=decide (48≤c)&&decide (c≤57)
def oK (c:Int):Bool:=Cf c||Gy c||kr c||decide (c=95)
def AA (c:Int):Bool:=Cf c||kr c
def lP (p:Int→Bool) (s:ByteArray):Bool:=s.data.toList.all fun b=>p b.toNat
def ff (s:ByteArray) (i:Nat):Int:=match s[i]? with | some c=>c.toNat | none=>0
theorem rV {s:ByteArray} {i:Nat} {c:UInt8} (h:s[i]?=some c):s.data.toList[i]?=some c:=by
 obtain⟨h1,h2⟩:=getElem?_eq_some_iff.1 h;have h3:i<s.data.toList.length:=by simpa using h1
 rw [ak h3];exact congrArg some (by rw [Array.getElem_toList]; exact h2)
theorem fM {s:ByteArray} {i:Nat} {c:UInt8} (h:s[i]?=some c):ff s i=c.toNat:=by unfold ff; rw [h]
theorem pX {p:Int→Bool} {s:ByteArray} (h:∀ j<s.size,∀ b,s[j]?=some b→p b.toNat=true):lP p s=true:=by
 refine a7.2 fun b hb=>?_;obtain⟨j,hj⟩:=cq.1 hb;have h1:j<s.size:=by have:=(az.1 hj).1; simpa using this
 obtain⟨c,hc⟩:=ft h1;have:=rV hc;rw [hj] at this; cases this;exact h j h1 b hc
theorem ov {p:Int→Bool} {s:ByteArray} {j:Nat} {b:UInt8} (h:s[j]?=some b) (hp:p b.toNat=false):lP p s=false:=by have hm:=aB (rV h);cases ha:lP p s with | false=>rfl | true=>have:=a7.1 ha b hm; rw [hp] at this; cases this
def pn (s:ByteArray):Bool:=decide (1≤s.size)&&decide (s.size≤32)&&Gy (ff s 0)&&lP oK s
theorem En {s e:ByteArray} (he:e.size=0) (h:(!(s.toList==e.toList))=true):1≤s.size:=by obtain⟨c,hc⟩:=Zg he h;exact (getElem?_eq_some_iff.1 hc).1
theorem AB {s e:ByteArray} (he:e.size=0) (h:(!(s.toList==e.toList))=false):s.size=0:=by
 have e1:s.toList=e.toList:=by simpa using h
 rw [ByteArray.toList_eq,ByteArray.toList_eq] at e1;have:=congrArg List.length e1;simp only [jY] at this;exact Eq.trans this he
theorem AE (c:Int):∃ r_,(fun w=>w=bl (Cf c)) r_∧bR af 178 [.sc (.int .u8 c)] r_:=by
 refine j3 tt_ok [] 9 [.tmp 2] (fn:=Tryz.f178) Tryz.func178 rfl Tryz.call178 ⟨rfl,rfl,by simp⟩ fun K hK=>?_;simp only [go_sem];refine bY (fun ir=>?_) (fun ir=>?_);·simp only [go_sem];exact hK _ (congrArg bl (by simp_all [Cf] <;> (intros; omega)))
 simp only [go_sem];exact hK _ (congrArg bl (by simp_all [Cf] <;> (intros; omega)))
theorem AF (c:Int):∃ r_,(fun w=>w=bl (Gy c)) r_∧bR af 168 [.sc (.int .u8 c)] r_:=by
 refine j3 tt_ok [] 9 [.tmp 2] (fn:=Tryz.f168) Tryz.func168 rfl Tryz.call168 ⟨rfl,rfl,by simp⟩ fun K hK=>?_;simp only [go_sem];refine bY (fun ir=>?_) (fun ir=>?_);·simp only [go_sem];exact hK _ (congrArg bl (by simp_all [Gy] <;> (intros; omega)))
 simp only [go_sem];exact hK _ (congrArg bl (by simp_all [Gy] <;> (intros; omega)))
theorem vB (c:Int):∃ r_,(fun w=>w=bl (kr c)) r_∧bR af 198 [.sc (.int .u8 c)] r_:=by
 refine j3 tt_ok [] 9 [.tmp 2] (fn:=Tryz.f198) Tryz.func198 rfl Tryz.call198 ⟨rfl,rfl,by simp⟩ fun K hK=>?_;simp only [go_sem];refine bY (fun ir=>?_) (fun ir=>?_);·simp only [go_sem];exact hK _ (congrArg bl (by simp_all [kr] <;> (intros; omega)))
 simp only [go_sem];exact hK _ (congrArg bl (by simp_all [kr] <;> (intros; omega)))
theorem xn (c:Int):∃ r_,(fun w=>w=bl (Cf c)) r_∧bR af 58 [.sc (.int .u8 c)] r_:=by
 refine j3 tt_ok [] 9 [.tmp 2] (fn:=Tryz.f58) Tryz.func58 rfl Tryz.call58 ⟨rfl,rfl,by simp⟩ fun K hK=>?_;simp only [go_sem];refine bY (fun ir=>?_) (fun ir=>?_);·simp only [go_sem];exact hK _ (congrArg bl (by simp_all [Cf] <;> (intros; omega)))
 simp only [go_sem];exact hK _ (congrArg bl (by simp_all [Cf] <;> (intros; omega)))
theorem Gz (c:Int):∃ r_,(fun w=>w=bl (Gy c)) r_∧bR af 154 [.sc (.int .u8 c)] r_:=by
 refine j3 tt_ok [] 9 [.tmp 2] (fn:=Tryz.f154) Tryz.func154 rfl Tryz.call154 ⟨rfl,rfl,by simp⟩ fun K hK=>?_;simp only [go_sem];refine bY (fun ir=>?_) (fun ir=>?_);·simp only [go_sem];exact hK _ (congrArg bl (by simp_all [Gy] <;> (intros; omega)))
 simp only [go_sem];exact hK _ (congrArg bl (by simp_all [Gy] <;> (intros; omega)))
theorem sS (c:Int):∃ r_,(fun w=>w=bl (kr c)) r_∧bR af 153 [.sc (.int .u8 c)] r_:=by
 refine j3 tt_ok [] 9 [.tmp 2] (fn:=Tryz.f153) Tryz.func153 rfl Tryz.call153 ⟨rfl,rfl,by simp⟩ fun K hK=>?_;simp only [go_sem];refine bY (fun ir=>?_) (fun ir=>?_);·simp only [go_sem];exact hK _ (congrArg bl (by simp_all [kr] <;> (intros; omega)))
 simp only [go_sem];exact hK _ (congrArg bl (by simp_all [kr] <;> (intros; omega)))
theorem Li (c:Int):∃ r_,(fun w=>w=bl (oK c)) r_∧bR af 170 [.sc (.int .u8 c)] r_:=by
 refine j3 tt_ok [] 17 [.tmp 2] (fn:=Tryz.f170) Tryz.func170 rfl Tryz.call170 ⟨rfl,rfl,by simp⟩ fun K hK=>?_;simp only [go_sem];refine cF (AE _) ?_;rintro _ rfl;simp only [go_sem];refine bY (fun ir=>?_) (fun ir=>?_);·simp only [go_sem];exact hK _ (congrArg bl (by simp_all [oK]))
 simp only [go_sem];refine cF (AF _) ?_;rintro _ rfl;simp only [go_sem];refine bY (fun vC=>?_) (fun vC=>?_);·simp only [go_sem];exact hK _ (congrArg bl (by simp_all [oK]))
 simp only [go_sem];refine cF (vB _) ?_;rintro _ rfl;simp only [go_sem];refine bY (fun AH=>?_) (fun AH=>?_);·simp only [go_sem];exact hK _ (congrArg bl (by simp_all [oK]))
 simp only [go_sem];exact hK _ (congrArg bl (by simp_all [oK]))
theorem Qz (c:Int):∃ r_,(fun w=>w=bl (oK c)) r_∧bR af 107 [.sc (.int .u8 c)] r_:=by
 refine j3 tt_ok [] 17 [.tmp 2] (fn:=Tryz.f107) Tryz.func107 rfl Tryz.call107 ⟨rfl,rfl,by simp⟩ fun K hK=>?_;simp only [go_sem];refine cF (xn _) ?_;rintro _ rfl;simp only [go_sem];refine bY (fun ir=>?_) (fun ir=>?_);·simp only [go_sem];exact hK _ (congrArg bl (by simp_all [oK]))
 simp only [go_sem];refine cF (Gz _) ?_;rintro _ rfl;simp only [go_sem];refine bY (fun vC=>?_) (fun vC=>?_);·simp only [go_sem];exact hK _ (congrArg bl (by simp_all [oK]))
 simp only [go_sem];refine cF (sS _) ?_;rintro _ rfl;simp only [go_sem];refine bY (fun AH=>?_) (fun AH=>?_);·simp only [go_sem];exact hK _ (congrArg bl (by simp_all [oK]))
 simp only [go_sem];exact hK _ (congrArg bl (by simp_all [oK]))
theorem adU (c:Int):∃ r_,(fun w=>w=bl (AA c)) r_∧bR af 197 [.sc (.int .u8 c)] r_:=by
 refine j3 tt_ok [] 9 [.tmp 2] (fn:=Tryz.f197) Tryz.func197 rfl Tryz.call197 ⟨rfl,rfl,by simp⟩ fun K hK=>?_;simp only [go_sem];refine cF (AE _) ?_;rintro _ rfl;simp only [go_sem];refine bY (fun ir=>?_) (fun ir=>?_);·simp only [go_sem];exact hK _ (congrArg bl (by simp_all [AA]))
 simp only [go_sem];refine cF (vB _) ?_;rintro _ rfl;simp only [go_sem];exact hK _ (congrArg bl (by simp_all [AA]))
theorem AI (g:FuncId) (p:Int→Bool) (hg:∀ c:Int,∃ r,(fun v=>v=bl (p c)) r∧bR af g [.sc (.int .u8 c)] r) (s:ByteArray) (hs:s.size≤1048576):∃ r_,(fun w=>w=bl (lP p s)) r_∧bR af 169 [str s,.sc (.func (.func g) #[] #[])] r_:=by
 refine j3 tt_ok [] 18 [.tmp 4] (fn:=Tryz.f169) Tryz.func169 rfl Tryz.call169 ⟨rfl,rfl,by simp⟩ fun K hK=>?_;have ox:af.underlying 9=some .string:=by kernel_rfl
 have sl:∀ (a:ByteArray) (ty:TypeId),j5 af (Builtin.len_ #[9] ty) [.sc (.string a)]=some (num a.size):=fun a ty=>jI (P:=af) (tt:=tt) (T:=9) a ox ty;simp only [sl,go_sem];refine fQ tt_ok [] [8] 0 [0,1,7] (fun vs=>((s.size:Int)-Go.Eng.intOf (vs.headD .undef)).toNat) (fun vs=>∃ i:Nat,vs=[num i]∧i≤s.size∧∀ j<i,∀ b,s[j]?=some b→p b.toNat=true) (by omega) (by simp only [sl,go_sem]) (⟨0,rfl,bn _,fun j hj=>absurd hj (du j)⟩) fun vs hI Z1 eh=>?_;obtain⟨i,rfl,hi,jt⟩:=hI;simp only [sl,go_sem];refine bY (fun ka=>?_) (fun ka=>?_);·(have ca:i<s.size:=by simpa using ka);have hw:=bx i (by omega);obtain⟨c,uP⟩:=ft (s:=s) (i:=i) ca;have n6:=gJ (P:=af) s ox .i64 (i:Int) (by omega) (c:=c) (show s[((i:Nat):Int).toNat]?=some c from uP);simp only [hw,n6,sl,go_sem];refine cF (hg _) ?_;rintro _ rfl;simp only [hw,n6,sl,go_sem];refine bY (fun fg=>?_) (fun fg=>?_);(·have bU:false=lP p s:=(ov uP (by simpa using fg)).symm;simp only [hw,n6,sl,go_sem];exact hK _ (congrArg bl bU));simp only [hw,n6,sl,go_sem];refine eh _ (lO (by omega) (by simp only [hw,n6,sl,go_sem]) ?_ ?_) <;> simp only [eW,lk,reduceIte,zE];(·refine⟨i+1,rfl,ca,fun j hj b hb=>?_⟩;(rcases bL j i with h | h);(·exact jt j h b hb);(obtain rfl:j=i:=by omega);rw [uP] at hb; cases hb; simpa using fg);simp only [Go.Eng.intOf,cr]; omega
 have ig:¬ i<s.size:=by simpa using ka
 have bU:true=lP p s:=(pX fun j hj b hb=>jt j (by omega) b hb).symm;simp only [sl,go_sem];exact hK _ (congrArg bl bU)
theorem QA (s:ByteArray) (hs:s.size≤1048576):∃ r_,(fun w=>w=bl (lP oK s)) r_∧bR af 59 [str s] r_:=by
 refine j3 tt_ok [] 15 [.tmp 2] (fn:=Tryz.f59) Tryz.func59 rfl Tryz.call59 ⟨rfl,rfl,by simp⟩ fun K hK=>?_;have ox:af.underlying 9=some .string:=by kernel_rfl
 have sl:∀ (a:ByteArray) (ty:TypeId),j5 af (Builtin.len_ #[9] ty) [.sc (.string a)]=some (num a.size):=fun a ty=>jI (P:=af) (tt:=tt) (T:=9) a ox ty;simp only [sl,go_sem];refine fQ tt_ok [] [3] 0 [0] (fun vs=>((s.size:Int)-Go.Eng.intOf (vs.headD .undef)).toNat) (fun vs=>∃ i:Nat,vs=[num i]∧i≤s.size∧∀ j<i,∀ b,s[j]?=some b→oK b.toNat=true) (by omega) (by simp only [sl,go_sem]) (⟨0,rfl,bn _,fun j hj=>absurd hj (du j)⟩) fun vs hI Z1 eh=>?_;obtain⟨i,rfl,hi,jt⟩:=hI;simp only [sl,go_sem];refine bY (fun AJ=>?_) (fun AJ=>?_);·(have ca:i<s.size:=by simpa using AJ);have hw:=bx i (by omega);obtain⟨c,uP⟩:=ft (s:=s) (i:=i) ca;have n6:=gJ (P:=af) s ox .i64 (i:Int) (by omega) (c:=c) (show s[((i:Nat):Int).toNat]?=some c from uP);simp only [hw,n6,sl,go_sem];refine cF (Qz _) ?_;rintro _ rfl;simp only [hw,n6,sl,go_sem];refine bY (fun uv=>?_) (fun uv=>?_);(·have bU:false=lP oK s:=(ov uP (by simpa using uv)).symm;simp only [hw,n6,sl,go_sem];exact hK _ (congrArg bl bU));simp only [hw,n6,sl,go_sem];refine eh _ (lO (by omega) (by simp only [hw,n6,sl,go_sem]) ?_ ?_) <;> simp only [eW,lk,reduceIte,zE];(·refine⟨i+1,rfl,ca,fun j hj b hb=>?_⟩;(rcases bL j i with h | h);(·exact jt j h b hb);(obtain rfl:j=i:=by omega);rw [uP] at hb; cases hb; simpa using uv);simp only [Go.Eng.intOf,cr]; omega
 have ig:¬ i<s.size:=by simpa using AJ
 have bU:true=lP oK s:=(pX fun j hj b hb=>jt j (by omega) b hb).symm;simp only [sl,go_sem];exact hK _ (congrArg bl bU)
def UA (a b:ByteArray):Bool:=Op.bytesLess a.toList b.toList
theorem bN (a b:ByteArray):(a.toList==b.toList)=decide (a=b):=by rw [mB,beq_iff_eq,decide_eq_true_eq];refine⟨fun h=>?_,fun h=>by rw [h]⟩;rw [ByteArray.toList_eq,ByteArray.toList_eq] at h;cases a; cases b; congr 1; exact apA.1 h
theorem QB (a b:ByteArray):UA a b=decide (a.data.toList<b.data.toList):=by unfold UA;rw [Proofs.bytesLess_eq,ByteArray.toList_eq,ByteArray.toList_eq]
def xp (a b:ByteArray):Int:=if UA a b=true then -1 else if a=b then 0 else 1
theorem rW {α:Type} {q:α→Bool} {l:List α} {i:Nat} {x:α} (h:l[i]?=some x) (hq:q x=true):l.any q=true:=agH.2 ⟨x,aB h,hq⟩
theorem any_none {α:Type} {q:α→Bool} {l:List α} (h:∀ j<l.length,∀ x,l[j]?=some x→q x=false):l.any q=false:=by rw [apB];intro x hx;obtain⟨j,hj⟩:=cq.1 hx;rw [h j (az.1 hj).1 x hj]; simp
def jg (s:ByteArray) (l:List ByteArray):Bool:=l.any fun b=>decide (s=b)
theorem nW {s:ByteArray} {l:List ByteArray}:jg s l=true↔s∈l:=by unfold jg; simp
end Go.Proofs.YtnboooapeopjoaaGreatDoor
end
