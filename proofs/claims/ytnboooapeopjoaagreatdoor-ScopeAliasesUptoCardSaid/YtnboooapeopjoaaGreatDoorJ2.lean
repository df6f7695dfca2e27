import Derived.Test.YtnboooapeopjoaaGreatDoorJ1
import Derived.Test.YtnboooapeopjoaaGreatDoorRows
import Derived.Sort.Walk0
open Array renaming length_toList→jq,toList_inj→aeq
open Bool renaming eq_iff_iff→ae4
open Go.Proofs.Tryz renaming prog→ab
open List renaming all_eq_true→aY,any_eq_false→ano,any_eq_true→am3,drop_eq_nil_of_le→dX,getElem?_eq_getElem→ah,getElem?_eq_some_iff→ax,getElem?_map→ae,headD_cons→cM,length_eq_zero_iff→cd,length_map→ag,mapM_cons→ani,mem_append→fI,mem_iff_getElem?→bL,mem_of_getElem?→ay,take_append_drop→u4
open Nat renaming add_assoc→nH,eq_zero_or_pos→anr,lt_or_ge→bW,not_lt_zero→iK,zero_le→bx
open Option renaming bind_some→ann,map_eq_some_iff→br
open Prod.mk renaming injEq→dQ
set_option linter.all false
section
namespace Go.Proofs.YtnboooapeopjoaaGreatDoor
open Go.Eng
variable [a6]
set_option maxHeartbeats 4000000
set_option maxRecDepth 100000
section
section
variable {H:Type} {enc:TypeId×Value→H} {P:Program} {w:World} {sp:Nat→Bool} {held:Bool} {f:Nat} {T:TypeId} {cs:List Value} {d:DataW H} {p:List MemPlace}
theorem trod_bool (hT:P.underlying T=some .bool) (h:DataW.trod enc P w 0 sp held (f+1) T cs=some (d,p)):∃ b,cs=[.bool b]∧d = .lit (.bool b):=by unfold DataW.trod at h;rw [hT] at h;split at h <;> simp_all
theorem trod_int {k:IntKind} (hT:P.underlying T=some (.int k)) (h:DataW.trod enc P w 0 sp held (f+1) T cs=some (d,p)):∃ n,cs=[.int k n]∧d = .lit (.int k n):=by unfold DataW.trod at h;rw [hT] at h;split at h <;> simp_all
theorem trod_string (hT:P.underlying T=some .string) (h:DataW.trod enc P w 0 sp held (f+1) T cs=some (d,p)):∃ s,cs=[.string s]∧d = .lit (.string s.data.toList):=by unfold DataW.trod at h;rw [hT] at h;split at h <;> simp_all
theorem uj {α β:Type} {g:α→Option β}:∀ {l:List α} {r:List β},l.mapM g=some r→r.length=l.length∧∀ (i:Nat) (b:β),r[i]?=some b→∃ a:α,l[i]?=some a∧g a=some b
 | [],r,h=>by simp at h; subst h; simp
 | a :: l,r,h=>by
  rw [ani] at h
  cases h1:g a with
  | none=>rw [h1] at h; simp at h
  | some b =>
   rw [h1] at h
   cases h2:l.mapM g with
   | none=>rw [h2] at h; simp at h
   | some r' =>
    rw [h2] at h
    simp at h
    subst h
    obtain⟨e1,e2⟩:=uj h2
    refine⟨by simp [e1],fun i b' hb=>?_⟩
    cases i with
    | zero=>simp at hb; subst hb; exact⟨a,rfl,h1⟩
    | succ i=>simpa using e2 i b' (by simpa using hb)
theorem trod_slice {T':TypeId} (hT:P.underlying T=some (.slice T')) (h:DataW.trod enc P w 0 sp held (f+1) T cs=some (d,p)) :
  (cs=[.slice none 0 0]∧d = .nil)∨∃ (a:Addr) (cap:Nat) (elems spare:List (DataW H)),cs=[.slice (some a) elems.length cap]∧d = .slice elems spare∧elems.length≤cap ∧
   ∀ (i:Nat) (e:DataW H),elems[i]?=some e→∃ sj p',w.cells? 0 (a.add (i*P.cellsOf T')) (P.cellsOf T')=some sj∧DataW.trod enc P w 0 sp held f T' sj=some (e,p'):=by
 unfold DataW.trod at h;rw [hT] at h;split at h <;> try (simp at *; done)
 ·rename_i e' h1 h2;simp at h;exact .inl ⟨rfl,h.1.symm⟩
 rename_i e' a len cap h1;obtain rfl:T'=e':=by simpa using h1
 refine .inr ?_;dsimp only at h;split at h;·rename_i hb;cases h3:(List.range len).mapM (fun i=>(w.cells? 0 (a.add (i*P.cellsOf T')) (P.cellsOf T')).bind (DataW.trod enc P w 0 sp held f T')) with | none=>rw [h3] at h; simp at h | some elems =>rw [h3] at h;obtain⟨e1,e2⟩:=uj h3;simp only [ann,br] at h;obtain⟨rest,-,h5⟩:=h;simp only [dQ] at h5;(have hl:elems.length=len:=by simpa using e1);refine⟨a,cap,elems.map (·.1),rest.map (·.1),by rw [ag,hl],h5.1.symm,by rw [ag,hl]; exact hb.2.1,fun i e he=>?_⟩;rw [ae,br] at he;obtain⟨x,hx,rfl⟩:=he;obtain⟨j,hj,hg⟩:=e2 i x hx;(have Gd:j=i:=by obtain⟨bX,hv⟩:=ax.1 hj;simpa using hv.symm);subst Gd;rw [Option.bind_eq_some_iff] at hg;obtain⟨sj,hc,ht⟩:=hg;exact⟨sj,x.2,hc,ht⟩
 simp at h
theorem trod_struct {fs:Array Field} (hT:P.underlying T=some (.struct fs)) (h:DataW.trod enc P w 0 sp held (f+1) T cs=some (d,p)) :
  cs.length=P.cellsOf T∧∃ parts:List (DataW H),d = .agg parts∧parts.length=fs.size ∧
   ∀ (i:Nat) (e:DataW H),parts[i]?=some e→∃ (fd:Field) (p':List MemPlace),fs[i]?=some fd∧DataW.trod enc P w 0 sp held f fd.type ((cs.drop fd.offset).take (P.cellsOf fd.type))=some (e,p'):=by
 unfold DataW.trod at h;rw [hT] at h;split at h <;> try (simp at *; done)
 rename_i fs' h1;obtain rfl:fs=fs':=by simpa using h1
 split at h;·rename_i hl;refine⟨hl,?_⟩;rw [br] at h;obtain⟨xs,h3,h4⟩:=h;simp only [dQ] at h4;obtain⟨e1,e2⟩:=uj h3;refine⟨xs.map (·.1),h4.1.symm,by rw [ag,e1]; simp,fun i e he=>?_⟩;rw [ae,br] at he;obtain⟨x,hx,rfl⟩:=he;obtain⟨fd,hj,hg⟩:=e2 i x hx;exact⟨fd,x.2,by simpa using hj,hg⟩
 simp at h
end
end
section
def Rd (F:Addr→Option Value) (hg:Gl F) (vs:List V) (cs:List Value):Prop:=cz ⟨F,fun _ _=>none,hg⟩ vs cs∧∀ c∈cs,c.oneCell'=true
section
variable {F:Addr→Option Value} {hg:Gl F}
theorem Hl {v:Value} (h:v.oneCell'=true):Rd F hg [.sc v] [v]:=⟨.cons (.sc _ _) (.nil _),by simpa using h⟩
theorem dy {a b:List V} {cs:List Value} {off n:Nat} (h1:Rd F hg a ((cs.drop off).take n)) (h2:Rd F hg b (cs.drop (off+n))):Rd F hg (a++b) (cs.drop off):=by
 have e:cs.drop off=(cs.drop off).take n++cs.drop (off+n):=by rw [← List.drop_drop,u4]
 rw [e];refine⟨.append h1.1 h2.1,fun c hc=>?_⟩;rcases fI.1 hc with hc | hc
 ·exact h1.2 c hc
 exact h2.2 c hc
theorem Nv {cs:List Value} {off:Nat} (h:cs.length=off):Rd F hg [] (cs.drop off):=by rw [dX (by omega)];exact⟨.nil _,by simp⟩
theorem CC (a:Addr) (x y:Nat):(a.add x).add y=a.add (x+y):=by
 unfold Addr.add;by_cases hx:x=0;·subst hx; simp
 by_cases hy:y=0;·subst hy; simp
 simp [hx,hy,nH]
theorem ED {α β:Type} {R:Nat→β→α→Prop}:∀ {es:List β},(∀ (i:Nat) (e:β),es[i]?=some e→∃ a:α,R i e a)→∃ l:List α,l.length=es.length∧∀ (i:Nat) (e:β) (a:α),es[i]?=some e→l[i]?=some a→R i e a:=by intro es;induction es generalizing R with | nil=>intro _; exact⟨[],rfl,by simp⟩ | cons e r ih =>intro h;obtain⟨a,ha⟩:=h 0 e rfl;obtain⟨l,hl,hr⟩:=ih (R:=fun i=>R (i+1)) fun i e he=>h (i+1) e (by simpa using he);refine⟨a :: l,by simp [hl],fun i e' a' he ZJ=>?_⟩;cases i with | zero=>simp at he ZJ; subst he; subst ZJ; exact ha | succ i=>exact hr i e' a' (by simpa using he) (by simpa using ZJ)
theorem wW {H α:Type} {g:α→Nat}:∀ {l:List α} {es:List (DataW H)},l.length=es.length→(∀ (i:Nat) (e:DataW H) (a:α),es[i]?=some e→l[i]?=some a→g a≤Rows.uptoBulk e)→aZ g l≤Rows.uptoBulkAll es
 | [],[],_,_=>by simp [aZ]
 | a :: l,e :: es,hl,h=>by
  have h1:=h 0 e a rfl rfl
  have h2:=wW (l:=l) (es:=es) (g:=g) (by simpa using hl) fun i e a he ha=>h (i+1) e a (by simpa using he) (by simpa using ha)
  simp only [aZ,Rows.uptoBulkAll]; omega
 | [],_ :: _,hl,_=>by simp at hl
 | _ :: _,[],hl,_=>by simp at hl
theorem Nw {H:Type} {enc:TypeId×Value→H} {P:Program} {w:World} {sp:Nat→Bool} {held:Bool} {f:Nat} {T T':TypeId} {α:Type} {row:α→V} {g:α→Nat} {n:Nat}
  (hF:F=w.cell?) (hT:P.underlying T=some (.slice T')) (hn:P.cellsOf T'=n)
  (hr:∀ {cs:List Value} {d:DataW H} {p:List MemPlace},DataW.trod enc P w 0 sp held f T' cs=some (d,p)→∃ a:α,Rd F hg (row a).cells cs∧g a≤Rows.uptoBulk d)
  {cs:List Value} {d:DataW H} {p:List MemPlace} (h:DataW.trod enc P w 0 sp held (f+1) T cs=some (d,p)) :
  ∃ l:List α,Rd F hg [.slice (l.map row)] cs∧aZ g l+1≤Rows.uptoBulk d:=by
 rcases trod_slice hT h with ⟨rfl,rfl⟩ | ⟨a,cap,elems,spare,rfl,rfl,hc,he⟩
 ·exact⟨[],⟨.cons (.slice _ [] none 0 0 default (fun _ _=>default) (by simp) (by simp) (by simp) (by simp) (by simp) (by simp)) (.nil _),by simp [Value.oneCell']⟩,by simp [aZ,Rows.uptoBulk]⟩
 obtain⟨l,hl,hR⟩:=ED (es:=elems) (R:=fun i e (x:α)=>∃ sj:List Value,w.cells? 0 (a.add (i*P.cellsOf T')) (P.cellsOf T')=some sj∧Rd F hg (row x).cells sj∧g x≤Rows.uptoBulk e) fun i e hi=>by obtain⟨sj,p',h1,h2⟩:=he i e hi;obtain⟨x,h3,h4⟩:=hr h2;exact⟨x,sj,h1,h3,h4⟩
 rw [hn] at hR;have key:∀ (i:Nat) (x:α),l[i]?=some x→∃ sj:List Value,Rd F hg (row x).cells sj∧(row x).cells.length=n∧∀ (j:Nat) (c:Value),sj[j]?=some c→F (a.add (i*n+j))=some c:=fun i x hx=>by obtain⟨e,hei⟩:∃ e,elems[i]?=some e:=⟨_,ah (by rw [← hl]; exact (ax.1 hx).1)⟩;obtain⟨sj,h1,h2,-⟩:=hR i e x hei hx;unfold World.cells? at h1;rw [if_pos (bx _)] at h1;obtain⟨e1,e2⟩:=uj h1;refine⟨sj,h2,by rw [h2.1.1,e1]; simp,fun j c hj=>?_⟩;obtain⟨k,hk,Y8⟩:=e2 j c hj;(have hkj:k=j:=by obtain⟨bX,hv⟩:=ax.1 hk;simpa using hv.symm);subst hkj;rw [CC] at Y8;rw [hF]; exact Y8
 have cell:∀ (i:Nat) (r:V) (j:Nat) (c:V),(l.map row)[i]?=some r→r.cells[j]?=some c→∃ x,F (a.add (i*n+j))=some x∧x.oneCell'=true∧cK ⟨F,fun _ _=>none,hg⟩ c x:=fun i r j c hi hj=>by rw [ae,br] at hi;obtain⟨x,hx,rfl⟩:=hi;obtain⟨sj,h2,-,h3⟩:=key i x hx;obtain⟨y,hy,mm⟩:=h2.1.get hj;exact⟨y,h3 j y hy,h2.2 y (ay hy),mm⟩
 refine⟨l,⟨.cons ?_ (.nil _),by simp [Value.oneCell']⟩,?_⟩
 ·have:=cK.slice ⟨F,fun _ _=>none,hg⟩ (l.map row) (some a) cap n a (fun i j=>(F (a.add (i*n+j))).getD default) (fun _=>rfl) (by rw [ag,hl]; exact hc)
   (fun i r hi=>by
    rw [ae,br] at hi
    obtain⟨x,hx,rfl⟩:=hi
    obtain⟨_,-,h,-⟩:=key i x hx
    exact h)
   (fun i r j c hi hj=>by obtain⟨x,h,-,-⟩:=cell i r j c hi hj; show F _=some ((F _).getD _); rw [h]; rfl)
   (fun i r j c hi hj=>by obtain⟨x,h,h',-⟩:=cell i r j c hi hj; show Value.oneCell' ((F _).getD _)=true; rw [h]; exact h')
   (fun i r j c hi hj=>by obtain⟨x,h,-,h'⟩:=cell i r j c hi hj; show cK _ c ((F _).getD _); rw [h]; exact h')
  rwa [ag,hl] at this
 have:=wW (g:=g) hl fun i e x he hx=>by obtain⟨_,-,-,h⟩:=hR i e x he hx; exact h
 simp only [Rows.uptoBulk]; omega
end
def Hm {H:Type} (enc:TypeId×Value→H) (P:Program) (w:World) (sp:Nat→Bool) (held:Bool) (f:Nat) (cs:List Value):List Field→(List (DataW H)→Prop)→Prop
 | [],K=>K []
 | fd :: r,K=>∃ (e:DataW H) (p:List MemPlace),DataW.trod enc P w 0 sp held f fd.type ((cs.drop fd.offset).take (P.cellsOf fd.type))=some (e,p)∧Hm enc P w sp held f cs r fun es=>K (e :: es)
theorem Bg {H:Type} {enc:TypeId×Value→H} {P:Program} {w:World} {sp:Nat→Bool} {held:Bool} {f:Nat} {cs:List Value}:∀ {fs:List Field} {K:List (DataW H)→Prop} {es:List (DataW H)},es.length=fs.length →
  (∀ (i:Nat) (e:DataW H),es[i]?=some e→∃ (fd:Field) (p':List MemPlace),fs[i]?=some fd∧DataW.trod enc P w 0 sp held f fd.type ((cs.drop fd.offset).take (P.cellsOf fd.type))=some (e,p'))→K es→Hm enc P w sp held f cs fs K
 | [],K,[],_,_,hK=>hK
 | fd :: r,K,e :: es,hl,h,hK=>by
  obtain⟨fd',p',h1,h2⟩:=h 0 e rfl
  obtain rfl:fd=fd':=by simpa using h1
  exact⟨e,p',h2,Bg (es:=es) (by simpa using hl) (fun i e he=>by simpa using h (i+1) e (by simpa using he)) hK⟩
 | [],_,_ :: _,hl,_,_=>by simp at hl
 | _ :: _,_,[],hl,_,_=>by simp at hl
theorem jG {H:Type} {enc:TypeId×Value→H} {P:Program} {w:World} {sp:Nat→Bool} {held:Bool} {f:Nat} {T:TypeId} {cs:List Value} {d:DataW H} {p:List MemPlace} {fs:Array Field}
  (hT:P.underlying T=some (.struct fs)) (h:DataW.trod enc P w 0 sp held (f+1) T cs=some (d,p)):cs.length=P.cellsOf T∧Hm enc P w sp held f cs fs.toList fun es=>d = .agg es:=by obtain⟨h1,parts,h2,h3,h4⟩:=trod_struct hT h;exact⟨h1,Bg (by simpa using h3) (fun i e he=>by simpa using h4 i e he) h2⟩
end
end Go.Proofs.YtnboooapeopjoaaGreatDoor
end

section
namespace Go.Proofs.YtnboooapeopjoaaGreatDoor
set_option maxHeartbeats 4000000
set_option maxRecDepth 100000
structure Uq where
 lo:Int
 hi:Int
structure Ur where
 mj:Int
 mn:Int
 pt:Int
structure Rq where
 path:ByteArray
 set:List Uq
structure Rl where
 path:ByteArray
 dw:Ur
 reqs:List Rq
 ar:ByteArray
 itf:ByteArray
 ce:ByteArray
 yk:Bool
structure WM where
 path:ByteArray
 dw:Ur
theorem Ur.ext' {a b:Ur} (h1:a.mj=b.mj) (h2:a.mn=b.mn) (h3:a.pt=b.pt):a=b:=by cases a; cases b; simp_all
theorem Uq.ext' {a b:Uq} (h1:a.lo=b.lo) (h2:a.hi=b.hi):a=b:=by cases a; cases b; simp_all
instance:DecidableEq Uq:=fun a b=>if h:a.lo=b.lo∧a.hi=b.hi then .isTrue (Uq.ext' h.1 h.2) else .isFalse fun e=>h (by subst e; exact⟨rfl,rfl⟩)
theorem WM.ext' {a b:WM} (h1:a.path=b.path) (h2:a.dw=b.dw):a=b:=by cases a; cases b; simp_all
instance:DecidableEq Ur:=fun a b=>if h:a.mj=b.mj∧a.mn=b.mn∧a.pt=b.pt then .isTrue (Ur.ext' h.1 h.2.1 h.2.2) else .isFalse fun e=>h (by subst e; exact⟨rfl,rfl,rfl⟩)
instance:DecidableEq WM:=fun a b=>if h:a.path=b.path∧a.dw=b.dw then .isTrue (WM.ext' h.1 h.2) else .isFalse fun e=>h (by subst e; exact⟨rfl,rfl⟩)
def Rl.key (r:Rl):WM:=⟨r.path,r.dw⟩
def Ur.place (v:Ur):Int:=1000*v.mn+v.pt
def has (s:List Uq) (p:Int):Bool:=decide (0≤p)&&decide (p<1000000)&&s.any fun x=>decide (x.lo≤p)&&decide (p<x.hi)
def aaN (q:Rq) (r:Rl):Bool:=decide (q.path=r.path)&&has q.set r.dw.place
inductive Nx (l:List Rl) (roots:List Rq):Rl→Prop
 | root (q:Rq) (r:Rl) (hq:q∈roots) (hr:r∈l) (h:aaN q r=true):Nx l roots r
 | step (a:Rl) (q:Rq) (r:Rl) (ha:Nx l roots a) (hq:q∈a.reqs) (hr:r∈l) (h:aaN q r=true):Nx l roots r
theorem Nx.mem {l:List Rl} {roots:List Rq} {r:Rl} (h:Nx l roots r):r∈l:=by cases h <;> assumption
theorem Nx.mono {l:List Rl} {roots more:List Rq} (hm:∀ q∈roots,q∈more) {r:Rl} (h:Nx l roots r):Nx l more r:=by induction h with | root q r hq hr h=>exact .root q r (hm q hq) hr h | step a q r _ hq hr h ih=>exact .step a q r ih hq hr h
inductive WN (l:List Rl) (roots:List Rq):ByteArray→Prop
 | root (q:Rq) (hq:q∈roots):WN l roots q.path
 | step (a:Rl) (q:Rq) (ha:a∈l) (hn:WN l roots a.path) (hq:q∈a.reqs):WN l roots q.path
theorem Nx.sub {l m:List Rl} {roots:List Rq} (hlm:∀ r∈l,r∈m) {r:Rl} (h:Nx l roots r):Nx m roots r:=by induction h with | root q r hq hr h=>exact .root q r hq (hlm r hr) h | step a q r _ hq hr h ih=>exact .step a q r ih hq (hlm r hr) h
end Go.Proofs.YtnboooapeopjoaaGreatDoor
end

section
namespace Go.Proofs.YtnboooapeopjoaaGreatDoor
open Go.Eng
variable [a6]
open Nat renaming reduceAdd → zA, reduceLT → zB, reduceLeDiff → zC, reduceMul → zD, reduceEqDiff → zE, reduceSub → zF
set_option maxHeartbeats 4000000
set_option maxRecDepth 100000
def WO (s:Uq):V:=.agg [num s.lo,num s.hi]
def Ny (l:List Uq):V:=.slice (l.map WO)
def aaO (q:Rq):V:=.agg [str q.path,Ny q.set]
def Nz (l:List Rq):V:=.slice (l.map aaO)
def WQ (s:WM):V:=.agg [str s.path,num s.dw.mj,num s.dw.mn,num s.dw.pt]
def RZ (l:List WM):V:=.slice (l.map WQ)
def R0 (r:Rl):List V:=[str r.path,num r.dw.mj,num r.dw.mn,num r.dw.pt,Nz r.reqs,str r.ar,str r.itf,str r.ce,bl r.yk]
def aaP (r:Rl):V:=.agg (R0 r)
def WR (l:List Rl):V:=.slice (l.map aaP)
attribute [go_sem] Ny Nz RZ WR
theorem WS {s e:ByteArray} (he:e.size=0) (h:(!(s.toList==e.toList))=true):∃ c,s[0]?=some c:=by
 refine jf (s:=s) (i:=0) ?_;rcases anr s.size with hz | hz
 ·exfalso;(have e1:s.toList=e.toList:=by rw [ByteArray.toList_eq,ByteArray.toList_eq];(have a1:s.data.toList=[]:=by simpa [← cd,jq] using hz);(have a2:e.data.toList=[]:=by simpa [← cd,jq] using he);rw [a1,a2]);rw [e1] at h; simp at h
 exact hz
def Km (c:Int):Bool:=decide (97≤c)&&decide (c≤122)
def NA (c:Int):Bool:=decide (65≤c)&&decide (c≤90)
def sT (c:Int):Bool:=decide (48≤c)&&decide (c≤57)
def AH (c:Int):Bool:=Km c||NA c||sT c||decide (c=95)
def NB (c:Int):Bool:=Km c||sT c
def pX (p:Int→Bool) (s:ByteArray):Bool:=s.data.toList.all fun b=>p b.toNat
def kD (s:ByteArray) (i:Nat):Int:=match s[i]? with | some c=>c.toNat | none=>0
theorem uo {s:ByteArray} {i:Nat} {c:UInt8} (h:s[i]?=some c):s.data.toList[i]?=some c:=by
 obtain⟨h1,h2⟩:=getElem?_eq_some_iff.1 h;have h3:i<s.data.toList.length:=by simpa using h1
 rw [ah h3];exact congrArg some (by rw [Array.getElem_toList]; exact h2)
theorem j3 {s:ByteArray} {i:Nat} {c:UInt8} (h:s[i]?=some c):kD s i=c.toNat:=by unfold kD; rw [h]
theorem Kn {p:Int→Bool} {s:ByteArray} (h:∀ j<s.size,∀ b,s[j]?=some b→p b.toNat=true):pX p s=true:=by
 refine aY.2 fun b hb=>?_;obtain⟨j,hj⟩:=bL.1 hb;have h1:j<s.size:=by have:=(ax.1 hj).1; simpa using this
 obtain⟨c,hc⟩:=jf h1;have:=uo hc;rw [hj] at this; cases this;exact h j h1 b hc
theorem Hn {p:Int→Bool} {s:ByteArray} {j:Nat} {b:UInt8} (h:s[j]?=some b) (hp:p b.toNat=false):pX p s=false:=by have hm:=ay (uo h);cases ha:pX p s with | false=>rfl | true=>have:=aY.1 ha b hm; rw [hp] at this; cases this
def m4 (s:ByteArray):Bool:=decide (1≤s.size)&&decide (s.size≤32)&&NA (kD s 0)&&pX AH s
theorem CD {s e:ByteArray} (he:e.size=0) (h:(!(s.toList==e.toList))=true):1≤s.size:=by obtain⟨c,hc⟩:=WS he h;exact (getElem?_eq_some_iff.1 hc).1
theorem yU {s e:ByteArray} (he:e.size=0) (h:(!(s.toList==e.toList))=false):s.size=0:=by
 have e1:s.toList=e.toList:=by simpa using h
 rw [ByteArray.toList_eq,ByteArray.toList_eq] at e1;have:=congrArg List.length e1;simp only [jq] at this;exact Eq.trans this he
theorem yV (c:Int):∃ r_,(fun w=>w=bl (Km c)) r_∧bG ab 178 [.sc (.int .u8 c)] r_:=by
 refine kc tt_ok [] 9 [.tmp 2] (fn:=Tryz.f178) Tryz.func178 rfl Tryz.call178 ⟨rfl,rfl,by simp⟩ fun K hK=>?_;simp only [go_sem];refine bY (fun jH=>?_) (fun jH=>?_);·simp only [go_sem];exact hK _ (congrArg bl (by simp_all [Km] <;> (intros; omega)))
 simp only [go_sem];exact hK _ (congrArg bl (by simp_all [Km] <;> (intros; omega)))
theorem yW (c:Int):∃ r_,(fun w=>w=bl (NA c)) r_∧bG ab 168 [.sc (.int .u8 c)] r_:=by
 refine kc tt_ok [] 9 [.tmp 2] (fn:=Tryz.f168) Tryz.func168 rfl Tryz.call168 ⟨rfl,rfl,by simp⟩ fun K hK=>?_;simp only [go_sem];refine bY (fun jH=>?_) (fun jH=>?_);·simp only [go_sem];exact hK _ (congrArg bl (by simp_all [NA] <;> (intros; omega)))
 simp only [go_sem];exact hK _ (congrArg bl (by simp_all [NA] <;> (intros; omega)))
theorem uq (c:Int):∃ r_,(fun w=>w=bl (sT c)) r_∧bG ab 198 [.sc (.int .u8 c)] r_:=by
 refine kc tt_ok [] 9 [.tmp 2] (fn:=Tryz.f198) Tryz.func198 rfl Tryz.call198 ⟨rfl,rfl,by simp⟩ fun K hK=>?_;simp only [go_sem];refine bY (fun jH=>?_) (fun jH=>?_);·simp only [go_sem];exact hK _ (congrArg bl (by simp_all [sT] <;> (intros; omega)))
 simp only [go_sem];exact hK _ (congrArg bl (by simp_all [sT] <;> (intros; omega)))
theorem Ja (c:Int):∃ r_,(fun w=>w=bl (AH c)) r_∧bG ab 170 [.sc (.int .u8 c)] r_:=by
 refine kc tt_ok [] 17 [.tmp 2] (fn:=Tryz.f170) Tryz.func170 rfl Tryz.call170 ⟨rfl,rfl,by simp⟩ fun K hK=>?_;simp only [go_sem];refine cF (yV _) ?_;rintro _ rfl;simp only [go_sem];refine bY (fun jH=>?_) (fun jH=>?_);·simp only [go_sem];exact hK _ (congrArg bl (by simp_all [AH]))
 simp only [go_sem];refine cF (yW _) ?_;rintro _ rfl;simp only [go_sem];refine bY (fun yX=>?_) (fun yX=>?_);·simp only [go_sem];exact hK _ (congrArg bl (by simp_all [AH]))
 simp only [go_sem];refine cF (uq _) ?_;rintro _ rfl;simp only [go_sem];refine bY (fun WT=>?_) (fun WT=>?_);·simp only [go_sem];exact hK _ (congrArg bl (by simp_all [AH]))
 simp only [go_sem];exact hK _ (congrArg bl (by simp_all [AH]))
theorem aaQ (c:Int):∃ r_,(fun w=>w=bl (NB c)) r_∧bG ab 197 [.sc (.int .u8 c)] r_:=by
 refine kc tt_ok [] 9 [.tmp 2] (fn:=Tryz.f197) Tryz.func197 rfl Tryz.call197 ⟨rfl,rfl,by simp⟩ fun K hK=>?_;simp only [go_sem];refine cF (yV _) ?_;rintro _ rfl;simp only [go_sem];refine bY (fun jH=>?_) (fun jH=>?_);·simp only [go_sem];exact hK _ (congrArg bl (by simp_all [NB]))
 simp only [go_sem];refine cF (uq _) ?_;rintro _ rfl;simp only [go_sem];exact hK _ (congrArg bl (by simp_all [NB]))
theorem yY (g:FuncId) (p:Int→Bool) (hg:∀ c:Int,∃ r,(fun v=>v=bl (p c)) r∧bG ab g [.sc (.int .u8 c)] r) (s:ByteArray) (hs:s.size≤1048576):∃ r_,(fun w=>w=bl (pX p s)) r_∧bG ab 169 [str s,.sc (.func (.func g) #[] #[])] r_:=by
 refine kc tt_ok [] 18 [.tmp 4] (fn:=Tryz.f169) Tryz.func169 rfl Tryz.call169 ⟨rfl,rfl,by simp⟩ fun K hK=>?_;have vb:ab.underlying 9=some .string:=by kernel_rfl
 have sl:∀ (a:ByteArray) (ty:TypeId),kZ ab (Builtin.len_ #[9] ty) [.sc (.string a)]=some (num a.size):=fun a ty=>l8 (P:=ab) (tt:=tt) (T:=9) a vb ty;simp only [sl,go_sem];refine iB tt_ok [] [8] 0 [0,1,7] (fun vs=>((s.size:Int)-Go.Eng.intOf (vs.headD .undef)).toNat) (fun vs=>∃ i:Nat,vs=[num i]∧i≤s.size∧∀ j<i,∀ b,s[j]?=some b→p b.toNat=true) (by omega) (by simp only [sl,go_sem]) (⟨0,rfl,bx _,fun j hj=>absurd hj (iK j)⟩) fun vs hI Z1 ee=>?_;obtain⟨i,rfl,hi,r5⟩:=hI;simp only [sl,go_sem];refine bY (fun lS=>?_) (fun lS=>?_);·(have bX:i<s.size:=by simpa using lS);have hw:=bB i (by omega);obtain⟨c,NC⟩:=jf (s:=s) (i:=i) bX;have ND:=mr (P:=ab) s vb .i64 (i:Int) (by omega) (c:=c) (show s[((i:Nat):Int).toNat]?=some c from NC);simp only [hw,ND,sl,go_sem];refine cF (hg _) ?_;rintro _ rfl;simp only [hw,ND,sl,go_sem];refine bY (fun fJ=>?_) (fun fJ=>?_);(·have ck:false=pX p s:=(Hn NC (by simpa using fJ)).symm;simp only [hw,ND,sl,go_sem];exact hK _ (congrArg bl ck));simp only [hw,ND,sl,go_sem];refine ee _ (oj (by omega) (by simp only [hw,ND,sl,go_sem]) ?_ ?_) <;> simp only [fC,lk,reduceIte,zE];(·refine⟨i+1,rfl,bX,fun j hj b hb=>?_⟩;(rcases bW j i with h | h);(·exact r5 j h b hb);(obtain rfl:j=i:=by omega);rw [NC] at hb; cases hb; simpa using fJ);simp only [Go.Eng.intOf,cM]; omega
 have jw:¬ i<s.size:=by simpa using lS
 have ck:true=pX p s:=(Kn fun j hj b hb=>r5 j (by omega) b hb).symm;simp only [sl,go_sem];exact hK _ (congrArg bl ck)
def R1 (a b:ByteArray):Bool:=Op.bytesLess a.toList b.toList
theorem dk (a b:ByteArray):(a.toList==b.toList)=decide (a=b):=by rw [ae4,beq_iff_eq,decide_eq_true_eq];refine⟨fun h=>?_,fun h=>by rw [h]⟩;rw [ByteArray.toList_eq,ByteArray.toList_eq] at h;cases a; cases b; congr 1; exact aeq.1 h
theorem NF (a b:ByteArray):R1 a b=decide (a.data.toList<b.data.toList):=by unfold R1;rw [Proofs.bytesLess_eq,ByteArray.toList_eq,ByteArray.toList_eq]
def vI (a b:ByteArray):Int:=if R1 a b=true then -1 else if a=b then 0 else 1
theorem vJ {α:Type} {q:α→Bool} {l:List α} {i:Nat} {x:α} (h:l[i]?=some x) (hq:q x=true):l.any q=true:=am3.2 ⟨x,ay h,hq⟩
theorem any_none {α:Type} {q:α→Bool} {l:List α} (h:∀ j<l.length,∀ x,l[j]?=some x→q x=false):l.any q=false:=by rw [ano];intro x hx;obtain⟨j,hj⟩:=bL.1 hx;rw [h j (ax.1 hj).1 x hj]; simp
def ma (s:ByteArray) (l:List ByteArray):Bool:=l.any fun b=>decide (s=b)
theorem xG {s:ByteArray} {l:List ByteArray}:ma s l=true↔s∈l:=by unfold ma; simp
end Go.Proofs.YtnboooapeopjoaaGreatDoor
end
