import Derived.Test.YtfbbfmcggbapoaaGreatDoorJ1
import Derived.Test.YtfbbfmcggbapoaaGreatDoorRows
import Derived.Sort.Walk0
open Array renaming length_toList→gb,toList_inj→ahi
open Bool renaming eq_iff_iff→gu
open Go.Proofs.Tryz renaming prog→aj
open List renaming all_eq_true→aZ,any_eq_false→rO,any_eq_true→tV,drop_drop→arE,drop_eq_nil_of_le→dI,getElem?_eq_getElem→aw,getElem?_eq_some_iff→az,getElem?_map→ak,headD_cons→bh,length_eq_zero_iff→cj,length_map→au,mapM_cons→arC,mem_append→ib,mem_iff_getElem?→cb,mem_of_getElem?→aE,take_append_drop→kT
open Nat renaming add_assoc→mr,eq_zero_or_pos→ark,lt_or_ge→bz,not_lt_zero→cR,zero_le→bj
open Option renaming bind_some→lW,map_eq_some_iff→bc
open Prod.mk renaming injEq→dy
set_option linter.all false
section
namespace Go.Proofs.YtfbbfmcggbapoaaGreatDoor
open Go.Eng
variable [bB]
set_option maxHeartbeats 4000000
set_option maxRecDepth 100000
section
section
variable {H:Type} {enc:TypeId×Value→H} {P:Program} {w:World} {sp:Nat→Bool} {held:Bool} {f:Nat} {T:TypeId} {cs:List Value} {d:DataW H} {p:List MemPlace}
theorem trod_bool (hT:P.underlying T=some .bool) (h:DataW.trod enc P w 0 sp held (f+1) T cs=some (d,p)):∃ b,cs=[.bool b]∧d = .lit (.bool b):=by unfold DataW.trod at h;rw [hT] at h;split at h <;> simp_all
theorem trod_string (hT:P.underlying T=some .string) (h:DataW.trod enc P w 0 sp held (f+1) T cs=some (d,p)):∃ s,cs=[.string s]∧d = .lit (.string s.data.toList):=by unfold DataW.trod at h;rw [hT] at h;split at h <;> simp_all
theorem wm {α β:Type} {g:α→Option β}:∀ {l:List α} {r:List β},l.mapM g=some r→r.length=l.length∧∀ (i:Nat) (b:β),r[i]?=some b→∃ a:α,l[i]?=some a∧g a=some b
 | [],r,h=>by simp at h;subst h;simp
 | a :: l,r,h=>by
  rw [arC] at h
  cases h1:g a with
  | none=>rw [h1] at h;simp at h
  | some b =>
   rw [h1] at h
   cases h2:l.mapM g with
   | none=>rw [h2] at h;simp at h
   | some r' =>
    rw [h2] at h
    simp at h
    subst h
    obtain⟨e1,e2⟩:=wm h2
    refine⟨by simp [e1],fun i b' hb=>?_⟩
    cases i with
    | zero=>simp at hb;subst hb;exact⟨a,rfl,h1⟩
    | succ i=>simpa using e2 i b' (by simpa using hb)
theorem trod_slice {T':TypeId} (hT:P.underlying T=some (.slice T')) (h:DataW.trod enc P w 0 sp held (f+1) T cs=some (d,p)) :
  (cs=[.slice none 0 0]∧d = .nil)∨∃ (a:Addr) (cap:Nat) (elems spare:List (DataW H)),cs=[.slice (some a) elems.length cap]∧d = .slice elems spare∧elems.length≤cap ∧
   ∀ (i:Nat) (e:DataW H),elems[i]?=some e→∃ uc p',w.cells? 0 (a.add (i*P.cellsOf T')) (P.cellsOf T')=some uc∧DataW.trod enc P w 0 sp held f T' uc=some (e,p'):=by
 unfold DataW.trod at h;rw [hT] at h;split at h <;> try (simp at *;done)
 ·rename_i e' h1 h2;simp at h;exact .inl ⟨rfl,h.1.symm⟩
 rename_i e' a len cap h1;obtain rfl:T'=e':=by simpa using h1
 refine .inr ?_;dsimp only at h;split at h;·rename_i hb;cases h3:(List.range len).mapM (fun i=>(w.cells? 0 (a.add (i*P.cellsOf T')) (P.cellsOf T')).bind (DataW.trod enc P w 0 sp held f T')) with|none=>rw [h3] at h;simp at h|some elems =>rw [h3] at h;obtain⟨e1,e2⟩:=wm h3;simp only [lW,bc] at h;obtain⟨rest,-,h5⟩:=h;simp only [dy] at h5;(have hl:elems.length=len:=by simpa using e1);refine⟨a,cap,elems.map (·.1),rest.map (·.1),by rw [au,hl],h5.1.symm,by rw [au,hl];exact hb.2.1,fun i e he=>?_⟩;rw [ak,bc] at he;obtain⟨x,hx,rfl⟩:=he;obtain⟨j,hj,hg⟩:=e2 i x hx;(have IP:j=i:=by obtain⟨bL,hv⟩:=az.1 hj;simpa using hv.symm);subst IP;rw [Option.bind_eq_some_iff] at hg;obtain⟨uc,hc,ht⟩:=hg;exact⟨uc,x.2,hc,ht⟩
 simp at h
theorem trod_struct {fs:Array Field} (hT:P.underlying T=some (.struct fs)) (h:DataW.trod enc P w 0 sp held (f+1) T cs=some (d,p)) :
  cs.length=P.cellsOf T∧∃ parts:List (DataW H),d = .agg parts∧parts.length=fs.size ∧
   ∀ (i:Nat) (e:DataW H),parts[i]?=some e→∃ (fd:Field) (p':List MemPlace),fs[i]?=some fd∧DataW.trod enc P w 0 sp held f fd.type ((cs.drop fd.offset).take (P.cellsOf fd.type))=some (e,p'):=by
 unfold DataW.trod at h;rw [hT] at h;split at h <;> try (simp at *;done)
 rename_i fs' h1;obtain rfl:fs=fs':=by simpa using h1
 split at h;·rename_i hl;refine⟨hl,?_⟩;rw [bc] at h;obtain⟨xs,h3,h4⟩:=h;simp only [dy] at h4;obtain⟨e1,e2⟩:=wm h3;refine⟨xs.map (·.1),h4.1.symm,by rw [au,e1];simp,fun i e he=>?_⟩;rw [ak,bc] at he;obtain⟨x,hx,rfl⟩:=he;obtain⟨fd,hj,hg⟩:=e2 i x hx;exact⟨fd,x.2,by simpa using hj,hg⟩
 simp at h
end
end
section
def Rd (F:Addr→Option Value) (hg:Gl F) (vs:List V) (cs:List Value):Prop:=cU ⟨F,fun _ _=>none,hg⟩ vs cs∧∀ c∈cs,c.oneCell'=true
section
variable {F:Addr→Option Value} {hg:Gl F}
theorem JV {v:Value} (h:v.oneCell'=true):Rd F hg [.sc v] [v]:=⟨.cons (.sc _ _) (.nil _),by simpa using h⟩
theorem ig {a b:List V} {cs:List Value} {off n:Nat} (h1:Rd F hg a ((cs.drop off).take n)) (h2:Rd F hg b (cs.drop (off+n))):Rd F hg (a++b) (cs.drop off):=by
 have e:cs.drop off=(cs.drop off).take n++cs.drop (off+n):=by rw [← arE,kT]
 rw [e];refine⟨.append h1.1 h2.1,fun c hc=>?_⟩;rcases ib.1 hc with hc|hc
 ·exact h1.2 c hc
 exact h2.2 c hc
theorem Qs {cs:List Value} {off:Nat} (h:cs.length=off):Rd F hg [] (cs.drop off):=by rw [dI (by omega)];exact⟨.nil _,by simp⟩
theorem E4 (a:Addr) (x y:Nat):(a.add x).add y=a.add (x+y):=by
 unfold Addr.add;by_cases hx:x=0;·subst hx;simp
 by_cases hy:y=0;·subst hy;simp
 simp [hx,hy,mr]
theorem Hr {α β:Type} {R:Nat→β→α→Prop}:∀ {es:List β},(∀ (i:Nat) (e:β),es[i]?=some e→∃ a:α,R i e a)→∃ l:List α,l.length=es.length∧∀ (i:Nat) (e:β) (a:α),es[i]?=some e→l[i]?=some a→R i e a:=by intro es;induction es generalizing R with|nil=>intro _;exact⟨[],rfl,by simp⟩|cons e r ih =>intro h;obtain⟨a,ha⟩:=h 0 e rfl;obtain⟨l,hl,hr⟩:=ih (R:=fun i=>R (i+1)) fun i e he=>h (i+1) e (by simpa using he);refine⟨a :: l,by simp [hl],fun i e' a' he ha'=>?_⟩;cases i with|zero=>simp at he ha';subst he;subst ha';exact ha|succ i=>exact hr i e' a' (by simpa using he) (by simpa using ha')
theorem yI {H α:Type} {g:α→Nat}:∀ {l:List α} {es:List (DataW H)},l.length=es.length→(∀ (i:Nat) (e:DataW H) (a:α),es[i]?=some e→l[i]?=some a→g a≤Rows.uptoBulk e)→aS g l≤Rows.uptoBulkAll es
 | [],[],_,_=>by simp [aS]
 | a :: l,e :: es,hl,h=>by
  have h1:=h 0 e a rfl rfl
  have h2:=yI (l:=l) (es:=es) (g:=g) (by simpa using hl) fun i e a he ha=>h (i+1) e a (by simpa using he) (by simpa using ha)
  simp only [aS,Rows.uptoBulkAll];omega
 | [],_ :: _,hl,_=>by simp at hl
 | _ :: _,[],hl,_=>by simp at hl
theorem Qt {H:Type} {enc:TypeId×Value→H} {P:Program} {w:World} {sp:Nat→Bool} {held:Bool} {f:Nat} {T T':TypeId} {α:Type} {row:α→V} {g:α→Nat} {n:Nat}
  (hF:F=w.cell?) (hT:P.underlying T=some (.slice T')) (hn:P.cellsOf T'=n)
  (hr:∀ {cs:List Value} {d:DataW H} {p:List MemPlace},DataW.trod enc P w 0 sp held f T' cs=some (d,p)→∃ a:α,Rd F hg (row a).cells cs∧g a≤Rows.uptoBulk d)
  {cs:List Value} {d:DataW H} {p:List MemPlace} (h:DataW.trod enc P w 0 sp held (f+1) T cs=some (d,p)) :
  ∃ l:List α,Rd F hg [.slice (l.map row)] cs∧aS g l+1≤Rows.uptoBulk d:=by
 rcases trod_slice hT h with ⟨rfl,rfl⟩|⟨a,cap,elems,spare,rfl,rfl,hc,he⟩
 ·exact⟨[],⟨.cons (.slice _ [] none 0 0 default (fun _ _=>default) (by simp) (by simp) (by simp) (by simp) (by simp) (by simp)) (.nil _),by simp [Value.oneCell']⟩,by simp [aS,Rows.uptoBulk]⟩
 obtain⟨l,hl,hR⟩:=Hr (es:=elems) (R:=fun i e (x:α)=>∃ uc:List Value,w.cells? 0 (a.add (i*P.cellsOf T')) (P.cellsOf T')=some uc∧Rd F hg (row x).cells uc∧g x≤Rows.uptoBulk e) fun i e hi=>by obtain⟨uc,p',h1,h2⟩:=he i e hi;obtain⟨x,h3,h4⟩:=hr h2;exact⟨x,uc,h1,h3,h4⟩
 rw [hn] at hR;have key:∀ (i:Nat) (x:α),l[i]?=some x→∃ uc:List Value,Rd F hg (row x).cells uc∧(row x).cells.length=n∧∀ (j:Nat) (c:Value),uc[j]?=some c→F (a.add (i*n+j))=some c:=fun i x hx=>by obtain⟨e,hei⟩:∃ e,elems[i]?=some e:=⟨_,aw (by rw [← hl];exact (az.1 hx).1)⟩;obtain⟨uc,h1,h2,-⟩:=hR i e x hei hx;unfold World.cells? at h1;rw [if_pos (bj _)] at h1;obtain⟨e1,e2⟩:=wm h1;refine⟨uc,h2,by rw [h2.1.1,e1];simp,fun j c hj=>?_⟩;obtain⟨k,hk,hc'⟩:=e2 j c hj;(have hkj:k=j:=by obtain⟨bL,hv⟩:=az.1 hk;simpa using hv.symm);subst hkj;rw [E4] at hc';rw [hF];exact hc'
 have cell:∀ (i:Nat) (r:V) (j:Nat) (c:V),(l.map row)[i]?=some r→r.cells[j]?=some c→∃ x,F (a.add (i*n+j))=some x∧x.oneCell'=true∧cY ⟨F,fun _ _=>none,hg⟩ c x:=fun i r j c hi hj=>by rw [ak,bc] at hi;obtain⟨x,hx,rfl⟩:=hi;obtain⟨uc,h2,-,h3⟩:=key i x hx;obtain⟨y,hy,kF⟩:=h2.1.get hj;exact⟨y,h3 j y hy,h2.2 y (aE hy),kF⟩
 refine⟨l,⟨.cons ?_ (.nil _),by simp [Value.oneCell']⟩,?_⟩
 ·have:=cY.slice ⟨F,fun _ _=>none,hg⟩ (l.map row) (some a) cap n a (fun i j=>(F (a.add (i*n+j))).getD default) (fun _=>rfl) (by rw [au,hl];exact hc)
   (fun i r hi=>by
    rw [ak,bc] at hi
    obtain⟨x,hx,rfl⟩:=hi
    obtain⟨_,-,h,-⟩:=key i x hx
    exact h)
   (fun i r j c hi hj=>by obtain⟨x,h,-,-⟩:=cell i r j c hi hj;show F _=some ((F _).getD _);rw [h];rfl)
   (fun i r j c hi hj=>by obtain⟨x,h,h',-⟩:=cell i r j c hi hj;show Value.oneCell' ((F _).getD _)=true;rw [h];exact h')
   (fun i r j c hi hj=>by obtain⟨x,h,-,h'⟩:=cell i r j c hi hj;show cY _ c ((F _).getD _);rw [h];exact h')
  rwa [au,hl] at this
 have:=yI (g:=g) hl fun i e x he hx=>by obtain⟨_,-,-,h⟩:=hR i e x he hx;exact h
 simp only [Rows.uptoBulk];omega
end
def JW {H:Type} (enc:TypeId×Value→H) (P:Program) (w:World) (sp:Nat→Bool) (held:Bool) (f:Nat) (cs:List Value):List Field→(List (DataW H)→Prop)→Prop
 | [],K=>K []
 | fd :: r,K=>∃ (e:DataW H) (p:List MemPlace),DataW.trod enc P w 0 sp held f fd.type ((cs.drop fd.offset).take (P.cellsOf fd.type))=some (e,p)∧JW enc P w sp held f cs r fun es=>K (e :: es)
theorem Dv {H:Type} {enc:TypeId×Value→H} {P:Program} {w:World} {sp:Nat→Bool} {held:Bool} {f:Nat} {cs:List Value}:∀ {fs:List Field} {K:List (DataW H)→Prop} {es:List (DataW H)},es.length=fs.length →
  (∀ (i:Nat) (e:DataW H),es[i]?=some e→∃ (fd:Field) (p':List MemPlace),fs[i]?=some fd∧DataW.trod enc P w 0 sp held f fd.type ((cs.drop fd.offset).take (P.cellsOf fd.type))=some (e,p'))→K es→JW enc P w sp held f cs fs K
 | [],K,[],_,_,hK=>hK
 | fd :: r,K,e :: es,hl,h,hK=>by
  obtain⟨fd',p',h1,h2⟩:=h 0 e rfl
  obtain rfl:fd=fd':=by simpa using h1
  exact⟨e,p',h2,Dv (es:=es) (by simpa using hl) (fun i e he=>by simpa using h (i+1) e (by simpa using he)) hK⟩
 | [],_,_ :: _,hl,_,_=>by simp at hl
 | _ :: _,_,[],hl,_,_=>by simp at hl
theorem qY {H:Type} {enc:TypeId×Value→H} {P:Program} {w:World} {sp:Nat→Bool} {held:Bool} {f:Nat} {T:TypeId} {cs:List Value} {d:DataW H} {p:List MemPlace} {fs:Array Field}
  (hT:P.underlying T=some (.struct fs)) (h:DataW.trod enc P w 0 sp held (f+1) T cs=some (d,p)):cs.length=P.cellsOf T∧JW enc P w sp held f cs fs.toList fun es=>d = .agg es:=by obtain⟨h1,parts,h2,h3,h4⟩:=trod_struct hT h;exact⟨h1,Dv (by simpa using h3) (fun i e he=>by simpa using h4 i e he) h2⟩
end
end Go.Proofs.YtfbbfmcggbapoaaGreatDoor
end
section
namespace Go.Proofs.YtfbbfmcggbapoaaGreatDoor
set_option maxHeartbeats 4000000
set_option maxRecDepth 100000
structure W0 where
 lo:Int
 hi:Int
structure W1 where
 mj:Int
 mn:Int
 pt:Int
structure Rq where
 path:ByteArray
 set:List W0
structure Rl where
 path:ByteArray
 dZ:W1
 reqs:List Rq
 ar:ByteArray
 itf:ByteArray
 ce:ByteArray
 yk:Bool
structure Zy where
 path:ByteArray
 dZ:W1
theorem W1.ext' {a b:W1} (h1:a.mj=b.mj) (h2:a.mn=b.mn) (h3:a.pt=b.pt):a=b:=by cases a;cases b;simp_all
theorem W0.ext' {a b:W0} (h1:a.lo=b.lo) (h2:a.hi=b.hi):a=b:=by cases a;cases b;simp_all
instance:DecidableEq W0:=fun a b=>if h:a.lo=b.lo∧a.hi=b.hi then .isTrue (W0.ext' h.1 h.2) else .isFalse fun e=>h (by subst e;exact⟨rfl,rfl⟩)
theorem Zy.ext' {a b:Zy} (h1:a.path=b.path) (h2:a.dZ=b.dZ):a=b:=by cases a;cases b;simp_all
instance:DecidableEq W1:=fun a b=>if h:a.mj=b.mj∧a.mn=b.mn∧a.pt=b.pt then .isTrue (W1.ext' h.1 h.2.1 h.2.2) else .isFalse fun e=>h (by subst e;exact⟨rfl,rfl,rfl⟩)
instance:DecidableEq Zy:=fun a b=>if h:a.path=b.path∧a.dZ=b.dZ then .isTrue (Zy.ext' h.1 h.2) else .isFalse fun e=>h (by subst e;exact⟨rfl,rfl⟩)
def Rl.key (r:Rl):Zy:=⟨r.path,r.dZ⟩
def W1.place (v:W1):Int:=1000*v.mn+v.pt
def has (s:List W0) (p:Int):Bool:=decide (0≤p)&&decide (p<1000000)&&s.any fun x=>decide (x.lo≤p)&&decide (p<x.hi)
def ad3 (q:Rq) (r:Rl):Bool:=decide (q.path=r.path)&&has q.set r.dZ.place
inductive Qu (l:List Rl) (roots:List Rq):Rl→Prop
 | root (q:Rq) (r:Rl) (hq:q∈roots) (hr:r∈l) (h:ad3 q r=true):Qu l roots r
 | step (a:Rl) (q:Rq) (r:Rl) (ha:Qu l roots a) (hq:q∈a.reqs) (hr:r∈l) (h:ad3 q r=true):Qu l roots r
theorem Qu.mem {l:List Rl} {roots:List Rq} {r:Rl} (h:Qu l roots r):r∈l:=by cases h <;> assumption
theorem Qu.mono {l:List Rl} {roots more:List Rq} (hm:∀ q∈roots,q∈more) {r:Rl} (h:Qu l roots r):Qu l more r:=by induction h with|root q r hq hr h=>exact .root q r (hm q hq) hr h|step a q r _ hq hr h ih=>exact .step a q r ih hq hr h
inductive Zz (l:List Rl) (roots:List Rq):ByteArray→Prop
 | root (q:Rq) (hq:q∈roots):Zz l roots q.path
 | step (a:Rl) (q:Rq) (ha:a∈l) (hn:Zz l roots a.path) (hq:q∈a.reqs):Zz l roots q.path
theorem Qu.sub {l m:List Rl} {roots:List Rq} (hlm:∀ r∈l,r∈m) {r:Rl} (h:Qu l roots r):Qu m roots r:=by induction h with|root q r hq hr h=>exact .root q r hq (hlm r hr) h|step a q r _ hq hr h ih=>exact .step a q r ih hq (hlm r hr) h
def fS (s:ByteArray):List UInt8:=s.data.toList
end Go.Proofs.YtfbbfmcggbapoaaGreatDoor
end
section
namespace Go.Proofs.YtfbbfmcggbapoaaGreatDoor
open Go.Eng
variable [bB]
open Nat renaming reduceAdd → zA, reduceLT → zB, reduceLeDiff → zC, reduceMul → zD, reduceEqDiff → zE, reduceSub → zF
set_option maxHeartbeats 4000000
set_option maxRecDepth 100000
def ZA (s:W0):V:=.agg [num s.lo,num s.hi]
def Qv (l:List W0):V:=.slice (l.map ZA)
def ad4 (q:Rq):V:=.agg [str q.path,Qv q.set]
def Qw (l:List Rq):V:=.slice (l.map ad4)
def ZB (s:Zy):V:=.agg [str s.path,num s.dZ.mj,num s.dZ.mn,num s.dZ.pt]
def UO (l:List Zy):V:=.slice (l.map ZB)
def UP (r:Rl):List V:=[str r.path,num r.dZ.mj,num r.dZ.mn,num r.dZ.pt,Qw r.reqs,str r.ar,str r.itf,str r.ce,bl r.yk]
def ad5 (r:Rl):V:=.agg (UP r)
def ZC (l:List Rl):V:=.slice (l.map ad5)
attribute [go_sem] Qv Qw UO ZC
theorem ZD {s e:ByteArray} (he:e.size=0) (h:(!(s.toList==e.toList))=true):∃ c,s[0]?=some c:=by
 refine eC (s:=s) (i:=0) ?_;rcases ark s.size with hz|hz
 ·exfalso;(have e1:s.toList=e.toList:=by rw [ByteArray.toList_eq,ByteArray.toList_eq];(have a1:s.data.toList=[]:=by simpa [← cj,gb] using hz);(have a2:e.data.toList=[]:=by simpa [← cj,gb] using he);rw [a1,a2]);rw [e1] at h;simp at h
 exact hz
def Hs (c:Int):Bool:=decide (97≤c)&&decide (c≤122)
def M9 (c:Int):Bool:=decide (65≤c)&&decide (c≤90)
def kQ (c:Int):Bool:=decide (48≤c)&&decide (c≤57)
def uR (c:Int):Bool:=Hs c||M9 c||kQ c||decide (c=95)
def CH (c:Int):Bool:=Hs c||kQ c
def ml (p:Int→Bool) (s:ByteArray):Bool:=s.data.toList.all fun b=>p b.toNat
def eJ (s:ByteArray) (i:Nat):Int:=match s[i]? with|some c=>c.toNat|none=>0
theorem wo {s:ByteArray} {i:Nat} {c:UInt8} (h:s[i]?=some c):s.data.toList[i]?=some c:=by
 obtain⟨h1,h2⟩:=getElem?_eq_some_iff.1 h;have h3:i<s.data.toList.length:=by simpa using h1
 rw [aw h3];exact congrArg some (by rw [Array.getElem_toList];exact h2)
theorem eQ {s:ByteArray} {i:Nat} {c:UInt8} (h:s[i]?=some c):eJ s i=c.toNat:=by unfold eJ;rw [h]
theorem qj {p:Int→Bool} {s:ByteArray} (h:∀ j<s.size,∀ b,s[j]?=some b→p b.toNat=true):ml p s=true:=by
 refine aZ.2 fun b hb=>?_;obtain⟨j,hj⟩:=cb.1 hb;have h1:j<s.size:=by have:=(az.1 hj).1;simpa using this
 obtain⟨c,hc⟩:=eC h1;have:=wo hc;rw [hj] at this;cases this;exact h j h1 b hc
theorem oB {p:Int→Bool} {s:ByteArray} {j:Nat} {b:UInt8} (h:s[j]?=some b) (hp:p b.toNat=false):ml p s=false:=by have hm:=aE (wo h);cases ha:ml p s with|false=>rfl|true=>have:=aZ.1 ha b hm;rw [hp] at this;cases this
def kI (s:ByteArray):Bool:=decide (1≤s.size)&&decide (s.size≤32)&&M9 (eJ s 0)&&ml uR s
theorem zP {s e:ByteArray} (he:e.size=0) (h:(!(s.toList==e.toList))=true):1≤s.size:=by obtain⟨c,hc⟩:=ZD he h;exact (getElem?_eq_some_iff.1 hc).1
theorem wq {s e:ByteArray} (he:e.size=0) (h:(!(s.toList==e.toList))=false):s.size=0:=by
 have e1:s.toList=e.toList:=by simpa using h
 rw [ByteArray.toList_eq,ByteArray.toList_eq] at e1;have:=congrArg List.length e1;simp only [gb] at this;exact Eq.trans this he
theorem Ba (c:Int):Cn 239 [.sc (.int .u8 c)] (bl (Hs c)):=by refine gy tt_ok [] 9 [.tmp 2] (fn:=Tryz.f239) Tryz.func239 rfl Tryz.call239 ⟨rfl,rfl,by simp⟩ fun K hK=>?_;repeat' (simp only [go_sem];first|refine ca (fun hg=>?_) (fun hg=>?_)|(exact hK _ (congrArg bl (by simp_all [Hs] <;> (intros;omega)))))
theorem Bb (c:Int):Cn 236 [.sc (.int .u8 c)] (bl (M9 c)):=by refine gy tt_ok [] 9 [.tmp 2] (fn:=Tryz.f236) Tryz.func236 rfl Tryz.call236 ⟨rfl,rfl,by simp⟩ fun K hK=>?_;repeat' (simp only [go_sem];first|refine ca (fun hg=>?_) (fun hg=>?_)|(exact hK _ (congrArg bl (by simp_all [M9] <;> (intros;omega)))))
theorem wu (c:Int):Cn 245 [.sc (.int .u8 c)] (bl (kQ c)):=by refine gy tt_ok [] 9 [.tmp 2] (fn:=Tryz.f245) Tryz.func245 rfl Tryz.call245 ⟨rfl,rfl,by simp⟩ fun K hK=>?_;repeat' (simp only [go_sem];first|refine ca (fun hg=>?_) (fun hg=>?_)|(exact hK _ (congrArg bl (by simp_all [kQ] <;> (intros;omega)))))
theorem xI (c:Int):Cn 156 [.sc (.int .u8 c)] (bl (Hs c)):=by refine gy tt_ok [] 9 [.tmp 2] (fn:=Tryz.f156) Tryz.func156 rfl Tryz.call156 ⟨rfl,rfl,by simp⟩ fun K hK=>?_;repeat' (simp only [go_sem];first|refine ca (fun hg=>?_) (fun hg=>?_)|(exact hK _ (congrArg bl (by simp_all [Hs] <;> (intros;omega)))))
theorem yJ (c:Int):Cn 157 [.sc (.int .u8 c)] (bl (M9 c)):=by refine gy tt_ok [] 9 [.tmp 2] (fn:=Tryz.f157) Tryz.func157 rfl Tryz.call157 ⟨rfl,rfl,by simp⟩ fun K hK=>?_;repeat' (simp only [go_sem];first|refine ca (fun hg=>?_) (fun hg=>?_)|(exact hK _ (congrArg bl (by simp_all [M9] <;> (intros;omega)))))
theorem tu (c:Int):Cn 153 [.sc (.int .u8 c)] (bl (kQ c)):=by refine gy tt_ok [] 9 [.tmp 2] (fn:=Tryz.f153) Tryz.func153 rfl Tryz.call153 ⟨rfl,rfl,by simp⟩ fun K hK=>?_;repeat' (simp only [go_sem];first|refine ca (fun hg=>?_) (fun hg=>?_)|(exact hK _ (congrArg bl (by simp_all [kQ] <;> (intros;omega)))))
theorem LG (c:Int):Cn 238 [.sc (.int .u8 c)] (bl (uR c)):=by refine gy tt_ok [] 17 [.tmp 2] (fn:=Tryz.f238) Tryz.func238 rfl Tryz.call238 ⟨rfl,rfl,by simp⟩ fun K hK=>?_;simp only [go_sem];refine dK (Ba _) ?_;repeat' (simp only [go_sem];first|refine ca (fun hg=>?_) (fun hg=>?_)|refine dK (Bb _) ?_|refine dK (wu _) ?_|(exact hK _ (congrArg bl (by simp_all [uR]))))
theorem Qx (c:Int):Cn 155 [.sc (.int .u8 c)] (bl (uR c)):=by refine gy tt_ok [] 17 [.tmp 2] (fn:=Tryz.f155) Tryz.func155 rfl Tryz.call155 ⟨rfl,rfl,by simp⟩ fun K hK=>?_;simp only [go_sem];refine dK (xI _) ?_;repeat' (simp only [go_sem];first|refine ca (fun hg=>?_) (fun hg=>?_)|refine dK (yJ _) ?_|refine dK (tu _) ?_|(exact hK _ (congrArg bl (by simp_all [uR]))))
theorem ad6 (c:Int):Cn 244 [.sc (.int .u8 c)] (bl (CH c)):=by refine gy tt_ok [] 9 [.tmp 2] (fn:=Tryz.f244) Tryz.func244 rfl Tryz.call244 ⟨rfl,rfl,by simp⟩ fun K hK=>?_;simp only [go_sem];refine dK (Ba _) ?_;repeat' (simp only [go_sem];first|refine ca (fun hg=>?_) (fun hg=>?_)|refine dK (wu _) ?_|(exact hK _ (congrArg bl (by simp_all [CH]))))
theorem Bc (g:FuncId) (p:Int→Bool) (hg:∀ c:Int,Cn g [.sc (.int .u8 c)] (bl (p c))) (s:ByteArray) (hs:s.size≤1048576):Cn 237 [str s,.sc (.func (.func g) #[] #[])] (bl (ml p s)):=by
 refine gy tt_ok [] 18 [.tmp 4] (fn:=Tryz.f237) Tryz.func237 rfl Tryz.call237 ⟨rfl,rfl,by simp⟩ fun K hK=>?_;have lD:aj.underlying 9=some .string:=kr;have sl:∀ (a:ByteArray) (ty:TypeId),iq aj (Builtin.len_ #[9] ty) [.sc (.string a)]=some (num a.size):=fun a ty=>gi (P:=aj) (tt:=tt) (T:=9) a lD ty;simp only [sl,go_sem];refine eh tt_ok [] [8] 0 [0,1,7] (fun vs=>((s.size:Int)-Go.Eng.intOf (vs.headD .undef)).toNat) (fun vs=>∃ i:Nat,vs=[num i]∧i≤s.size∧∀ j<i,∀ b,s[j]?=some b→p b.toNat=true) (by omega) (by simp only [sl,go_sem]) (⟨0,rfl,bj _,fun j hj=>absurd hj (cR j)⟩) fun vs hI Z1 dW=>?_;obtain⟨i,rfl,hi,jS⟩:=hI;simp only [sl,go_sem];refine ca (fun iI=>?_) (fun iI=>?_);·(have bL:i<s.size:=by simpa using iI);have hw:=bm i (by omega);obtain⟨c,vh⟩:=eC (s:=s) (i:=i) bL;have jt:=eR (P:=aj) s lD .i64 (i:Int) (by omega) (c:=c) (show s[((i:Nat):Int).toNat]?=some c from vh);simp only [hw,jt,sl,go_sem];refine dK (hg _) ?_;simp only [hw,jt,sl,go_sem];refine ca (fun fT=>?_) (fun fT=>?_);(·have cg:false=ml p s:=(oB vh (by simpa using fT)).symm;simp only [hw,jt,sl,go_sem];exact hK _ (congrArg bl cg));simp only [hw,jt,sl,go_sem];refine dW _ (jd (by omega) (by simp only [hw,jt,sl,go_sem]) ?_ ?_) <;> simp only [fY,lk,reduceIte,zE];(·refine⟨i+1,rfl,bL,fun j hj b hb=>?_⟩;(rcases bz j i with h|h);(·exact jS j h b hb);(obtain rfl:j=i:=by omega);rw [vh] at hb;cases hb;simpa using fT);simp only [Go.Eng.intOf,bh];omega
 have gq:¬ i<s.size:=by simpa using iI
 have cg:true=ml p s:=(qj fun j hj b hb=>jS j (by omega) b hb).symm;simp only [sl,go_sem];exact hK _ (congrArg bl cg)
theorem Ht (s:ByteArray) (hs:s.size≤1048576):Cn 224 [str s] (bl (ml uR s)):=by
 refine gy tt_ok [] 15 [.tmp 2] (fn:=Tryz.f224) Tryz.func224 rfl Tryz.call224 ⟨rfl,rfl,by simp⟩ fun K hK=>?_;have lD:aj.underlying 9=some .string:=kr;have sl:∀ (a:ByteArray) (ty:TypeId),iq aj (Builtin.len_ #[9] ty) [.sc (.string a)]=some (num a.size):=fun a ty=>gi (P:=aj) (tt:=tt) (T:=9) a lD ty;simp only [sl,go_sem];refine eh tt_ok [] [3] 0 [0] (fun vs=>((s.size:Int)-Go.Eng.intOf (vs.headD .undef)).toNat) (fun vs=>∃ i:Nat,vs=[num i]∧i≤s.size∧∀ j<i,∀ b,s[j]?=some b→uR b.toNat=true) (by omega) (by simp only [sl,go_sem]) (⟨0,rfl,bj _,fun j hj=>absurd hj (cR j)⟩) fun vs hI Z1 dW=>?_;obtain⟨i,rfl,hi,jS⟩:=hI;simp only [sl,go_sem];refine ca (fun yK=>?_) (fun yK=>?_);·(have bL:i<s.size:=by simpa using yK);have hw:=bm i (by omega);obtain⟨c,vh⟩:=eC (s:=s) (i:=i) bL;have jt:=eR (P:=aj) s lD .i64 (i:Int) (by omega) (c:=c) (show s[((i:Nat):Int).toNat]?=some c from vh);simp only [hw,jt,sl,go_sem];refine dK (Qx _) ?_;simp only [hw,jt,sl,go_sem];refine ca (fun lE=>?_) (fun lE=>?_);(·have cg:false=ml uR s:=(oB vh (by simpa using lE)).symm;simp only [hw,jt,sl,go_sem];exact hK _ (congrArg bl cg));simp only [hw,jt,sl,go_sem];refine dW _ (jd (by omega) (by simp only [hw,jt,sl,go_sem]) ?_ ?_) <;> simp only [fY,lk,reduceIte,zE];(·refine⟨i+1,rfl,bL,fun j hj b hb=>?_⟩;(rcases bz j i with h|h);(·exact jS j h b hb);(obtain rfl:j=i:=by omega);rw [vh] at hb;cases hb;simpa using lE);simp only [Go.Eng.intOf,bh];omega
 have gq:¬ i<s.size:=by simpa using yK
 have cg:true=ml uR s:=(qj fun j hj b hb=>jS j (by omega) b hb).symm;simp only [sl,go_sem];exact hK _ (congrArg bl cg)
def Qy (a b:ByteArray):Bool:=Op.bytesLess a.toList b.toList
theorem dh (a b:ByteArray):(a.toList==b.toList)=decide (a=b):=by rw [gu,beq_iff_eq,decide_eq_true_eq];refine⟨fun h=>?_,fun h=>by rw [h]⟩;rw [ByteArray.toList_eq,ByteArray.toList_eq] at h;cases a;cases b;congr 1;exact ahi.1 h
theorem E5 (a b:ByteArray):Qy a b=decide (a.data.toList<b.data.toList):=by unfold Qy;rw [Proofs.bytesLess_eq,ByteArray.toList_eq,ByteArray.toList_eq]
def xJ (a b:ByteArray):Int:=if Qy a b=true then -1 else if a=b then 0 else 1
theorem lF {α:Type} {q:α→Bool} {l:List α} {i:Nat} {x:α} (h:l[i]?=some x) (hq:q x=true):l.any q=true:=tV.2 ⟨x,aE h,hq⟩
theorem any_none {α:Type} {q:α→Bool} {l:List α} (h:∀ j<l.length,∀ x,l[j]?=some x→q x=false):l.any q=false:=by rw [rO];intro x hx;obtain⟨j,hj⟩:=cb.1 hx;rw [h j (az.1 hj).1 x hj];simp
def rC (s:ByteArray) (l:List ByteArray):Bool:=l.any fun b=>decide (s=b)
theorem E6 {s:ByteArray} {l:List ByteArray}:rC s l=true↔s∈l:=by unfold rC;simp
end Go.Proofs.YtfbbfmcggbapoaaGreatDoor
end
