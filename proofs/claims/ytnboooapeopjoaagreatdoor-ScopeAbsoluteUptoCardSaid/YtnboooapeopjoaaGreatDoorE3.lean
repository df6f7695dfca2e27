import Derived.Test.YtnboooapeopjoaaGreatDoorE2
import Derived.RangeFuncRecord
import Derived.OrdersIn
open Array renaming any_eq_true'→aqr,foldl_toList→apX,getD_eq_getD_getElem?→kU,getElem?_eq_getElem→ch,getElem?_eq_none→apz,getElem?_eq_some_iff→dN,getElem?_replicate→aqE,getElem?_setIfInBounds_ne→Dm,getElem?_toList→fC,mapM_eq_mapM_toList→ap3,toArray_toList→di,toList_append→jZ
open Bool renaming and_eq_true→aL,false_eq_true→cf,or_eq_true→apP
open Go.RowKit.Below renaming heap_alloc→ey
open List renaming all_eq_true→a7,append_nil→jv,cons_append→au,ext_getElem?→dy,flatMap_cons→kV,flatMap_nil→apS,foldl_cons→aM,getElem?_append→VW,getElem?_append_left→bF,getElem?_append_right→aW,getElem?_cons_zero→dk,getElem?_eq_none→dQ,getElem?_eq_none_iff→aqF,getElem?_eq_some_iff→az,getElem?_map→ae,getElem?_replicate→ap0,getElem?_set→bK,getElem?_set_ne→eY,getElem?_take→iZ,getElem?_take_of_lt→jN,length_append→aQ,length_cons→ay,length_eq_zero_iff→cC,length_nil→aI,length_set→pB,length_take→cd,mapM_cons→apN,map_congr_left→gp,map_cons→cR,mem_append→ew,mem_append_left→hX,mem_append_right→gC,mem_cons→cb,mem_cons_of_mem→bP,mem_cons_self→b9,mem_map→dv,mem_of_getElem?→aB,mem_range→alf,nodup_cons→aqd,pairwise_append→aqz,range'_succ→aqi,range_eq_range'→aqy,set_comm→ap1,tail_drop→apO,take_left→qM,take_of_length_le→aX,take_succ_cons→gq
open List.cons renaming injEq→aqc
open Nat renaming add_assoc→oI,add_comm→SO,add_sub_cancel_left→ez,eq_zero_or_pos→apW,le_refl→aw,le_trans→Co,lt_of_lt_of_le→qL,lt_or_ge→bL,zero_add→bE
open Option renaming bind_some→eL,map_eq_some_iff→bA,map_some→cA
open Option.some renaming injEq→aF
open Prod.mk renaming injEq→eA
set_option linter.all false
section
namespace Go.Eng
variable [bg]
open Go.RowKit (Below)

theorem jz {P:Program} {s:Sem Value} {w w':World} {x:Value} (h:s.run P w = .ok x w'):(do pure (Next.value (← s)):Sem Next).run P w = .ok (.value x) w':=by simp [h]

def FN (E:Env) (w:World) (a:Act) (dst:Option Tmp) (Q:St→Prop) (v:Value) (w':World):Prop:=∃ E' st',dr E' w' (a.put dst v) st'∧iC E w E' w'∧Q st'

def WF (ρ:Option Nat):Fence := { fn:=fun _=>True,depth:=none,alive:=false,round:=ρ }
theorem zY {ρ:Option Nat} {n:Nat} {P:Program} {f:FuncId} {xs:Array Value} {w:World} {R:Ending→World→Prop} (h:Calls P f xs w R):CallsIn (WF ρ) n P f xs w R:=by have h1:CallsIn Fence.wide n P f xs w R:=callsIn_wide.2 h;cases ρ with | none=>exact h1 | some l=>exact h1.inRound l
theorem FO {n:Nat} {P:Program} {f:FuncId} {xs:Array Value} {w:World} {R:Ending→World→Prop} (h:CallsIn (WF none) n P f xs w R):Calls P f xs w R:=callsIn_wide.1 h
theorem ID {ρ:Option Nat} {n:Nat} {P:Program} {l:Nat} {f:FuncId} {tmps:Array Value} {assign body:Code} {w:World} {R:Ending→World→Prop} (h:RoundIn Fence.wide 0 P l f tmps assign body w R):RoundIn (WF ρ) n P l f tmps assign body w R:=by refine⟨trivial,fun c cs _=>?_⟩;exact h.2 c cs (room_wide _)
section
variable {P:Program} {ρ:Option Nat} {n:Nat} {o:Oper} {a:Act} {w w':World} {next:Act→World→Prop} {Q:Exit→Act→World→Prop} (mf:∀ c,o.op ≠ .defer c)
include mf
theorem dD {v:Value} (h:(execOp a.eval o).run P w = .ok (.value v) w') (hn:next (a.put o.dst v) w'):o.wpIn (WF ρ) n P a w next Q:=by refine⟨fun _ _=>trivial,?_⟩;rw [Oper.semAt_eq _ _ _ mf,h]; exact hn
theorem oe (h:(execOp a.eval o).run P w = .ok .skip w') (hn:next (a.put o.dst undef) w'):o.wpIn (WF ρ) n P a w next Q:=by refine⟨fun _ _=>trivial,?_⟩;rw [Oper.semAt_eq _ _ _ mf,h]; exact hn
theorem xW {f:FuncId} {xs:Array Value} {R:Ending→World→Prop} (h:(execOp a.eval o).run P w = .ok (.enter f xs) w) (hc:Calls P f xs w R) (hR:∀ e w',R e w'→∃ v,e = .returned v∧next (a.put o.dst v) w') :
  o.wpIn (WF ρ) n P a w next Q:=by refine⟨fun _ _=>trivial,?_⟩;rw [Oper.semAt_eq _ _ _ mf,h];refine⟨fun h=>by simp [WF] at h,(zY hc).mono fun e w' he=>?_⟩;obtain⟨v,rfl,hn⟩:=hR e w' he;exact hn
theorem xX {l:Nat} {f:FuncId} {tmps:Array Value} {assign body:Code} {R:Ending→World→Prop} (h:(execOp a.eval o).run P w = .ok (.round l f tmps assign body) w) (hc:RoundIn Fence.wide 0 P l f tmps assign body w R)
  (hR:∀ e w',R e w'→∃ v,e = .returned v∧next (a.put o.dst v) w'):o.wpIn (WF ρ) n P a w next Q:=by refine⟨fun _ _=>trivial,?_⟩;rw [Oper.semAt_eq _ _ _ mf,h];refine⟨fun h=>by simp [WF] at h,(ID hc).mono fun e w' he=>?_⟩;obtain⟨v,rfl,hn⟩:=hR e w' he;exact hn
end

theorem xY {P:Program} {E:Env} {w:World} {a:Act} {st:St} (hs:dr E w a st) {f:FuncId} {vs:List V} {dst:Option Tmp} {Q:St→Prop} (h:xU P f vs st dst Q) {xs:Array Value} (hx:cY E vs xs.toList) :
  ((callFunc f xs).run P w = .ok (.enter f xs) w∧Calls P f xs w fun e w'=>∃ v,e = .returned v∧FN E w a dst Q v w')∨∃ v,(callFunc f xs).run P w = .ok (.value v) w∧FN E w a dst Q v w:=by
 rcases h with ⟨vs',r,hp,hf,hQ⟩ | ⟨r,bV,hf,hQ⟩ | ⟨R,hf,hQ⟩ | ⟨r,hf,hQ⟩
 ·refine .inl ⟨hf.1 xs w,(Mb hs hx hp hf).mono ?_⟩;rintro e w' ⟨E',x,rfl,iz,pC,hr⟩;exact⟨x,rfl,E',_,pC.put dst hr,iz,hQ⟩
 ·refine .inl ⟨hf.1 xs w,(hf.2 E w xs hs.bare hx).mono ?_⟩;rintro e w' ⟨E',x,rfl,iz,pC,hr⟩;exact⟨x,rfl,E',_,(hs.FK pC iz.le).put dst hr,iz,hQ⟩
 ·refine .inl ⟨hf.1 xs w,(hf.2 E w xs hs.bare hx).mono ?_⟩;rintro e w' ⟨E',x,r,bV,rfl,hR,iz,pC,hr⟩;exact⟨x,rfl,E',_,(hs.FK pC iz.le).put dst hr,iz,hQ _ _ hR⟩
 obtain⟨x,h1,h2⟩:=hf E w xs hs.F hx;exact .inr ⟨x,h1,E,_,hs.put dst h2,iC.refl E w,hQ⟩

theorem iJ {P:Program} {tt:Table} (ht:TT P tt) {E:Env} {w:World} {a:Act} {st:St} (hs:dr E w a st) {key:Nat} (hk:jF st.mem key) {o:Oper} {Q:St→Prop} (h:de P tt key o st Q)
  {ρ:Option Nat} {n:Nat} {next:Act→World→Prop} {Q':Exit→Act→World→Prop} (hn:∀ v w',FN E w a o.dst Q v w'→next (a.put o.dst v) w'):o.wpIn (WF ρ) n P a w next Q':=by
 obtain⟨dst,op,type,pos,after,guard⟩:=o;have mf:∀ c,op ≠ .defer c:=by rintro c rfl;simp [de,me] at h
 unfold de at h;dsimp only at h;split at h;·rename_i T;split at h;(·rename_i i hi;obtain⟨info,xQ,-,-,z,hz,Fz⟩:=ht.size T i hi;(have hr:cY E (i.zero.map V.sc) z.cells.toList:=by rw [Fz]; exact⟨by simp,fun k c x hc hx=>by simp only [ae,hx,cA,aF] at hc; subst hc; exact .sc _ _⟩);obtain⟨E',h1,h2,h3⟩:=hs.Of hk hr T;refine dD mf (v:=.pointer (some ⟨w.heap.size,0,none⟩)) (w':=w.alloc (.cells z.cells T (0,0))) ?_ (hn _ _ ⟨E',_,h1.put dst h3,h2,h⟩);(have hzv:(zeroValue T).run P w = .ok z w:=by simp [zeroValue,hY xQ,hz]);simp [execOp,Instr.alloc,hzv,newVar,newRow]);exact h.elim
 ·rename_i T x;split at h;(·rename_i cs Dn;obtain⟨hr,-⟩:=qi (hs.eval x) Dn;obtain⟨E',h1,h2,h3⟩:=hs.Of hk hr T;refine dD mf (v:=.pointer (some ⟨w.heap.size,0,none⟩)) (w':=w.alloc (.cells (a.eval x).cells T (0,0))) ?_ (hn _ _ ⟨E',_,h1.put dst h3,h2,h⟩);simp [execOp,Instr.box,newVar,newRow]);exact h.elim
 ·split at h;(·rename_i v hv;obtain⟨x,h1,h2⟩:=u2 ht hs hv;exact dD mf (dA h1) (hn _ _ ⟨E,_,hs.put dst h2,iC.refl E w,h⟩));exact h.elim
 ·rename_i T len parts;split at h;(·rename_i size rs hl;obtain⟨Z,e,h1,h2,h3,h4⟩:=DH ht (fun p _=>hs.eval p.2) hl;obtain⟨E',h5,h6,h7⟩:=hs.uU hk (xs:=Z) (rs:=rs) (c:=len) e h2 (by omega) h4;rw [h3] at h7;exact dD mf (jz h1) (hn _ _ ⟨E',_,h5.put dst h7,h6,h⟩));split at h;(·rename_i size rs hl;unfold Tw at hl;split at hl;(·rename_i vs' hvs;obtain⟨E1,tS,Tx,Oz⟩:=hs.freeze hvs;(have Me:∀ (l:List (Nat×Operand)) (us Ov:List V),us=l.map (fun p=>st.eval p.2)→gx st.mem us=some Ov→cY E1 Ov (l.map fun p=>a.eval p.2)→∀ p∈l,dh E1 (evP st.mem st.eval p.2) (a.eval p.2):=by intro l;induction l with | nil=>intro us Ov _ _ _ p hp; simp at hp | cons q r ih =>intro us Ov hu hp hr p XV;subst hu;simp only [cR,gx] at hp;split at hp;(·rename_i c' hc;split at hp;(·rename_i r' Fc;cases hp;obtain⟨y,ys,hy,g1,g2⟩:=hr.of_cons;simp only [cR,aqc] at hy;obtain⟨rfl,rfl⟩:=hy;(rcases cb.1 XV with rfl | XV);(·unfold evP; rw [hc]; exact g1);exact ih _ _ rfl Fc g2 p XV);cases hp);cases hp);(have qa:cY E (parts.toList.map fun p=>st.eval p.2) (parts.toList.map fun p=>a.eval p.2):=by refine⟨by simp,fun i v x hv hx=>?_⟩;simp only [ae,bA] at hv hx;obtain⟨q,hq,rfl⟩:=hv;obtain⟨q',SZ,rfl⟩:=hx;rw [hq] at SZ; cases SZ;exact hs.eval q.2);have ahM:=Me parts.toList _ _ rfl hvs (Oz _ qa);(have je:jF ({ st with mem:=ck st.mem (DR st.eval parts.toList) }:St).mem key:=by unfold jF;dsimp only;rw [qk,tF];(rcases hk with hk | hk);(·rw [hk]; exact .inl rfl);exact .inr hk);obtain⟨Z,e,h1,h2,h3,h4⟩:=DH ht (w:=w) ahM hl;obtain⟨E',h5,h6,h7⟩:=tS.uU je (xs:=Z) (rs:=rs) (c:=len) e h2 (by omega) h4;rw [h3] at h7;exact dD mf (jz h1) (hn _ _ ⟨E',_,h5.put dst h7,Tx.trans h6,h⟩));cases hl);exact h.elim
 ·rename_i T p x;split at h;(·rename_i bV hm;obtain⟨w',h1,h2,h3⟩:=uW ht hs (hs.eval _) (hs.eval _) hm;refine oe mf (w':=w') ?_ (hn _ _ ⟨E,_,h2.put dst (.sc _ _),h3,h⟩);simp [execOp,h1]);split at h;(·rename_i bV hm;unfold DS at hm;split at hm;(·rename_i v' zp;obtain⟨E1,tS,Tx,Oz⟩:=hs.freeze (vs:=[st.eval x]) (vs':=[v']) (by simp [gx,zp]);simp only [kV,apS,jv] at tS;obtain⟨z,r,hz,h4,-⟩:=(Oz [a.eval x] (.cons (hs.eval x) (.nil _))).of_cons;simp only [aqc] at hz;obtain⟨rfl,-⟩:=hz;obtain⟨w',h1,h2,h3⟩:=uW ht tS ((hs.eval p).mono Tx.le) h4 hm;refine oe mf (w':=w') ?_ (hn _ _ ⟨E1,_,h2.put dst (.sc _ _),Tx.trans h3,h⟩);simp [execOp,h1]);cases hm);exact h.elim
 ·rename_i xs ts;split at h;(·rename_i s x Tz;split at h;(·rename_i size tW rows ha;have he:=hs.pI xs;rw [Tz] at he;obtain⟨y,r1,hy,It,he⟩:=he.of_cons;obtain⟨z,r2,hz,Iz,he⟩:=he.of_cons;have:=he.of_nil;subst this; subst hz;(have qa:xs.map a.eval = #[y,z]:=by rw [← di (xs:=xs.map a.eval),hy]);obtain⟨v,w',E',h1,h2,h3,h4⟩:=B5 ht hs (ty:=type) hk It Iz ha;refine dD mf (v:=v) (w':=w') ?_ (hn _ _ ⟨E',_,h2.put dst h4,h3,h⟩);simp only [execOp,resolve,Sem.run_bind,Sem.run_pure,Result.andThen_ok,invoke,builtin,qa,h1]);unfold xV at h;split at h;(·rename_i size b v l rs news ha;have he:=hs.pI xs;rw [Tz] at he;obtain⟨y,r1,hy,It,he⟩:=he.of_cons;obtain⟨z,r2,hz,Iz,he⟩:=he.of_cons;have:=he.of_nil;subst this; subst hz;(have qa:xs.map a.eval = #[y,z]:=by rw [← di (xs:=xs.map a.eval),hy]);obtain⟨u,w',E',o',nj,h1,TA,NZ,h2,h3,h4⟩:=B9 ht hs (ty:=type) It Iz ha;refine dD mf (v:=u) (w':=w') ?_ (hn _ _ ⟨E',_,h2.put dst h4,h3,h o' nj TA NZ⟩);simp only [execOp,resolve,Sem.run_bind,Sem.run_pure,Result.andThen_ok,invoke,builtin,qa,h1]);exact h.elim);exact h.elim
 ·rename_i f xs ts;split at h;(·rename_i k hfv;have hf:=hs.eval f;rw [hfv] at hf;generalize hfx:a.eval f=fx at hf;cases hf with | ke _ _ l e c hb =>(rcases h with ⟨b,bV,hy,hQ⟩ | ⟨R,hy,hQ⟩);rotate_left;(·obtain⟨fn,tmps,assign,body,h1,h2⟩:=hy E w (xs.map a.eval) l e c hs.bare (hs.pI xs) hb;refine xX mf (l:=l) (f:=fn) (tmps:=tmps) (assign:=assign) (body:=body) ?_ h2 fun e w' ⟨E',b,bV,he,hR,iz,pC⟩=>⟨_,he,hn _ _ ⟨E',_,(hs.FK pC iz.le).put dst (.sc _ _),iz,hQ _ _ hR⟩⟩;rw [← h1];simp [execOp,resolve,hfx,Deferred.ofValue,invoke]);obtain⟨fn,tmps,assign,body,h1,h2⟩:=hy E w (xs.map a.eval) l e c hs.bare (hs.pI xs) hb;refine xX mf (l:=l) (f:=fn) (tmps:=tmps) (assign:=assign) (body:=body) ?_ h2 fun e w' ⟨E',he,iz,pC⟩=>⟨_,he,hn _ _ ⟨E',_,(hs.FK pC iz.le).put dst (.sc _ _),iz,hQ⟩⟩;rw [← h1];simp [execOp,resolve,hfx,Deferred.ofValue,invoke]);rename_i hfv;split at h;(·rename_i g vs hg;obtain⟨ys,h1,h2⟩:=rF (P:=P) (w:=w) (hs.eval f) (hs.pI xs) hg;(rcases xY hs h h1 with ⟨h3,h4⟩ | ⟨v,h3,h4⟩);(·refine xW mf (f:=g) (xs:=ys) ?_ h4 fun e w' ⟨v,hv,ha⟩=>⟨v,hv,hn _ _ ha⟩;rw [← h3,← h2];simp only [execOp,resolve]);refine dD mf (v:=v) ?_ (hn _ _ h4);rw [← h3,← h2];simp only [execOp,resolve]);exact h.elim
 ·split at h;(·rename_i size rs cap hm;obtain⟨E',w',h1,h2,h3,h4⟩:=FH (P:=P) ht hs hk (hs.eval _) (hs.eval _) hm;exact dD mf (jz h1) (hn _ _ ⟨E',_,h2.put dst h4,h3,h⟩));exact h.elim
 ·obtain⟨E',w',h1,h2,h3,h4⟩:=B7 (P:=P) hs hk _;exact dD mf (jz h1) (hn _ _ ⟨E',_,h2.put dst h4,h3,h⟩)
 ·split at h;(·rename_i bV hm;obtain⟨w',h1,h2,h3⟩:=tD (P:=P) hs (hs.eval _) (hs.eval _) (hs.eval _) hm;refine oe mf (w':=w') ?_ (hn _ _ ⟨E,_,h2.put dst (.sc _ _),h3,h⟩);simp [execOp,h1]);exact h.elim
 ·split at h;(·rename_i bV hm;obtain⟨w',h1,h2,h3⟩:=tD (P:=P) hs (hs.eval _) (hs.eval _) (hs.eval _) hm;refine oe mf (w':=w') ?_ (hn _ _ ⟨E,_,h2.put dst (.sc _ _),h3,h⟩);simp [execOp,h1]);exact h.elim
 ·split at h;(·rename_i bV v hm;obtain⟨z,w',h1,h2,h3,h4⟩:=DL (P:=P) hs (hs.eval _) (hs.eval _) hm;exact dD mf (jz h1) (hn _ _ ⟨E,_,h2.put dst h4,h3,h⟩));exact h.elim
 ·rename_i T m s x;split at h;(·rename_i bV hm;obtain⟨w',h1,h2,h3⟩:=DN (P:=P) (T:=T) hs (hs.eval _) (hs.eval _) (hs.eval _) hm;refine oe mf (w':=w') ?_ (hn _ _ ⟨E,_,h2.put dst (.sc _ _),h3,h⟩);simp [execOp,h1]);exact h.elim
 ·rename_i xs ts;split at h;(·rename_i bV hm;obtain⟨w',h1,h2,h3⟩:=B6 (ty:=type) hs (hs.pI xs) hm;refine dD mf (v:=.tuple #[]) (w':=w') ?_ (hn _ _ ⟨E,_,h2.put dst (.sc _ _),h3,h⟩);simp only [execOp,resolve,Sem.run_bind,Sem.run_pure,Result.andThen_ok,invoke,builtin,h1]);exact h.elim
 ·split at h;(·rename_i B hB;obtain⟨E',w',h1,h2,h3,h4⟩:=zR (P:=P) hs hk (hs.eval _) hB;exact dD mf (jz h1) (hn _ _ ⟨E',_,h2.put dst h4,h3,h⟩));exact h.elim
 ·obtain⟨z,w',st',h1,h2,h3,h4⟩:=FG (P:=P) (ty:=type) hs (hs.eval _) h;exact dD mf (jz h1) (hn _ _ ⟨E,st',h2,h3,h4⟩)
 ·rename_i op T x y yT;split at h;(·rename_i m hm;obtain⟨b,hb,gO⟩:=DQ (P:=P) (w:=w) ht x y (hs.eval x) (hs.eval y) hm;exact dD mf (dA gO) (hn _ _ ⟨E,_,hs.put dst (.sc _ _),iC.refl E w,h b hb⟩));split at h;(·rename_i v hv;obtain⟨x,h1,h2⟩:=sA ht hs hv;exact dD mf h1 (hn _ _ ⟨E,_,hs.put dst h2,iC.refl E w,h⟩));exact h.elim
 split at h;·rename_i v hv;obtain⟨x,h1,h2⟩:=sA ht hs hv;exact dD mf h1 (hn _ _ ⟨E,_,hs.put dst h2,iC.refl E w,h⟩)
 exact h.elim

def gr (all:Array Oper) (fr:List V) (o:Oper):Option Bool :=
 match o.guard with
 | none=>some true
 | some (j,want)=>match (all[j]?).bind (·.dst) with
  | none=>some false
  | some d=>match fr[d]? with
   | some (.sc (.bool b))=>some (b==want)
   | some (.sc _)=>some false
   | some _=>none
   | none=>some false

theorem m6 {E:Env} {w:World} {a:Act} {st:St} (hs:dr E w a st) {all:Array Oper} {o:Oper} {b:Bool} (h:gr all st.fr o=some b):Region.wanted o (yielded all a.tmps)=b:=by
 unfold gr at h;unfold Region.wanted;split at h;·rename_i hg; rw [hg]; simpa using h
 rename_i j want hg;rw [hg];dsimp only;unfold yielded;split at h;·rename_i hd; rw [hd]; simp at h; subst h; rfl
 rename_i d hd;rw [hd];split at h;·rename_i bb hf;obtain⟨x,hx,hr⟩:=hs.fr.get hf;obtain rfl:=gN hr;simp only [aF] at h; subst h;(have:a.tmps[d]?=some (.bool bb):=by simpa using hx);simp [this]
 ·rename_i v ep hf;obtain⟨x,hx,hr⟩:=hs.fr.get hf;obtain rfl:=gN hr;simp only [aF] at h; subst h;(have:a.tmps[d]?=some x:=by simpa using hx);simp only [eL,this];cases x <;> first | rfl | exact absurd rfl (ep _)
 ·cases h
 rename_i hf;simp only [aF] at h; subst h;have hl:st.fr.length=a.tmps.size:=by have:=hs.fr.1; simpa using this
 have:a.tmps[d]?=none:=by rw [aqF] at hf;exact apz (by omega)
 simp [this]

def gb (P:Program) (tt:Table) (all:Array Oper):List Oper→St→(St→Prop)→Prop
 | [],st,Q=>Q st
 | o :: r,st,Q=>match gr all st.fr o with
  | some true=>de P tt st.mem.length o st fun st'=>gb P tt all r st' Q
  | some false=>gb P tt all r (st.put o.dst (.sc undef)) Q
  | none=>False

@[congr] theorem Wb {P:Program} {f f':FuncId} {vs vs':List V} {st st':St} {dst:Option Tmp} {Q:St→Prop} (hf:f=f') (hv:vs=vs') (h:st=st'):xU P f vs st dst Q=xU P f' vs' st' dst Q:=by rw [hf,hv,h]
theorem put_defers (a:Act) (dst:Option Tmp) (v:Value):(a.put dst v).defers=a.defers:=by cases dst <;> rfl
theorem DT {P:Program} {tt:Table} (ht:TT P tt) {ρ:Option Nat} {n:Nat} {all:Array Oper} {Q:St→Prop} {Q':Exit→Act→World→Prop}:∀ (suf pre:List Oper),all.toList=pre++suf →
  ∀ {E:Env} {w:World} {a:Act} {st:St},dr E w a st→gb P tt all suf st Q→(∀ a' w',a'.defers=a.defers→(∃ E' st',dr E' w' a' st'∧iC E w E' w'∧Q st')→Q' .normal a' w')→wpOpsIn (WF ρ) n P all Q' (List.range' pre.length suf.length) a w:=by intro suf;induction suf with | nil=>intro pre _ E w a st hs h hq; exact hq _ _ rfl ⟨E,st,hs,iC.refl E w,h⟩ | cons o r ih =>intro pre ef E w a st hs h hq;(have j1:all[pre.length]?=some o:=by rw [← fC,ef,aW (aw _)]; simp);(have abU:all.toList=(pre++[o])++r:=by rw [ef]; simp);have ih':=@ih (pre++[o]) abU;simp only [aQ,ay,aI,bE] at ih';rw [ay,aqi,wpOpsIn,j1];dsimp only;simp only [gb] at h;split at h;(·rename_i hw;rw [if_pos (m6 hs hw)];refine iJ ht hs (.inr rfl) h ?_;rintro v w' ⟨E',st',h1,h2,h3⟩;exact ih' h1 h3 fun a'' w'' hd ⟨Fe,XX,h4,h5,h6⟩=>hq _ _ (hd.trans (put_defers _ _ _)) ⟨Fe,XX,h4,h2.trans h5,h6⟩);(·rename_i hw;rw [if_neg (by rw [m6 hs hw]; simp)];exact⟨fun _ _=>trivial,ih' (hs.put o.dst (.sc _ _)) h fun a'' w'' hd h=>hq _ _ (hd.trans (put_defers _ _ _)) h⟩);exact h.elim

def Marks (E:Env) (w:World) (base:Nat) (ds:List Deferred):Prop :=
 ∃ rs:List Nat,ds=rs.map (fun r => { target:=.collected r,args := #[] })∧rs.Nodup∧∀ r∈rs,base≤r∧w.heap[r]?=some (.deferred (some []))∧∀ k v e c,E.cI k v≠some (r,e,c)
theorem Marks.Mf {E E':Env} {w w':World} {base:Nat} {ds:List Deferred} (h:Marks E w base ds) (he:iC E w E' w'):Marks E' w' base ds:=by
 obtain⟨rs,h1,h2,h3⟩:=h;refine⟨rs,h1,h2,fun r hr=>?_⟩;obtain⟨h6,h4,h5⟩:=h3 r hr;have ca:r<w.heap.size:=by (rcases bL r w.heap.size with h | h);(·exact h);rw [apz h] at h4; cases h4
 refine⟨h6,(he.heap r ca h5).trans h4,fun k v e c hk=>?_⟩;rcases he.cI _ _ _ _ _ hk with ⟨k0,v0,e0,c0,h⟩ | h
 ·exact h5 _ _ _ _ h
 omega
theorem Marks.nil (E:Env) (w:World) (base:Nat):Marks E w base []:=⟨[],rfl,.nil,fun r h=>by simp at h⟩

def XY (E0:Env) (w0:World) (Q:Exit→St→Prop):Exit→Act→World→Prop:=fun ex a' w'=>∃ E' st',dr E' w' a' st'∧iC E0 w0 E' w'∧Marks E' w' w0.heap.size a'.defers∧Q ex st'

def eg (P:Program) (ρ:Option Nat) (n0:Nat) (c:Code) (st:St) (Q:Exit→St→Prop):Prop :=
 ∀ (E0:Env) (w0:World),(∀ k,n0≤k→∀ v,E0.cI k v=none)→∀ (E:Env) (w:World) (a:Act),iC E0 w0 E w→dr E w a st→Marks E w w0.heap.size a.defers→c.wpIn (WF ρ) 0 P (XY E0 w0 Q) a w

def il (next:St→Prop) (Q:Exit→St→Prop):Exit→St→Prop
 | .normal,st=>next st
 | e,st=>Q e st
def kg (id:Nat) (Q:Exit→St→Prop):Exit→St→Prop
 | .exit j,st=>if j=id then Q .normal st else Q (.exit j) st
 | e,st=>Q e st

section
variable {P:Program} {tt:Table} {ρ:Option Nat} {n0:Nat} {st:St} {Q:Exit→St→Prop}
theorem eg.mono {c:Code} {Q':Exit→St→Prop} (h:eg P ρ n0 c st Q) (hq:∀ e st',Q e st'→Q' e st'):eg P ρ n0 c st Q' :=
 fun E0 w0 h0 E w a he hs hm=>wpIn_mono (h E0 w0 h0 E w a he hs hm) fun _ _ _ ⟨E',st',h1,h2,h4,h3⟩=>⟨E',st',h1,h2,h4,hq _ _ h3⟩
theorem cn (h:Q .normal st):eg P ρ n0 .skip st Q:=fun E0 w0 h0 E w a he hs hm=>wpIn_skip ⟨E,st,hs,he,hm,h⟩
theorem bW (h:Q .ret st):eg P ρ n0 .ret st Q:=fun E0 w0 h0 E w a he hs hm=>wpIn_ret ⟨E,st,hs,he,hm,h⟩
theorem eC {id:Nat} (h:Q (.exit id) st):eg P ρ n0 (.exit id) st Q:=fun E0 w0 h0 E w a he hs hm=>wpIn_exit ⟨E,st,hs,he,hm,h⟩
theorem bC {x y:Code} (h:eg P ρ n0 x st (il (fun st'=>eg P ρ n0 y st' Q) Q)):eg P ρ n0 (.seq x y) st Q:=fun E0 w0 h0 E w a he hs hm=>by refine wpIn_seq (wpIn_mono (h E0 w0 h0 E w a he hs hm) ?_);rintro e a' w' ⟨E',st',h1,h2,h4,h3⟩;cases e with | normal=>exact h3 E0 w0 h0 E' w' a' h2 h1 h4 | _=>exact⟨E',st',h1,h2,h4,h3⟩
theorem aV {c:Operand} {x y:Code} {b:Bool} (hc:st.eval c = .sc (.bool b)) (h:eg P ρ n0 (if b=true then x else y) st Q):eg P ρ n0 (.cond c x y) st Q:=fun E0 w0 h0 E w a he hs hm=>by have:=hs.eval c;rw [hc] at this;exact wpIn_cond (t:=b) (gN this) (h E0 w0 h0 E w a he hs hm)
theorem bX {id:Nat} {c:Code} (h:eg P ρ n0 c st (kg id Q)):eg P ρ n0 (.block id c) st Q:=fun E0 w0 h0 E w a he hs hm=>by refine wpIn_block (wpIn_mono (h E0 w0 h0 E w a he hs hm) ?_);rintro e a' w' ⟨E',st',h1,h2,h4,h3⟩;cases e with | exit j =>simp only [Exit.inBlock,kg] at h3 ⊢;split;(·rename_i hj; rw [if_pos hj] at h3; exact⟨E',st',h1,h2,h4,h3⟩);rename_i hj; rw [if_neg hj] at h3; exact⟨E',st',h1,h2,h4,h3⟩ | _=>exact⟨E',st',h1,h2,h4,h3⟩
theorem mH (ht:TT P tt) {id:Nat} {ops:Array Oper} (h:gb P tt ops ops.toList st (Q .normal)):eg P ρ n0 (.region id ops false) st Q:=fun E0 w0 h0 E w a he hs hm=>by refine wpIn_region ?_;have:=DT ht (ρ:=ρ) (n:=0) (Q':=XY E0 w0 Q) ops.toList [] (by simp) hs h (fun a' w' hd ⟨E',st',h1,h2,h3⟩=>⟨E',st',h1,he.trans h2,by rw [hd]; exact hm.Mf h2,h3⟩);rw [aqy];simpa using this

def lY (P:Program) (ρ:Option Nat) (n0:Nat) (c:Code):Nat→St→(Exit→St→Prop)→Prop
 | 0,_,_=>False
 | n+1,st,Q=>eg P ρ n0 c st (il (fun st'=>lY P ρ n0 c n st' Q) Q)
theorem rG {c:Code} (n:Nat) (h:lY P ρ n0 c n st Q):eg P ρ n0 (.loop c) st Q:=fun E0 w0 h0 E w a he hs hm=>by
 refine wpIn_loop_rounds n ?_;have key:∀ (n:Nat) (E1:Env) (w1:World) (a1:Act) (tj:St),dr E1 w1 a1 tj→iC E0 w0 E1 w1→Marks E1 w1 w0.heap.size a1.defers→lY P ρ n0 c n tj Q→Code.roundsIn (WF ρ) 0 P c (XY E0 w0 Q) n a1 w1:=by intro n;induction n with | zero=>intro E1 w1 a1 tj _ _ _ h; exact h.elim | succ n ih =>intro E1 w1 a1 tj h1 h2 h5 h3;refine wpIn_mono (h3 E0 w0 h0 E1 w1 a1 h2 h1 h5) ?_;rintro e a' w' ⟨E',st',h4,h5,h7,h6⟩;cases e with | normal=>exact ih E' w' a' st' h4 h5 h7 h6 | _=>exact⟨E',st',h4,h5,h7,h6⟩
 exact key n E w a st hs he hm h

theorem rH {c:Code} {st':St} (hw:∀ E w a,dr E w a st→dr E w a st') (h:eg P ρ n0 c st' Q):eg P ρ n0 c st Q :=
 fun E0 w0 h0 E w a he hs hm=>h E0 w0 h0 E w a he (hw E w a hs) hm


mutual
def aA (n:Nat):V→Bool
 | .ms b _ _ _=>decide (b<n)
 | .ptr b _=>decide (b<n)
 | .ke b=>decide (b<n)
 | .mp b=>decide (b<n)
 | .iy b _ _ _=>decide (b<n)
 | .undef=>true
 | .sc _=>true
 | .slice _=>true
 | .fa _=>true
 | .gn=>true
 | .full _=>true
 | .agg cs=>aK n cs
 | .eV cs=>aK n cs
 | .cX _ first cap=>aK n first&&aK n cap
def aK (n:Nat):List V→Bool
 | []=>true
 | c :: r=>aA n c&&aK n r
end
theorem gF (n:Nat) (l:List V):aK n l=l.all (aA n):=by induction l with | nil=>rfl | cons c r ih=>simp [aK,ih]
def aJ (n:Nat):bm→Bool
 | .box cs=>cs.all (aA n)
 | .loop _ _ fr _ _ _=>fr.all (aA n)
 | .map dO _=>dO.all (fun k=>aA n k.2.2)
 | .jO m _ _ _=>decide (m<n)
 | _=>true
def Env.cut (E:Env) (n:Nat):Env := { F:=E.F,cI:=fun k v=>if k<n then E.cI k v else none,gl:=E.gl }

theorem jH {E:Env} {n:Nat} {v:V} {x:Value} (h:dh E v x) (hb:aA n v=true):dh (E.cut n) v x:=by induction h with | undef=>exact .undef _ _ | sc=>exact .sc _ _ | slice E rows a cap tR ad xf ha nR hz hF h1 hR ih=>exact .slice _ _ _ _ tR ad xf ha nR hz hF h1 hR | ms E b v s l g e c a cap gi hl h0 Cs=>exact .ms _ _ _ _ _ g e c _ _ ((if_pos (by simpa [aA] using hb)).trans gi) hl h0 Cs | jl=>exact .jl _ _ _ _ | ptr E b o g e c gi=>exact .ptr _ _ _ g e c ((if_pos (by simpa [aA] using hb)).trans gi) | ke E b l e c gi=>exact .ke _ _ l e c ((if_pos (by simpa [aA] using hb)).trans gi) | mp E b l e c gi=>exact .mp _ _ l e c ((if_pos (by simpa [aA] using hb)).trans gi) | iy E b v i o g e c gi=>exact .iy _ _ _ _ _ g e c ((if_pos (by simpa [aA] using hb)).trans gi) | fa E cs ad xf hF hR ih=>exact .fa _ _ _ xf hF hR | gn=>exact .gn _ | full E rows a h ih=>exact .full _ _ _ (ih rfl) | agg E cs xs hl hh ih =>rw [aA,gF] at hb;exact .agg _ _ _ hl fun i c x hc hx=>ih i c x hc hx (a7.1 hb c (aB hc)) | eV E cs xs hl hh ih =>rw [aA,gF] at hb;exact .eV _ _ _ hl fun i c x hc hx=>ih i c x hc hx (a7.1 hb c (aB hc)) | cX E f first cap xs ys hx hy h1 h2 Xy Xz =>rw [aA,gF,gF,aL] at hb;exact .cX _ _ _ _ _ _ hx hy (fun i c x hc hx=>Xy i c x hc hx (a7.1 hb.1 c (aB hc))) fun i c x hc hx=>Xz i c x hc hx (a7.1 hb.2 c (aB hc))

theorem dr.cut {E:Env} {w:World} {a:Act} {st:St} (hs:dr E w a st) {n:Nat} (hf:st.fr.all (aA n)=true) (hm:(st.mem.take n).all (aJ n)=true):dr (E.cut n) w a { st with mem:=st.mem.take n }:=by
 have iG:∀ k v,k<n→(E.cut n).cI k v=E.cI k v:=fun k v h=>if_pos h;have ig:∀ k v,n≤k→(E.cut n).cI k v=none:=fun k v h=>if_neg (by omega);have ca:∀ {k v t},(E.cut n).cI k v=some t→k<n∧E.cI k v=some t:=fun {k v t} h=>by by_cases hk:k<n;(·rw [iG k v hk] at h; exact⟨hk,h⟩);rw [ig k v (by omega)] at h; cases h
 have j1:∀ {k:Nat} {B:bm},(st.mem.take n)[k]?=some B→k<n∧st.mem[k]?=some B:=fun {k B} h=>by rw [iZ] at h;split at h;(·exact⟨by assumption,h⟩);cases h
 refine⟨hs.F,fun k v g e c h=>hs.lt _ _ _ _ _ (ca h).2,fun k B hk=>?_,fun k hk v=>?_,fun k B hk v hv=>?_,fun k k' v v' g e1 c1 e2 c2 h5 h6=>hs.apart _ _ _ _ _ _ _ _ _ (ca h5).2 (ca h6).2,⟨hs.fr.1,fun i v x hv hx=>jH (hs.fr.2 i v x hv hx) (a7.1 hf v (aB hv))⟩⟩;·obtain⟨lZ,iQ⟩:=j1 hk;have ef:=a7.1 hm B (aB hk);have h:=hs.mem k B iQ;cases B with | hole=>(exact fun v=>by rw [iG k v lZ]; exact h v) | dead=>trivial | box cs =>obtain⟨g,T,xs,h1,h2,h3,h4⟩:=h;exact⟨g,T,xs,(iG k 0 lZ).trans h1,h2,⟨h3.1,fun i v x hv hx=>jH (h3.2 i v x hv hx) (a7.1 ef v (aB hv))⟩,h4⟩ | loop s nS fr params assign body =>obtain⟨l,fn,tmps,db,h1,h2,h3,h4⟩:=h;exact⟨l,fn,tmps,db,(iG k 0 lZ).trans h1,h2,⟨h3.1,fun i v x hv hx=>jH (h3.2 i v x hv hx) (a7.1 ef v (aB hv))⟩,h4⟩ | map dO clock =>obtain⟨g,es,h1,h2,h3,h4⟩:=h;exact⟨g,es,(iG k 0 lZ).trans h1,h2,⟨h3.1,fun i kb e hk he=>let ⟨p1,p2,p3⟩:=h3.2 i kb e hk he; ⟨p1,p2,jH p3 (a7.1 ef kb (aB hk))⟩⟩,h4⟩ | jO m since seen last =>obtain⟨g,gm,e,c,h1,h2,h3,h4⟩:=h;(have hmn:m<n:=by simpa [aJ] using ef);exact⟨g,gm,e,c,(iG k 0 lZ).trans h1,(iG m 0 hmn).trans h2,h3,h4⟩ | nP s pos =>obtain⟨g,h1,h2,h3⟩:=h;exact⟨g,(iG k 0 lZ).trans h1,h2,h3⟩ | oa =>obtain⟨g,h1,h2,h3⟩:=h;exact⟨g,(iG k 0 lZ).trans h1,h2,h3⟩ | rows v e rs =>((rcases h with ⟨h1,h2⟩ | ⟨g,T,xs,c,h1,h2⟩);(·exact .inl ⟨h1,(iG k v lZ).trans h2⟩);exact .inr ⟨g,T,xs,c,(iG k v lZ).trans h1,h2⟩) | uR v e rs =>(rcases h with ⟨h1,h2⟩ | ⟨g,c,h1,h2⟩);(·exact .inl ⟨h1,(iG k v lZ).trans h2⟩);exact .inr ⟨g,c,(iG k v lZ).trans h1,h2⟩
 ·by_cases lZ:k<n;(·rw [iG k v lZ];refine hs.top k ?_ v;dsimp only at hk;rw [cd] at hk; omega);exact ig k v (by omega)
 obtain⟨lZ,iQ⟩:=j1 hk;rw [iG k v lZ]; exact hs.dV k B iQ v hv

def forget (xZ:List Nat) (fr:List V):List V:=xZ.foldl (fun fr i=>fr.set i .undef) fr
theorem dr.forget {E:Env} {w:World} {a:Act} (xZ:List Nat):∀ {st:St},dr E w a st→dr E w a { st with fr:=Eng.forget xZ st.fr }:=by induction xZ with | nil=>intro st hs; exact hs | cons i r ih =>intro st hs;(have:dr E w a { st with fr:=st.fr.set i .undef }:=by refine⟨hs.F,hs.lt,hs.mem,hs.top,hs.dV,hs.apart,⟨by simpa using hs.fr.1,fun j v x hv hx=>?_⟩⟩;dsimp only at hv;rw [bK] at hv;split at hv;(·split at hv;(·cases hv; exact .undef _ _);cases hv);exact hs.fr.2 j v x hv hx);exact ih this

theorem zZ {c:Code} (n:Nat) (xZ:List Nat) (hn:n0≤n) (hf:(forget xZ st.fr).all (aA n)=true) (hm:(st.mem.take n).all (aJ n)=true)
  (h:eg P ρ n0 c { fr:=forget xZ st.fr,mem:=st.mem.take n } Q):eg P ρ n0 c st Q:=fun E0 w0 h0 E w a he hs CC=>by
 have h1:=(hs.forget xZ).cut (n:=n) hf hm
 refine h E0 w0 h0 (E.cut n) w a ⟨⟨he.le.F,fun k v t hk=>?_⟩,fun k v g e c hk=>?_,he.F,he.os,he.tape,he.output,he.size,he.heap⟩ h1 ?_
 rotate_left 2
 ·obtain⟨rs,m1,m2,m3⟩:=CC
  refine⟨rs,m1,m2,fun r hr=>⟨(m3 r hr).1,(m3 r hr).2.1,fun k v e c hk=>?_⟩⟩
  have:E.cI k v=some (r,e,c):=by
   by_cases lZ:k<n
   ·exact ((if_pos lZ).symm.trans hk:E.cI k v=_)
   have h2:(E.cut n).cI k v=none:=if_neg lZ
   rw [h2] at hk; cases hk
  exact (m3 r hr).2.2 _ _ _ _ this
 ·have:k<n:=by
   rcases bL k n with ca | ig
   ·exact ca
   rw [h0 k (by omega) v] at hk; cases hk
  exact (if_pos this).trans (he.le.cI _ _ _ hk)
 have:E.cI k v=some (g,e,c):=by
  by_cases lZ:k<n
  ·exact ((if_pos lZ).symm.trans hk:E.cI k v=_)
  have h2:(E.cut n).cI k v=none:=if_neg lZ
  rw [h2] at hk; cases hk
 exact he.cI _ _ _ _ _ this

theorem dr.TB {E:Env} {w:World} {a:Act} {st:St} (hs:dr E w a st) {i b v:Nat} (h:st.fr[i]?=some (.sc (.slice none 0 0))):dr E w a { st with fr:=st.fr.set i (.ms b v 0 0) }:=by
 refine⟨hs.F,hs.lt,hs.mem,hs.top,hs.dV,hs.apart,⟨by simpa using hs.fr.1,fun j u x hu hx=>?_⟩⟩;dsimp only at hu;rw [bK] at hu;split at hu;·rename_i Ic;subst Ic;split at hu;(·cases hu;have:=hs.fr.2 _ _ _ h hx;rw [gN this];exact .jl _ _ _ _);cases hu
 exact hs.fr.2 j u x hu hx
end

def mI (tt:Table) (st:St):ResultVar→Option V
 | .tmp t=>some (st.fr.getD t .undef)
 | .cell a T=>qN tt st.mem T (st.fr.getD a .undef)
def lM (tt:Table) (st:St):List ResultVar→Option (List V)
 | []=>some []
 | r :: rs=>match mI tt st r with
  | some v=>match lM tt st rs with | some l=>some (v :: l) | none=>none
  | none=>none
def nU (tt:Table) (rs:Array ResultVar) (st:St):Option V :=
 match lM tt st rs.toList with
 | some [v]=>zS st.mem v
 | some vs=>zS st.mem (.eV vs)
 | none=>none

theorem og {P:Program} {tt:Table} (ht:TT P tt) {E:Env} {w:World} {a:Act} {st:St} (hs:dr E w a st):∀ (rs:List ResultVar) (vs:List V),lM tt st rs=some vs →
  ∃ xs:List Value,(rs.mapM (fun | .tmp t=>pure (a.tmps.getD t undef) | .cell p t=>do loadVar t (← asAddr (a.tmps.getD p undef))):Sem (List Value)).run P w = .ok xs w∧cY E vs xs
 | [],vs,h=>by simp [lM] at h; subst h; exact⟨[],rfl,.nil _⟩
 | r :: rs,vs,h=>by
  simp only [lM] at h
  split at h
  ·rename_i v hv
   split at h
   ·rename_i l hl
    simp only [aF] at h; subst h
    obtain⟨xs,h1,h2⟩:=og ht hs rs l hl
    have hx:∃ x,((match r with | .tmp t=>pure (a.tmps.getD t undef) | .cell p t=>do loadVar t (← asAddr (a.tmps.getD p undef))):Sem Value).run P w = .ok x w∧dh E v x:=by
     cases r with
     | tmp t =>
      simp only [mI,aF] at hv; subst hv
      exact⟨_,rfl,hs.eval (.tmp t)⟩
     | cell p t =>
      simp only [mI] at hv
      have hp:=hs.eval (.tmp p)
      obtain⟨y,h3,h4⟩:=xK ht hs hp hv
      refine⟨y,?_,h4⟩
      have Mg:∃ ad,a.tmps.getD p undef = .pointer (some ad):=by
       have N0:dh E (st.fr.getD p .undef) (a.tmps.getD p undef):=hp
       revert N0 hv
       generalize st.fr.getD p .undef=q
       generalize a.tmps.getD p undef=z
       intro hv N0
       cases N0 with
       | ptr=>exact⟨_,rfl⟩
       | iy=>exact⟨_,rfl⟩
       | fa=>exact⟨_,rfl⟩
       | _=>simp [qN] at hv
      obtain⟨ad,had⟩:=Mg
      have h3':(Instr.loadAt t (a.tmps.getD p undef)).run P w = .ok y w:=h3
      show ((do loadVar t (← asAddr (a.tmps.getD p undef))):Sem Value).run P w=_
      rw [had] at h3' ⊢
      simpa [Instr.loadAt,Instr.sureAddr,asAddr] using h3'
    obtain⟨x,h3,h4⟩:=hx
    refine⟨x :: xs,?_,.cons h4 h2⟩
    simp only [apN,Sem.run_bind]
    rw [h3]
    simp only [Result.andThen_ok]
    rw [h1]
    rfl
   cases h
  cases h

theorem IE {P:Program} {tt:Table} (ht:TT P tt) {E:Env} {w:World} {a:Act} {st:St} (hs:dr E w a st) {fn:Func} {r:V} (h:nU tt fn.results st=some r) :
  ∃ keys x,(results fn a.tmps).run P w = .ok x w∧dh (E.qb w keys).pure r x:=by
 unfold nU at h
 have run:∀ xs:List Value,(fn.results.toList.mapM (fun | .tmp t=>pure (a.tmps.getD t undef) | .cell p t=>do loadVar t (← asAddr (a.tmps.getD p undef))):Sem (List Value)).run P w = .ok xs w →
   (results fn a.tmps).run P w = .ok (if h:xs.toArray.size=1 then xs.toArray[0] else .tuple xs.toArray) w:=fun xs hx=>by
  unfold results
  rw [ap3]
  simp only [Sem.run_bind,Sem.run_map]
  erw [hx]
  rfl
 split at h;·rename_i v hv;obtain⟨xs,h1,h2⟩:=og ht hs _ _ hv;obtain⟨x,ys,rfl,h3,h4⟩:=h2.of_cons;have:=h4.of_nil; subst this;exact⟨refs v,x,run _ h1,Cz hs h3 h fun k hk=>hk⟩
 ·rename_i vs ep hv;obtain⟨xs,h1,h2⟩:=og ht hs _ _ hv;(have hl:xs.toArray.size≠1:=by have:=h2.1;intro he;match vs,xs,this,he with | [v],_,_,_=>exact ep v rfl | [],[],_,he=>simp at he | [],_ :: _,h,_=>simp at h | _ :: _ :: _,[],h,_=>simp at h | _ :: _ :: _,_ :: [],h,_=>simp at h | _ :: _ :: _,_ :: _ :: _,_,he=>simp at he);have h3:=run _ h1;rw [dif_neg hl] at h3;exact⟨refs (.eV vs),_,h3,Cz hs (.eV _ _ _ (by simpa using h2.1) fun i c x hc hx=>h2.2 i c x hc (by simpa using hx)) h fun k hk=>hk⟩
 cases h

def cH (fn:Func) (args:List V) (mem:List bm):St := { fr:=args++List.replicate (fn.ntmps-args.length) (.sc undef),mem:=mem }
theorem x3 {E:Env} (fn:Func) {args:List V} {mem:List bm} {xs:Array Value} (hx:cY E args xs.toList):cY E (cH fn args mem).fr (xs++Array.replicate (fn.ntmps-xs.size) undef).toList:=by
 have hl:args.length=xs.size:=by have:=hx.1; simpa using this
 simp only [cH,jZ,Array.toList_replicate,hl];refine hx.append ⟨by simp,fun i v x hv hx=>?_⟩;rw [ap0] at hv hx;split at hv;·rename_i hi; rw [if_pos hi] at hx; cases hv; cases hx; exact .sc _ _
 cases hv

theorem DU {P:Program} {w:World} {r:Nat} (h:w.heap[r]?=some (.deferred (some []))):(Instr.takeDeferred r).run P w = .ok [] { w with heap:=w.heap.setIfInBounds r (.deferred none) }:=by simp [Instr.takeDeferred,getObj,setObj,Sem.run,h,bind,Sem.bind,pure]

theorem qm {P:Program} {fn:Func} {tmps:Array Value} {R:Ending→World→Prop}:∀ (rs:List Nat) (w:World),rs.Nodup→(∀ r∈rs,w.heap[r]?=some (.deferred (some []))) →
  (∀ w',w'.os=w.os→w'.tape=w.tape→w'.output=w.output→w'.heap.size=w.heap.size→(∀ b,b ∉ rs→w'.heap[b]?=w.heap[b]?)→∃ v,(results fn tmps).run P w' = .ok v w'∧R (.returned v) w') →
  LeavesInM (WF none) 0 P fn tmps R (rs.map (fun r => { target:=.collected r,args := #[] })) .returning w
 | [],w,_,_,h=>by
  obtain⟨v,h1,h2⟩:=h w rfl rfl rfl rfl fun _ _=>rfl
  exact⟨v,h1,h2⟩
 | r :: rs,w,hn,hr,h=>by
  refine⟨by simp,.inl ⟨r,_,rfl,DU (hr r (b9 ..)),?_⟩⟩
  rw [aqd] at hn
  have z1:∀ b,b≠r→(w.heap.setIfInBounds r (.deferred none))[b]?=w.heap[b]?:=fun b hb=>Dm (fun e=>hb e.symm)
  refine qm rs _ hn.2 (fun r' Fc=>?_) fun w' h1 h2 h3 h4 h5=>?_
  ·rw [z1 r' (fun e=>hn.1 (e ▸ Fc))]; exact hr r' (bP _ Fc)
  exact h w' h1 h2 h3 (by rw [h4]; simp) fun b hb=>by
   simp only [cb,not_or] at hb
   rw [h5 b hb.2,z1 b hb.1]

theorem dr.OA {E:Env} {w w':World} {a:Act} {st:St} (hs:dr E w a st) {rs:List Nat} (hr:∀ r∈rs,w.heap[r]?=some (.deferred (some []))∧∀ k v e c,E.cI k v≠some (r,e,c)) (mY:w'.heap.size=w.heap.size)
  (hh:∀ b,b ∉ rs→w'.heap[b]?=w.heap[b]?):dr E w' a st:=by
 refine⟨fun ad x hx=>?_,fun k v g e c h=>by rw [mY]; exact hs.lt _ _ _ _ _ h,fun k B hk=>?_,hs.top,hs.dV,hs.apart,hs.fr⟩;·have hc:=hs.F ad x hx;(have:ad.block ∉ rs:=fun o7=>by have:=(hr _ o7).1;simp [World.cell?,this] at hc);rw [← hc]; simp [World.cell?,hh _ this]
 exact (hs.mem k B hk).mono E.le_refl (fun _ h=>h) (fun g e c h=>hh g fun o7=>(hr g o7).2 _ _ _ _ h) fun _ _ _ _ _ h=>h

theorem jA {P:Program} {tt:Table} (ht:TT P tt) {f:FuncId} {fn:Func} {body:Code} {args:List V} {r:V} (hf:P.funcs[f]?=some fn) (hb:fn.body=some body)
  (gI:∀ (xs:Array Value) (w:World),(callFunc f xs).run P w = .ok (.enter f xs) w)
  (h:eg P none 0 body (cH fn args []) fun ex st'=>(ex = .ret∨ex = .normal)∧nU tt fn.results st'=some r):bR P f args r:=by
 refine⟨gI,fun F hg w xs hF hx=>FO (n:=0) (callsIn_of_wp_marks hf hb trivial ?_)⟩;have hs:dr ⟨F,fun _ _=>none,hg⟩ w { tmps:=xs++Array.replicate (fn.ntmps-xs.size) undef,defers:=[] } (cH fn args []):=by refine⟨hF,(fun k v g e c h=>by cases h),(fun k B h=>by simp [cH] at h),(fun k _ v=>rfl),(fun k B h=>by simp [cH] at h),(fun k k' v v' g e c e' c' h=>by cases h),x3 fn hx⟩
 refine wpIn_mono (h _ w (fun k _ v=>rfl) _ w _ (iC.refl _ w) hs (.nil _ _ _)) ?_;rintro e a' w' ⟨E',st',h1,h2,⟨rs,hd,mf,Oh⟩,he,hr⟩
 have post:LeavesInM (WF none) 0 P fn a'.tmps (fun e w'=>∃ F' x,e = .returned x∧(∀ ad y,F ad=some y→F' ad=some y)∧(∀ ad y,F' ad=some y→w'.cell? ad=some y)∧(∀ ad y,F' ad=some y→F ad=some y∨w.heap.size≤ad.block) ∧
   (∃ FJ,dh ⟨F',fun _ _=>none,FJ⟩ r x)∧Below w.heap.size w w') a'.defers .returning w':=by
  rw [hd]
  refine qm rs w' mf (fun r hr=>(Oh r hr).2.1) fun w2 k1 k2 k3 k4 k5=>?_
  have E9:=h1.OA (fun r hr=>(Oh r hr).2) k4 k5
  obtain⟨keys,x,h3,h4⟩:=IE ht E9 hr
  have hold:∀ r∈rs,w.heap.size≤r:=fun r hr=>(Oh r hr).1
  refine⟨x,h3,(E'.qb w2 keys).F,x,rfl,fun ad y hy=>(Env.wY E' w2 keys).F _ _ (h2.le.F _ _ hy),fun ad y hy=>Env.KF E9.F hy,fun ad y hy=>?_,⟨_,h4⟩,⟨k1.trans h2.os,k2.trans h2.tape,k3.trans h2.output,by rw [k4]; exact h2.size,fun b hb=>(k5 b fun o7=>by have:=hold b o7; omega).trans (h2.heap b hb (by simp))⟩⟩
  rcases Env.DP hy with h | ⟨k,-,e,c,h⟩
  ·rcases h2.F _ _ h with h | h | ⟨k0,v0,e0,c0,h⟩
   ·exact .inl h
   ·exact .inr h
   cases h
  rcases h2.cI _ _ _ _ _ h with ⟨k0,v0,e0,c0,h⟩ | h
  ·cases h
  exact .inr h
 rcases he with rfl | rfl <;> exact post
end Go.Eng
end

section
namespace Go.Eng
variable [bg]

def sD:List (Nat×Ti)→Table
 | [],_=>none
 | (k,i) :: r,t=>if t=k then some i else sD r t

def DV:Value→Value→Bool
 | .bool a,.bool b=>a==b
 | .int k n,.int k' n'=>k==k'&&n==n'
 | .string a,.string b=>a.data==b.data
 | .pointer none,.pointer none=>true
 | .slice none a b,.slice none c d=>a==c&&b==d
 | .map none,.map none=>true
 | .nilFunc,.nilFunc=>true
 | .nilIface,.nilIface=>true
 | _,_=>false
def oW:List Value→List Value→Bool
 | [],[]=>true
 | a :: r,b :: s=>DV a b&&oW r s
 | _,_=>false
theorem CD {a b:Value} (h:DV a b=true):a=b:=by
 unfold DV at h;split at h;·simp at h; rw [h]
 ·simp at h; rw [h.1,h.2]
 ·rename_i a b;(have:a.data=b.data:=by simpa using h);congr 1;cases a; cases b; simp_all
 ·rfl
 ·simp at h; rw [h.1,h.2]
 ·rfl
 ·rfl
 ·rfl
 cases h
theorem qn:∀ {a b:List Value},oW a b=true→a=b
 | [],[],_=>rfl
 | x :: r,y :: s,h=>by
  simp only [oW,aL] at h
  rw [CD h.1,qn h.2]
 | [],_ :: _,h=>by simp [oW] at h
 | _ :: _,[],h=>by simp [oW] at h

def w4 (P:Program):List Field→List (Nat×Nat)→Bool
 | [],[]=>true
 | f :: r,p :: s=>f.offset==p.1&&p.2 != 0&&(match P.info? f.type with | some i=>i.size==p.2 | none=>false)&&w4 P r s
 | _,_=>false

def TC (P:Program) (t:TypeId) (i:Ti):Bool :=
 match P.info? t with
 | none=>false
 | some info=>info.size==i.size&&info.bytes==i.bytes&&(match info.zero with | some z=>oW z.cells.toList i.zero | none=>false) &&
  match P.underlying t with
  | none=>false
  | some d=>(i.agg==(match d with | .struct _=>true | .array _ _=>true | _=>false)) &&
   (match i.elem with | none=>true | some e=>(match d with | .slice e'=>e'==e | _=>false)) &&
   (match i.bD with | []=>true | fl=>(match d with | .struct fs=>w4 P fs.toList fl | _=>false))

def KH (P:Program):List (Nat×Ti)→Bool
 | []=>true
 | (t,i) :: r=>TC P t i&&KH P r

theorem z6 {P:Program}:∀ {fs:List Field} {fl:List (Nat×Nat)},w4 P fs fl=true→fs.length=fl.length∧∀ (k off sz:Nat),fl[k]?=some (off,sz)→∃ f inf,fs[k]?=some f∧f.offset=off∧P.info? f.type=some inf∧inf.size=sz∧sz≠0
 | [],[],_=>⟨rfl,fun k off sz h=>by simp at h⟩
 | f :: r,p :: s,h=>by
  simp only [w4,aL,beq_iff_eq,bne_iff_ne] at h
  obtain⟨⟨⟨h1,h2⟩,h3⟩,h4⟩:=h
  obtain⟨h5,h6⟩:=z6 h4
  refine⟨by simp [h5],fun k off sz hk=>?_⟩
  cases k with
  | zero =>
   simp only [dk,aF] at hk; subst hk
   split at h3
   ·rename_i inf hi
    exact⟨f,inf,rfl,h1,hi,by simpa using h3,h2⟩
   cases h3
  | succ k=>exact h6 k off sz (by simpa using hk)
 | [],_ :: _,h=>by simp [w4] at h
 | _ :: _,[],h=>by simp [w4] at h

theorem KI {P:Program} {t:TypeId} {i:Ti} (h:TC P t i=true) :
  (∃ info,P.info? t=some info∧info.size=i.size∧info.bytes=i.bytes∧∃ z,info.zero=some z∧z.cells.toList=i.zero) ∧
  (∃ d,P.underlying t=some d∧(i.agg=true↔((∃ fs,d = .struct fs)∨∃ n e,d = .array n e))∧(∀ e,i.elem=some e→d = .slice e) ∧
   (∀ (f off sz:Nat),i.bD[f]?=some (off,sz)→∃ fs fd inf,d = .struct fs∧fs.size=i.bD.length∧fs[f]?=some fd∧fd.offset=off∧P.info? fd.type=some inf∧inf.size=sz∧sz≠0)):=by
 unfold TC at h;split at h;·cases h
 rename_i info abV;simp only [aL,beq_iff_eq] at h;obtain⟨⟨⟨h1,h2⟩,h3⟩,h4⟩:=h;split at h3;·rename_i z hz;refine⟨⟨info,abV,h1,h2,z,hz,qn h3⟩,?_⟩;split at h4;(·cases h4);rename_i d hd;simp only [aL,beq_iff_eq] at h4;obtain⟨⟨h5,h6⟩,h7⟩:=h4;refine⟨d,hd,?_,?_,?_⟩;(·rw [h5];cases d <;> simp);(·intro e he;rw [he] at h6;dsimp only at h6;split at h6;(·simp at h6; rw [h6]);cases h6);intro f off sz hf;split at h7;(·rename_i S3; rw [S3] at hf; simp at hf);split at h7;(·rename_i fs;obtain⟨h8,h9⟩:=z6 h7;obtain⟨fd,inf,TD,XZ⟩:=h9 f off sz hf;exact⟨fs,fd,inf,rfl,by simpa using h8,by simpa using TD,XZ⟩);cases h7
 cases h3

theorem w5 {P:Program}:∀ {l:List (Nat×Ti)},KH P l=true→∀ t i,sD l t=some i→TC P t i=true
 | [],_,t,i,h=>by simp [sD] at h
 | (k,j) :: r,h,t,i,ht=>by
  simp only [KH,aL] at h
  simp only [sD] at ht
  split at ht
  ·rename_i hk; subst hk; cases ht; exact h.1
  exact w5 h.2 t i ht
theorem tt_of {P:Program} {l:List (Nat×Ti)} (h:KH P l=true):TT P (sD l) :=
 ⟨fun t i ht=>(KI (w5 h t i ht)).1,fun t i ht=>(KI (w5 h t i ht)).2⟩
end Go.Eng
end

section
namespace Go.Eng
variable [bg]

section
variable {P:Program} {tt:Table} {ρ:Option Nat} {n0:Nat} {st:St} {Q:Exit→St→Prop}
theorem ah (ht:TT P tt) {id:Nat} {ops:Array Oper} {y:Code} (h:∀ K:St→Prop,(∀ st',eg P ρ n0 y st' Q→K st')→gb P tt ops ops.toList st K):eg P ρ n0 (.seq (.region id ops false) y) st Q :=
 bC (mH ht (h (fun st'=>eg P ρ n0 y st' Q) fun _ h=>h))
theorem a8 (ht:TT P tt) {id:Nat} {ops:Array Oper} (h:∀ K:St→Prop,(∀ st',Q .normal st'→K st')→gb P tt ops ops.toList st K):eg P ρ n0 (.region id ops false) st Q :=
 mH ht (h (Q .normal) fun _ h=>h)
def aP:List Bool→List V→List V
 | _,[]=>[]
 | [],_ :: r=>.undef :: aP [] r
 | b :: m,v :: r=>(if b=true then v else .undef) :: aP m r
theorem ua {E:Env}:∀ (m:List Bool) {vs:List V} {xs:List Value},cY E vs xs→cY E (aP m vs) xs
 | m,[],xs,h=>by rw [h.of_nil]; cases m <;> exact .nil _
 | [],v :: r,xs,h=>by
  obtain⟨x,ys,rfl,h1,h2⟩:=h.of_cons
  exact .cons (.undef _ _) (ua [] h2)
 | b :: m,v :: r,xs,h=>by
  obtain⟨x,ys,rfl,h1,h2⟩:=h.of_cons
  refine .cons ?_ (ua m h2)
  cases b
  ·exact .undef _ _
  exact h1
theorem dr.mask {E:Env} {w:World} {a:Act} {st:St} (hs:dr E w a st) (m:List Bool):dr E w a { st with fr:=aP m st.fr } :=
 ⟨hs.F,hs.lt,hs.mem,hs.top,hs.dV,hs.apart,ua m hs.fr⟩
theorem oh {c:Code} (n:Nat) (m:List Bool) (hn:n0≤n) (hf:(aP m st.fr).all (aA n)=true) (hm:(st.mem.take n).all (aJ n)=true)
  (h:eg P ρ n0 c { fr:=aP m st.fr,mem:=st.mem.take n } Q):eg P ρ n0 c st Q :=
 rH (st' := { st with fr:=aP m st.fr }) (fun E w a hs=>hs.mask m) (zZ n [] hn hf hm h)
def CE (n0:Nat) (st:St) (I:St→Prop):Prop :=
 ∃ (n:Nat) (m:List Bool),n0≤n∧(aP m st.fr).all (aA n)=true∧(st.mem.take n).all (aJ n)=true∧I { fr:=aP m st.fr,mem:=st.mem.take n }
theorem ub {c:Code}:∀ {n n':Nat} {st:St},n≤n'→lY P ρ n0 c n st Q→lY P ρ n0 c n' st Q
 | 0,_,_,_,h=>h.elim
 | n+1,0,_,hn,_=>by omega
 | n+1,n'+1,st,hn,h=>eg.mono h fun e st' hq=>by
  cases e with
  | normal=>exact ub (by omega) hq
  | _=>exact hq
theorem df {c:Code} (I:Nat→St→Prop) (N:Nat) (h0:CE n0 st (I N))
  (step:∀ n st,I n st→eg P ρ n0 c st (il (fun st'=>∃ k,k<n∧CE n0 st' (I k)) Q)):eg P ρ n0 (.loop c) st Q:=by
 have key:∀ (n:Nat) (st:St),I n st→lY P ρ n0 c (n+1) st Q:=by intro n;induction n using Nat.strongRecOn with | _ n ih =>intro st hi;refine eg.mono (step n st hi) fun e st' hq=>?_;cases e with | normal =>(obtain⟨k,hk,n1,m,h1,h2,h3,h4⟩:=hq;have:=ih k hk _ h4;have:lY P ρ n0 c n { fr:=aP m st'.fr,mem:=st'.mem.take n1 } Q:=ub (by omega) this;cases n with | zero=>omega | succ n=>exact oh n1 m h1 h2 h3 this) | _=>exact hq
 obtain⟨n1,m,h1,h2,h3,h4⟩:=h0;exact oh n1 m h1 h2 h3 (rG (N+1) (key N _ h4))
theorem FP {c:Code} (h:∃ n,lY P ρ n0 c n st Q):eg P ρ n0 (.loop c) st Q:=let ⟨n,hn⟩:=h; rG n hn
end

theorem dH {α β:Type} (P:Program) (s:Sem α) (f:α→Sem β):cQ P (s >>= f)=(cQ P s).bind fun a=>cQ P (f a):=by show cQ P (s.bind f)=_;induction s with | pure a=>rfl | program k ih=>exact ih P | mark m k ih=>exact ih | _=>rfl
theorem iK {P:Program} {T:TypeId} {d:TypeDesc} (h:P.underlying T=some d):cQ P (underlying T)=some d:=by simp [underlying,dH,program,cQ,h,pure]
theorem x4 {P:Program} {T:TypeId} (hT:P.underlying T=some .bool) (p q:Bool):cQ P (Op.equal T (.bool p) (.bool q))=some (p==q):=by show cQ P (Op.equalIn (9999+1) T (.bool p) (.bool q))=_;rw [Op.equalIn,dH,iK hT];rfl

section ints
variable (P:Program) (T:TypeId) (x y:Operand) (k:IntKind) (a b:Int)
theorem X0:eR P (re .add T x y) (.sc (.int k a)) (.sc (.int k b))=some (.sc (.int k (k.wrap (a+b)))):=by simp [eR,fG,re,binOp,Op.intArith,eqGuard,cQ,kX,bind,pure,Sem.bind]
theorem X1:eR P (re .sub T x y) (.sc (.int k a)) (.sc (.int k b))=some (.sc (.int k (k.wrap (a-b)))):=by simp [eR,fG,re,binOp,Op.intArith,eqGuard,cQ,kX,bind,pure,Sem.bind]
theorem X2:eR P (re .mul T x y) (.sc (.int k a)) (.sc (.int k b))=some (.sc (.int k (k.wrap (a*b)))):=by simp [eR,fG,re,binOp,Op.intArith,eqGuard,cQ,kX,bind,pure,Sem.bind]
theorem X3:eR P (re .lss T x y) (.sc (.int k a)) (.sc (.int k b))=some (.sc (.bool (decide (a<b)))):=by simp [eR,fG,re,binOp,Op.intCmp,eqGuard,cQ,kX,bind,pure,Sem.bind]
theorem X4:eR P (re .leq T x y) (.sc (.int k a)) (.sc (.int k b))=some (.sc (.bool (decide (a≤b)))):=by simp [eR,fG,re,binOp,Op.intCmp,eqGuard,cQ,kX,bind,pure,Sem.bind]
theorem X5:eR P (re .gtr T x y) (.sc (.int k a)) (.sc (.int k b))=some (.sc (.bool (decide (b<a)))):=by simp [eR,fG,re,binOp,Op.intCmp,eqGuard,cQ,kX,bind,pure,Sem.bind]
theorem X6:eR P (re .geq T x y) (.sc (.int k a)) (.sc (.int k b))=some (.sc (.bool (decide (b≤a)))):=by simp [eR,fG,re,binOp,Op.intCmp,eqGuard,cQ,kX,bind,pure,Sem.bind]
theorem X7:eR P (re .eql T x y) (.sc (.int k a)) (.sc (.int k b))=some (.sc (.bool (decide (a=b)))):=by simp [eR,fG,re,binOp,Op.intCmp,eqGuard,cQ,kX,bind,pure,Sem.bind];rfl
theorem X8:eR P (re .neq T x y) (.sc (.int k a)) (.sc (.int k b))=some (.sc (.bool (!decide (a=b)))):=by simp [eR,fG,re,binOp,Op.intCmp,eqGuard,cQ,kX,bind,pure,Sem.bind];rfl
theorem X9 (ts:Array TypeId) (ty:TypeId):j5 P (Builtin.max_ ts ty) [.sc (.int k a),.sc (.int k b)]=some (.sc (.int k (if a<b then b else a))):=by simp [j5,o9,fG,Builtin.max_,Builtin.max2,cQ,kX,bind,pure,Sem.bind]
theorem Ya (t:Bool):tz P (Op.unary .not) (.sc (.bool t))=some (.sc (.bool (!t))):=by simp [tz,fG,Op.unary,cQ,kX,pure]
end ints

section strings
variable (P:Program) (T:TypeId) (x y:Operand) (a b:ByteArray)
theorem TE:eR P (re .eql T x y) (.sc (.string a)) (.sc (.string b))=some (.sc (.bool (a.toList==b.toList))):=by simp [eR,fG,re,binOp,Op.stringOp,eqGuard,cQ,kX,bind,pure,Sem.bind]
theorem TF:eR P (re .neq T x y) (.sc (.string a)) (.sc (.string b))=some (.sc (.bool (!(a.toList==b.toList)))):=by simp [eR,fG,re,binOp,Op.stringOp,eqGuard,cQ,kX,bind,pure,Sem.bind]
theorem TG:eR P (re .lss T x y) (.sc (.string a)) (.sc (.string b))=some (.sc (.bool (Op.bytesLess a.toList b.toList))):=by simp [eR,fG,re,binOp,Op.stringOp,eqGuard,cQ,kX,bind,pure,Sem.bind]
theorem DW (h:((a.size+b.size:Nat):Int)≤IntKind.i64.max):eR P (re .add T x y) (.sc (.string a)) (.sc (.string b))=some (.sc (.string (a++b))):=by
 have h':¬ ((a.size+b.size:Nat):Int)>IntKind.i64.max:=by omega
 simp only [eR,fG,re,binOp,Op.stringOp,if_neg h'];simp [eqGuard,cQ,kX,bind,pure,Sem.bind]
theorem gJ {P:Program} {T:TypeId} (hT:P.underlying T=some .string) (k:IntKind) (n:Int) (h0:0≤n) {c:UInt8} (hc:a[n.toNat]?=some c):eR P (Instr.index T) (.sc (.string a)) (.sc (.int k n))=some (.sc (.int .u8 c.toNat)):=by simp [eR,fG,Instr.index,asIntOf,underlying,hT,h0,hc,cQ,kX,bind,pure,Sem.bind,program]
theorem jI {P:Program} {tt:Table} {T:TypeId} (hT:P.underlying T=some .string) (ty:TypeId):Dv P tt #[T] ty [.sc (.string a)]=some (.sc (.int .i64 a.size)):=by simp [Dv,j5,o9,fG,Builtin.len_,underlying,hT,cQ,kX,bind,pure,Sem.bind,program,goInt]
theorem IF {P:Program} {tt:Table} {mem:List bm} {T:TypeId} (hT:P.underlying T=some .string) (k:IntKind) (n:Int) (h0:0≤n) (hn:n≤a.size) :
  Dt P tt mem T (.sc (.string a)) (some (.sc (.int k n))) none=some (.sc (.string (a.extract n.toNat a.size))):=by simp [Dt,eR,fG,Instr.sliceAt,Instr.slice,Instr.sliceBounds,Instr.sliceBound,asIntOf,underlying,hT,h0,hn,cQ,kX,bind,pure,Sem.bind,program]
theorem TH {P:Program} {T:TypeId} (hT:P.underlying T=some .bool) (p q:Bool):eR P (re .eql T x y) (.sc (.bool p)) (.sc (.bool q))=some (.sc (.bool (p==q))):=by
 have:cQ P (do eqGuard .eql T x y (.bool p) (.bool q); binOp .eql T (.bool p) (.bool q))=some (.bool (p==q)):=by show cQ P ((Op.equal T (.bool p) (.bool q)) >>= fun r=>Pure.pure (Value.bool r))=_;rw [dH,x4 hT]; rfl
 simp only [eR,fG,re,this]; rfl
theorem DX {P:Program} {T:TypeId} (hT:P.underlying T=some .bool) (p q:Bool):eR P (re .neq T x y) (.sc (.bool p)) (.sc (.bool q))=some (.sc (.bool (!(p==q)))):=by
 have:cQ P (do eqGuard .neq T x y (.bool p) (.bool q); binOp .neq T (.bool p) (.bool q))=some (.bool (!(p==q))):=by show cQ P ((Op.equal T (.bool p) (.bool q)) >>= fun r=>Pure.pure (Value.bool !r))=_;rw [dH,x4 hT]; rfl
 simp only [eR,fG,re,this]; rfl
theorem KJ {P:Program} {src dst:TypeId} {d:TypeDesc} {k':IntKind} (hs:P.underlying src=some d) (hd:P.underlying dst=some (.int k')) (k:IntKind) (n:Int):tz P (convert src dst) (.sc (.int k n))=some (.sc (.int k' (k'.wrap n))):=by simp [tz,fG,convert,underlying,hs,hd,Conv.intToInt,cQ,kX,bind,pure,Sem.bind,program]
end strings
end Go.Eng
end

section
namespace Go.Eng
variable [bg]
open Go.RowKit (Below)

theorem iC.cut {E E':Env} {w w':World} (h:iC E w E' w') {n:Nat} (hn:∀ k,n≤k→∀ v,E.cI k v=none):iC E w (E'.cut n) w':=by
 refine⟨⟨h.le.F,fun k v t hk=>?_⟩,fun k v g e c hk=>?_,h.F,h.os,h.tape,h.output,h.size,h.heap⟩;·(have:k<n:=by (rcases bL k n with ca | ig);(·exact ca);rw [hn k ig v] at hk; cases hk);exact (if_pos this).trans (h.le.cI _ _ _ hk)
 have:E'.cI k v=some (g,e,c):=by by_cases lZ:k<n;(·exact ((if_pos lZ).symm.trans hk:E'.cI k v=_));have h2:(E'.cut n).cI k v=none:=if_neg lZ;rw [h2] at hk; cases hk
 exact h.cI _ _ _ _ _ this

def kQ (tt:Table) (rs:Array ResultVar) (st:St):Option V :=
 match lM tt st rs.toList with
 | some [v]=>some v
 | some vs=>some (.eV vs)
 | none=>none

theorem DY {P:Program} {tt:Table} (ht:TT P tt) {E:Env} {w:World} {a:Act} {st:St} (hs:dr E w a st) {fn:Func} {r:V} (h:kQ tt fn.results st=some r):∃ x,(results fn a.tmps).run P w = .ok x w∧dh E r x:=by
 unfold kQ at h
 have run:∀ xs:List Value,(fn.results.toList.mapM (fun | .tmp t=>pure (a.tmps.getD t undef) | .cell p t=>do loadVar t (← asAddr (a.tmps.getD p undef))):Sem (List Value)).run P w = .ok xs w →
   (results fn a.tmps).run P w = .ok (if h:xs.toArray.size=1 then xs.toArray[0] else .tuple xs.toArray) w:=fun xs hx=>by
  unfold results
  rw [ap3]
  simp only [Sem.run_bind,Sem.run_map]
  erw [hx]
  rfl
 split at h;·rename_i v hv;simp only [aF] at h; subst h;obtain⟨xs,h1,h2⟩:=og ht hs _ _ hv;obtain⟨x,ys,rfl,h3,h4⟩:=h2.of_cons;have:=h4.of_nil; subst this;exact⟨x,run _ h1,h3⟩
 ·rename_i vs ep hv;simp only [aF] at h; subst h;obtain⟨xs,h1,h2⟩:=og ht hs _ _ hv;(have hl:xs.toArray.size≠1:=by have:=h2.1;intro he;match vs,xs,this,he with | [v],_,_,_=>exact ep v rfl | [],[],_,he=>simp at he | [],_ :: _,h,_=>simp at h | _ :: _ :: _,[],h,_=>simp at h | _ :: _ :: _,_ :: [],h,_=>simp at h | _ :: _ :: _,_ :: _ :: _,_,he=>simp at he);have h3:=run _ h1;rw [dif_neg hl] at h3;exact⟨_,h3,.eV _ _ _ (by simpa using h2.1) fun i c x hc hx=>h2.2 i c x hc (by simpa using hx)⟩
 cases h

theorem OB {P:Program} {tt:Table} (ht:TT P tt) {f:FuncId} {fn:Func} {body:Code} {args:List V} {mem:List bm} {R:V→List bm→Prop} (hf:P.funcs[f]?=some fn) (hb:fn.body=some body)
  (gI:∀ (xs:Array Value) (w:World),(callFunc f xs).run P w = .ok (.enter f xs) w)
  (h:eg P none mem.length body (cH fn args mem) fun ex st'=>(ex = .ret∨ex = .normal)∧∃ r n,mem.length≤n∧kQ tt fn.results st'=some r∧aA n r=true∧(st'.mem.take n).all (aJ n)=true∧R r (st'.mem.take n)):eB P f args mem R:=by
 refine⟨gI,fun E w xs N1 hx=>FO (n:=0) (callsIn_of_wp_marks hf hb trivial ?_)⟩;have hs:dr E w { tmps:=xs++Array.replicate (fn.ntmps-xs.size) undef,defers:=[] } (cH fn args mem):=⟨N1.F,N1.lt,N1.mem,N1.top,N1.dV,N1.apart,x3 fn hx⟩;refine wpIn_mono (h E w N1.top E w _ (iC.refl _ w) hs (.nil _ _ _)) ?_;rintro e a' w' ⟨E',st',h1,h2,⟨rs,hd,mf,Oh⟩,he,r,n,hn,hr,hbr,SU,hR⟩;have post:LeavesInM (WF none) 0 P fn a'.tmps (fun e w'=>∃ E' x r bV,e = .returned x∧R r bV∧iC E w E' w'∧dr E' w' { tmps := #[],defers:=[] } { fr:=[],mem:=bV }∧dh E' r x) a'.defers .returning w':=by rw [hd];refine qm rs w' mf (fun r hr=>(Oh r hr).2.1) fun w2 k1 k2 k3 k4 k5=>?_;have E9:=h1.OA (fun r hr=>(Oh r hr).2) k4 k5;obtain⟨x,h3,h4⟩:=DY ht E9 hr;have iz:iC E w E' w2:=⟨h2.le,h2.cI,h2.F,k1.trans h2.os,k2.trans h2.tape,k3.trans h2.output,by rw [k4]; exact h2.size,fun b hb ep=>(k5 b fun o7=>by have:=(Oh b o7).1; omega).trans (h2.heap b hb ep)⟩;exact⟨x,h3,E'.cut n,x,r,_,rfl,hR,iz.cut fun k hk v=>N1.top k (by dsimp only; omega) v,E9.bare.cut (by rfl) SU,jH h4 hbr⟩
 rcases he with rfl | rfl <;> exact post

theorem kh {P:Program} {tt:Table} (ht:TT P tt) {f:FuncId} {fn:Func} {body:Code} {args:List V} {mem:List bm} {r:V} {bV:List bm} (n:Nat) (hn:mem.length≤n) (hf:P.funcs[f]?=some fn) (hb:fn.body=some body)
  (gI:∀ (xs:Array Value) (w:World),(callFunc f xs).run P w = .ok (.enter f xs) w)
  (h:eg P none mem.length body (cH fn args mem) fun ex st'=>(ex = .ret∨ex = .normal)∧kQ tt fn.results st'=some r∧aA n r=true∧(st'.mem.take n).all (aJ n)=true∧bV=st'.mem.take n):bz P f args mem r bV :=
 (OB ht hf hb gI (R:=fun r' m'=>r'=r∧m'=bV) (h.mono fun ex st' ⟨h1,h2,h3,h4,h5⟩=>⟨h1,r,n,hn,h2,h3,h4,rfl,h5.symm⟩)).det

def oX:List Tmp→List V→List V→List V
 | t :: ts,v :: vs,fr=>oX ts vs (fr.set t v)
 | _,_,fr=>fr
theorem CF {E:Env}:∀ (ts:List Tmp) {vs:List V} {xs:List Value} {fr:List V} {tmps:Array Value},cY E vs xs→cY E fr tmps.toList→cY E (oX ts vs fr) ((ts.zip xs).foldl (fun (tmps:Array Value) (p:Tmp×Value)=>tmps.setIfInBounds p.1 p.2) tmps).toList
 | [],vs,xs,fr,tmps,_,h=>by cases vs <;> exact h
 | t :: ts,[],xs,fr,tmps,hv,h=>by rw [hv.of_nil]; exact h
 | t :: ts,v :: vs,xs,fr,tmps,hv,h=>by
  obtain⟨x,ys,rfl,h1,h2⟩:=hv.of_cons
  simp only [oX,List.zip_cons_cons,aM]
  exact CF ts h2 (by simpa using h.set t h1)

def rI:Exit→Option (Option Code)
 | .normal=>some none
 | .ret=>some (some .ret)
 | .exit id=>some (some (.exit id))
 | .goto l=>some (some (.goto l))
 | _=>none

theorem u3 {P:Program} {k:Nat} {fr vs:List V} {params:Array Tmp} {assign body:Code} {mem:List bm} {R:Bool→List bm→Prop} (hk:mem[k]?=some (.loop .ready none fr params assign body)) (hlen:vs.length=params.size)
  (h:∀ l,eg P (some l) mem.length assign { fr:=oX params.toList vs fr,mem:=mem } fun ex tj=>ex = .normal∧∃ Wc p1 TI TJ,tj.mem[k]?=some (.loop .ready none Wc p1 TI TJ) ∧
   eg P (some l) mem.length body { tj with mem:=tj.mem.set k (.loop .busy none Wc p1 TI TJ) } fun ex yZ=>∃ n jump s2 pe2 TK p2 OC OD,mem.length≤n∧rI ex=some jump∧yZ.mem[k]?=some (.loop s2 pe2 TK p2 OC OD) ∧
    ((yZ.mem.set k (.loop (if jump.isNone then .ready else .done) jump TK p2 OC OD)).take n).all (aJ n)=true ∧
    R jump.isNone ((yZ.mem.set k (.loop (if jump.isNone then .ready else .done) jump TK p2 OC OD)).take n)) :
  Mc P k vs mem R:=by
 intro E w xs l e c hs hx hb;obtain⟨l',fn,tmps,db,kc,hh,hr,hf⟩:=hs.mem k _ hk;rw [hb] at kc; cases kc;have j1:∀ {W:World} {R:Loop},W.heap[l]?=some (.loop R)→(Instr.getLoop l).run P W = .ok R W:=fun {W R} hW=>by simp [Instr.getLoop,getObj,Sem.run,hW,bind,Sem.bind,pure]
 have z1:∀ {W:World} {R:Loop} {o:Obj},W.heap[l]?=some (.loop R)→(setObj l o).run P W = .ok () { W with heap:=W.heap.setIfInBounds l o }:=fun {W R o} hW=>by simp [setObj,Sem.run,hW]
 have FE:xs.size=params.size:=by have:=hx.1; simp at this; omega
 refine⟨fn,(params.zip xs).foldl (fun tmps (p:Tmp×Value)=>tmps.setIfInBounds p.1 p.2) tmps,assign,body,?_,?_⟩;·simp only [Instr.yield,Sem.run_bind,j1 hh,Result.andThen_ok,FE,ne_eq,not_true_eq_false,if_false];rfl
 refine roundIn_of_wpIn trivial ?_;have tS:dr E w { tmps:=(params.zip xs).foldl (fun tmps (p:Tmp×Value)=>tmps.setIfInBounds p.1 p.2) tmps,defers:=[] } { fr:=oX params.toList vs fr,mem:=mem }:=by refine⟨hs.F,hs.lt,hs.mem,hs.top,hs.dV,hs.apart,?_⟩;have:=CF (E:=E) params.toList hx hr;rw [← apX,Array.toList_zip];exact this
 refine wpIn_mono (h l E w hs.top E w _ (iC.refl E w) tS (.nil _ _ _)) ?_;rintro ex a1 w1 ⟨E1,tj,h1,h2,hm1,rfl,Wc,p1,TI,TJ,je,h3⟩;obtain⟨l1,fn1,Wd,db1,mG,hh1,It,Ca⟩:=h1.mem k _ je;have S4:E1.cI k 0=some (l,0,0):=h2.le.cI _ _ _ hb;rw [S4] at mG; cases mG;have only:∀ (W:World) (o:Obj),uV W { W with heap:=W.heap.setIfInBounds l o } l:=fun W o=>⟨rfl,rfl,rfl,by simp,fun b hb=>Dm (fun e=>hb e.symm)⟩;have ca:∀ {W:World} {o:Obj},W.heap[l]?=some o→l<W.heap.size:=fun {W o} hW=>(dN.1 hW).1;have t1:=h1.Fx je rfl (B':=.loop .busy none Wc p1 TI TJ) rfl S4 Ca (only w1 (.loop { state:=.busy,pending:=none,fn:=fn1,tmps:=Wd,params:=p1,assign:=TI,body:=TJ,defers:=db1 })) ⟨l,fn1,Wd,db1,S4,by simp [ca hh1],It,Ca⟩;refine⟨_,by simp [Instr.beginRound,j1 hh1,z1 hh1]; rfl,?_⟩;refine wpIn_mono (h3 E w hs.top E1 _ a1 (h2.trans t1.2) t1.1 ?_) ?_;·exact hm1.Mf t1.2
 rintro ex a2 w2 ⟨E2,yZ,h4,h5,-,n,jump,s2,pe2,TK,p2,OC,OD,hmn,hj,l0,SU,hR⟩;obtain⟨l2,fn2,OE,db2,mE,V6,Iz,CB⟩:=h4.mem k _ l0;have Yb:E2.cI k 0=some (l,0,0):=h5.le.cI _ _ _ hb;rw [Yb] at mE; cases mE;have t2:=h4.Fx l0 rfl (B':=.loop (if jump.isNone then .ready else .done) jump TK p2 OC OD) rfl Yb CB (only w2 (.loop { state:=if jump.isNone then .ready else .done,pending:=jump,fn:=fn2,tmps:=OE,params:=p2,assign:=OC,body:=OD,defers:=db2 })) ⟨l,fn2,OE,db2,Yb,by simp [ca V6],Iz,CB⟩;have run:(Instr.endRound l jump).run P w2 = .ok (.bool jump.isNone) { w2 with heap:=w2.heap.setIfInBounds l (.loop { state:=if jump.isNone then .ready else .done,pending:=jump,fn:=fn2,tmps:=OE,params:=p2,assign:=OC,body:=OD,defers:=db2 }) }:=by simp [Instr.endRound,j1 V6,z1 V6]
 have fin:∃ v w',(Instr.endRound l jump).run P w2 = .ok v w'∧∃ E' b bV,Ending.returned v = .returned (.bool b)∧R b bV∧iC E w E' w'∧dr E' w' { tmps := #[],defers:=[] } { fr:=[],mem:=bV } := ⟨_,_,run,E2.cut n,_,_,rfl,hR,(h5.trans t2.2).cut (fun k hk v=>hs.top k (Co hmn hk) v),t2.1.bare.cut (by rfl) SU⟩;cases ex <;> simp only [rI,aF,reduceCtorEq] at hj <;> subst hj <;> exact fin

theorem rJ {P:Program} {k:Nat} {fr vs:List V} {params:Array Tmp} {assign body:Code} {mem bV:List bm} {b:Bool} (hk:mem[k]?=some (.loop .ready none fr params assign body)) (hlen:vs.length=params.size)
  (h:∀ l,eg P (some l) mem.length assign { fr:=oX params.toList vs fr,mem:=mem } fun ex tj=>ex = .normal∧tj.mem[k]?=some (.loop .ready none fr params assign body) ∧
   eg P (some l) mem.length body { tj with mem:=tj.mem.set k (.loop .busy none fr params assign body) } fun ex yZ=>∃ jump,rI ex=some jump∧b=jump.isNone∧yZ.mem[k]?=some (.loop .busy none fr params assign body) ∧
    ((yZ.mem.set k (.loop (if jump.isNone then .ready else .done) jump fr params assign body)).take mem.length).all (aJ mem.length)=true ∧
    bV=(yZ.mem.set k (.loop (if jump.isNone then .ready else .done) jump fr params assign body)).take mem.length) :
  Ie P k vs mem b bV :=
 (u3 hk hlen (R:=fun b' m'=>b'=b∧m'=bV) fun l=>(h l).mono fun ex tj ⟨h1,h2,h3⟩=>⟨h1,_,_,_,_,h2,h3.mono fun ex yZ ⟨j,h4,h5,h6,h7,h8⟩=>⟨_,j,_,_,_,_,_,_,aw _,h4,h6,h7,h5.symm,h8.symm⟩⟩).det

theorem rK {P:Program} {n0:Nat} {st:St} {Q:Exit→St→Prop} {f:Operand} {params:Array Tmp} {assign body:Code} {g:FuncId} {vs:List V} {R:V→List bm→Prop} (hc:dn (st.eval f) [.ke st.mem.length]=some (g,vs))
  (hfn:eB P g vs (st.mem++[.loop .ready none st.fr params assign body]) R)
  (hq:∀ r yG,R r yG→∃ s nS fr' S5 S6 S7,yG[st.mem.length]?=some (.loop s nS fr' S5 S6 S7)∧s ≠ .busy∧(match nS with | none=>Q .normal { st with mem:=yG.set st.mem.length .dead } | some c=>eg P none n0 c { st with mem:=yG.set st.mem.length .dead } Q)) :
  eg P none n0 (.rangeFunc f params assign body) st Q:=fun E0 w0 h0 E w a he hs CC=>by
 refine wpIn_rangeFunc fun fn _=>?_
 let w1:World:=w.alloc (.deferred (some []))
 let L:Loop := { state:=.ready,pending:=none,fn:=fn,tmps:=a.tmps,params:=params,assign:=assign,body:=body,defers:=w.heap.size }
 let w2:World:=w1.alloc (.loop L)
 have lZ:∀ v,E.cI st.mem.length v=none:=hs.top _ (aw _)
 have hle:E.le (E.with st.mem.length 0 (w.heap.size+1,0,0)):=Env.m4 (lZ 0) _
 have fT:(E.with st.mem.length 0 (w.heap.size+1,0,0)).cI st.mem.length 0=some (w.heap.size+1,0,0):=if_pos ⟨rfl,rfl⟩
 have iG:∀ k v,¬ (k=st.mem.length∧v=0)→(E.with st.mem.length 0 (w.heap.size+1,0,0)).cI k v=E.cI k v:=fun k v h=>if_neg h
 have hold:∀ b,b<w.heap.size→w2.heap[b]?=w.heap[b]?:=fun b hb=>(ey w1 _ b (by simp [w1]; omega)).trans (ey w _ b hb)
 have kZ:w2.heap[w.heap.size+1]?=some (.loop L):=by
  have:w1.heap.size=w.heap.size+1:=by simp [w1]
  show (w1.alloc (.loop L)).heap[w.heap.size+1]?=_
  rw [← this]; exact heap_alloc_new w1 _
 have iz:iC E w (E.with st.mem.length 0 (w.heap.size+1,0,0)) w2:=by
  refine⟨hle,fun k v g e c hk=>?_,fun ad x hx=>.inl hx,rfl,rfl,rfl,by simp [w2,w1]; omega,fun b hb _=>hold b hb⟩
  by_cases fN:k=st.mem.length∧v=0
  ·obtain⟨rfl,rfl⟩:=fN; rw [fT] at hk; cases hk; exact .inr (by omega)
  rw [iG k v fN] at hk; exact .inl ⟨_,_,_,_,hk⟩
 have hFn:∀ o,E.F ⟨w.heap.size+1,o,none⟩=none:=fun o=>by
  cases hx:E.F ⟨w.heap.size+1,o,none⟩ with
  | none=>rfl
  | some x=>have:=World.block_lt_of_cell? w _ (hs.F _ _ hx); simp at this; omega
 have E9:dr (E.with st.mem.length 0 (w.heap.size+1,0,0)) w2 { tmps := #[],defers:=[] } { fr:=[],mem:=st.mem++[.loop .ready none st.fr params assign body] }:=by
  have j1:∀ {k:Nat} {B:bm},(st.mem++[bm.loop .ready none st.fr params assign body])[k]?=some B→(k<st.mem.length∧st.mem[k]?=some B)∨(k=st.mem.length∧B = .loop .ready none st.fr params assign body):=fun {k B} h=>by
   rw [VW] at h
   split at h
   ·rename_i ca; exact .inl ⟨ca,h⟩
   have TL:k-st.mem.length=0:=by
    rcases apW (k-st.mem.length) with h0 | h0
    ·exact h0
    rw [dQ (by simp; omega)] at h; cases h
   rw [TL] at h; simp at h
   exact .inr ⟨by omega,h.symm⟩
  refine⟨fun ad x hx=>?_,fun k v g e c hk=>?_,fun k B hk=>?_,fun k hk v=>?_,fun k B hk v hv=>?_,fun k k' v v' g e1 c1 e2 c2 h5 h6=>?_,.nil _⟩
  ·have hc:=hs.F ad x hx
   rw [← hc]; simp [World.cell?,hold _ (World.block_lt_of_cell? w ad hc)]
  ·by_cases fN:k=st.mem.length∧v=0
   ·obtain⟨rfl,rfl⟩:=fN; rw [fT] at hk; cases hk; simp [w2,w1]
   rw [iG k v fN] at hk; have:=hs.lt _ _ _ _ _ hk; simp [w2,w1]; omega
  ·rcases j1 hk with ⟨ca,iQ⟩ | ⟨rfl,rfl⟩
   ·exact (hs.mem k B iQ).mono hle (fun v h=>by rw [iG k v (by omega)]; exact h) (fun g e c h=>hold g (hs.lt _ _ _ _ _ h)) fun _ _ _ _ _ h=>h
   exact⟨w.heap.size+1,fn,a.tmps,w.heap.size,fT,kZ,hs.fr.mono hle,hFn⟩
  ·dsimp only at hk
   simp at hk
   rw [iG k v (by omega)]; exact hs.top k (by omega) v
  ·rcases j1 hk with ⟨ca,iQ⟩ | ⟨rfl,rfl⟩
   ·rw [iG k v (by omega)]; exact hs.dV k B iQ v hv
   rw [iG _ v (by simp [bm.dV] at hv; omega)]; exact lZ v
  by_cases fN:k=st.mem.length∧v=0 <;> by_cases DB:k'=st.mem.length∧v'=0
  ·rw [fN.1,DB.1]
  ·obtain⟨rfl,rfl⟩:=fN; rw [fT] at h5; cases h5; rw [iG k' _ DB] at h6; have:=hs.lt _ _ _ _ _ h6; omega
  ·obtain⟨rfl,rfl⟩:=DB; rw [fT] at h6; cases h6; rw [iG k _ fN] at h5; have:=hs.lt _ _ _ _ _ h5; omega
  rw [iG k _ fN] at h5; rw [iG k' _ DB] at h6
  exact hs.apart _ _ _ _ _ _ _ _ _ h5 h6
 have N8:cY (E.with st.mem.length 0 (w.heap.size+1,0,0)) [.ke st.mem.length] (#[Value.func (.yield (w.heap.size+1)) #[] #[]]:Array Value).toList:=.cons (.ke _ _ _ 0 0 fT) (.nil _)
 obtain⟨d,ys,hy,TA,NZ⟩:=zX (P:=P) (w:=w2) ((hs.eval f).mono hle) N8 hc
 have ahT:=CC.Mf iz
 refine⟨w.heap.size+1,[{ target:=.collected w.heap.size,args := #[] }],w2,d,w2,g,ys,w2,?_,?_,fun _ _=>trivial,NZ.trans (hfn.1 ys w2),fun h=>by simp [WF] at h,?_⟩
 ·exact run_enterLoop_outer _ _ _ _ _
 ·refine Eq.trans ?_ TA
  simp only [rangeCall,resolve]
  simp [Act.eval]
 refine zY ((hfn.2 _ w2 ys E9 hy).mono ?_)
 rintro e w3 ⟨E3,x,r,yG,rfl,hRR,OG,hs3,-⟩
 obtain⟨s,nS,fr',S5,S6,S7,hm2,abW,We⟩:=hq r yG hRR
 obtain⟨l3,fn3,KK,db3,hZ,hh3,hr3,hf3⟩:=hs3.mem _ _ hm2
 have abX:E3.cI st.mem.length 0=some (w.heap.size+1,0,0):=OG.le.cI _ _ _ fT
 rw [abX] at hZ; cases hZ
 have am8:w.heap.size+1<w3.heap.size:=(dN.1 hh3).1
 have hsb:(s==LoopState.busy)=false:=by cases s <;> first | rfl | exact absurd rfl abW
 have ahV:=hs.FK hs3 (Env.le_trans hle OG.le)
 have t:=ahV.Fx hm2 rfl (B':=.dead) rfl abX hf3 (w' := { w3 with heap:=w3.heap.setIfInBounds (w.heap.size+1) (.loop { state:=.exhausted,pending:=nS,fn:=fn3,tmps:=KK,params:=S5,assign:=S6,body:=S7,defers:=db3 }) })
  ⟨rfl,rfl,rfl,by simp,fun b hb=>Dm (fun e=>hb e.symm)⟩ trivial
 have abZ:iC E0 w0 E3 _:=(he.trans (iz.trans OG)).trans t.2
 have ab0:Marks E3 { w3 with heap:=w3.heap.setIfInBounds (w.heap.size+1) (.loop { state:=.exhausted,pending:=nS,fn:=fn3,tmps:=KK,params:=S5,assign:=S6,body:=S7,defers:=db3 }) } w0.heap.size ({ target:=.collected w.heap.size,args := #[] } :: a.defers):=by
  obtain⟨rs,m1,m2,m3⟩:=(ahT.Mf OG).Mf t.2
  have Wf:w2.heap[w.heap.size]?=some (.deferred (some [])):=(ey w1 _ _ (by simp [w1])).trans (heap_alloc_new w _)
  have SV:∀ k v e c,(E.with st.mem.length 0 (w.heap.size+1,0,0)).cI k v≠some (w.heap.size,e,c):=fun k v e c hk=>by
   by_cases fN:k=st.mem.length∧v=0
   ·obtain⟨rfl,rfl⟩:=fN; rw [fT] at hk; simp at hk
   rw [iG k v fN] at hk; have:=hs.lt _ _ _ _ _ hk; omega
  have one:Marks (E.with st.mem.length 0 (w.heap.size+1,0,0)) w2 w0.heap.size [{ target:=.collected w.heap.size,args := #[] }]:=⟨[w.heap.size],rfl,by simp,fun r hr=>by
   simp at hr; subst hr; exact⟨he.size,Wf,SV⟩⟩
  obtain⟨nj,n1,n2,n3⟩:=(one.Mf OG).Mf t.2
  have XG:nj=[w.heap.size]:=by
   match nj,n1 with
   | [r],h=>simp at h; rw [h]
   | [],h=>simp at h
   | _ :: _ :: _,h=>simp at h
  subst XG
  refine⟨w.heap.size :: rs,by rw [m1]; rfl,?_,fun r hr=>?_⟩
  ·rw [aqd]
   refine⟨fun o7=>?_,m2⟩
   obtain⟨rs0,q1,q2,q3⟩:=CC
   have Cu:rs=rs0:=by
    have:=m1.symm.trans q1
    have inj:∀ (xs ys:List Nat),xs.map (fun r=>({ target:=.collected r,args := #[] }:Deferred))=ys.map (fun r => { target:=.collected r,args := #[] })→xs=ys:=by
     intro xs
     induction xs with
     | nil=>intro ys h; cases ys with | nil=>rfl | cons y ys=>simp at h
     | cons x xs ih=>intro ys h; cases ys with | nil=>simp at h | cons y ys=>simp at h; rw [h.1,ih ys (by simpa using h.2)]
    exact inj _ _ this
   subst Cu
   have:=(q3 _ o7).2.1
   rw [apz (aw _)] at this; cases this
  rcases cb.1 hr with rfl | hr
  ·exact n3 _ (by simp)
  exact m3 r hr
 refine⟨nS,{ w3 with heap:=w3.heap.setIfInBounds (w.heap.size+1) (.loop { state:=.exhausted,pending:=nS,fn:=fn3,tmps:=KK,params:=S5,assign:=S6,body:=S7,defers:=db3 }) },?_,?_⟩
 ·have hg:(Instr.getLoop (w.heap.size+1)).run P w3 = .ok { state:=s,pending:=nS,fn:=fn3,tmps:=KK,params:=S5,assign:=S6,body:=S7,defers:=db3 } w3:=by
   simp [Instr.getLoop,getObj,Sem.run,hh3,bind,Sem.bind,pure]
  simp only [Instr.endLoop,Sem.run_bind,hg,Result.andThen_ok,hsb,cf,if_false]
  simp [setObj,Sem.run,hh3]
 cases nS with
 | none=>exact⟨E3,_,⟨t.1.F,t.1.lt,t.1.mem,t.1.top,t.1.dV,t.1.apart,t.1.fr⟩,abZ,ab0,We⟩
 | some c=>exact We E0 w0 h0 E3 _ { a with defers := { target:=.collected w.heap.size,args := #[] } :: a.defers } abZ ⟨t.1.F,t.1.lt,t.1.mem,t.1.top,t.1.dV,t.1.apart,t.1.fr⟩ ab0
theorem pe {P:Program} {n0:Nat} {st:St} {Q:Exit→St→Prop} {f:Operand} {params:Array Tmp} {assign body:Code} {g:FuncId} {vs:List V} {r:V} {yG:List bm} (hc:dn (st.eval f) [.ke st.mem.length]=some (g,vs))
  (hfn:bz P g vs (st.mem++[.loop .ready none st.fr params assign body]) r yG)
  (hq:∃ s nS fr' S5 S6 S7,yG[st.mem.length]?=some (.loop s nS fr' S5 S6 S7)∧s ≠ .busy∧(match nS with | none=>Q .normal { st with mem:=yG.set st.mem.length .dead } | some c=>eg P none n0 c { st with mem:=yG.set st.mem.length .dead } Q)) :
  eg P none n0 (.rangeFunc f params assign body) st Q :=
 rK hc hfn.rel fun r' m' ⟨_,h2⟩=>by subst h2; exact hq
end Go.Eng
end

section
namespace Go.Eng
variable [bg]
open Go.RowKit (Below)

inductive Cls where
 | n | r | a | w | s | b | z | e
 deriving DecidableEq
structure Pl where
 cls:Cls
 key:Nat
 mask:List Nat
 Wg:List Nat:=[]
 abs:List Nat:=[]

def FQ (m:List bm) (k:Nat):List bm:=match m[k]? with
 | some B=>if B.dV=0 then m.set k .dead else m
 | none=>m
def iL:List Nat→List bm→List bm
 | [],m=>m
 | k :: r,m=>iL r (FQ m k)
def nD (b:Bool) (B:bm):bm:=if b=true∧B.dV=0 then .dead else B
theorem Mh (m:List bm) (k q:Nat):(FQ m k)[q]?=(m[q]?).map (nD (q==k)):=by
 unfold FQ;by_cases hq:q=k;·subst hq;cases h:m[q]? with | none=>simp [h] | some B =>have ca:q<m.length:=(az.1 h).1;simp only [beq_self_eq_true,cA,nD,true_and];split;(·rename_i hv; simp [bK,ca]);rename_i hv; exact h
 have hb:(q==k)=false:=by simpa using hq
 have hid:(m[q]?).map (nD (q==k))=m[q]?:=by rw [hb]; cases m[q]? <;> simp [nD]
 rw [hid];cases h:m[k]? with | none=>rfl | some B =>dsimp only;split;(·exact eY (fun e=>hq e.symm));rfl
theorem Cb (b c:Bool) (B:bm):nD b (nD c B)=nD (b||c) B:=by have hd:bm.dead.dV=0:=rfl;unfold nD;cases b <;> cases c <;> by_cases hv:B.dV=0 <;> simp [hv,hd]
theorem sE:∀ (ks:List Nat) (m:List bm) (q:Nat),(iL ks m)[q]?=(m[q]?).map (nD (ks.contains q))
 | [],m,q=>by cases h:m[q]? <;> simp [iL,h,nD]
 | k :: r,m,q=>by
  rw [iL,sE r,Mh]
  cases m[q]? with
  | none=>rfl
  | some B =>
   simp only [cA,Cb,List.contains_cons]
   rw [Bool.or_comm]
theorem u4:∀ (ks:List Nat) (m:List bm),(iL ks m).length=m.length
 | [],m=>rfl
 | k :: r,m=>by
  rw [iL,u4 r]
  unfold FQ
  split
  ·split <;> simp
  rfl
theorem sF {ks:List Nat} {m:List bm} {k:Nat} {B0 B:bm} (hk:k∈ks) (hm:m[k]?=some B0) (h0:B0.dV=0) (hB:B.dV=0):iL ks (m.set k B)=iL ks m:=by
 refine dy fun q=>?_;rw [sE,sE];by_cases hq:q=k;·subst hq;have ca:q<m.length:=(az.1 hm).1;(have hc:ks.contains q=true:=by simpa using hk);rw [bK,if_pos rfl,if_pos ca,hm];simp [nD,hB,h0,hk]
 rw [eY (fun e=>hq e.symm)]

theorem dr.iL {E:Env} {w:World} {a:Act} {st:St} (hs:dr E w a st) (ks:List Nat):dr E w a { st with mem:=Eng.iL ks st.mem }:=by
 have get:∀ {k:Nat} {B:bm},(Eng.iL ks st.mem)[k]?=some B→∃ B0:bm,st.mem[k]?=some B0∧(B=B0∨B=bm.dead∧B0.dV=0):=fun {k B} h=>by rw [sE] at h;cases h0:st.mem[k]? with | none=>rw [h0] at h; cases h | some B0 =>rw [h0] at h;simp only [cA,aF] at h;refine⟨B0,rfl,?_⟩;unfold nD at h;split at h;(·rename_i hc; exact .inr ⟨h.symm,hc.2⟩);exact .inl h.symm
 refine⟨hs.F,hs.lt,fun k B hk=>?_,fun k hk=>hs.top k (by simpa [u4] using hk),fun k B hk v hv=>?_,hs.apart,hs.fr⟩;·obtain⟨B0,h0,rfl | ⟨rfl,-⟩⟩:=get hk;(·exact hs.mem k _ h0);trivial
 obtain⟨B0,h0,rfl | ⟨rfl,h1⟩⟩:=get hk;·exact hs.dV k _ h0 v hv
 exact hs.dV k _ h0 v (by rw [h1]; exact hv)


def DZ (P:Program) (f:FuncId) (vs:List V) (r:V):Prop:=bR P f vs r∨rC P f vs r
def ab1 (P:Program) (f:FuncId) (vs:List V) (Q:V→Prop):Prop:=∃ vs' r,gx [] vs=some vs'∧DZ P f vs' r∧Q r

def yH (P:Program) (tt:Table) (o:Oper) (st:St):Option V :=
 match o.op with
 | .build T parts=>nC P tt T parts.toList st.eval
 | .buildSlice T len parts=>match wV tt T len parts.toList st.eval with
  | some (_,rs)=>some (.slice rs)
  | none=>none
 | _=>me P tt st o
def tl (P:Program) (tt:Table) (o:Oper) (st:St) (Q:V→Prop):Prop :=
 match o.op with
 | .call { callee:=.value f,args:=xs,.. }=>match dn (st.eval f) (xs.toList.map st.eval) with
  | some (g,vs)=>ab1 P g vs Q
  | none=>False
 | _=>match yH P tt o st with
  | some v=>Q v
  | none=>False
def KL (P:Program) (f:FuncId) (vs:List V) (st:St) (dst:Option Tmp) (Q:St→Prop):Prop:=∃ vs' r,gx [] vs=some vs'∧DZ P f vs' r∧Q (st.put dst r)
def nV (P:Program) (tt:Table) (o:Oper) (Cc st:St) (Q:St→Prop):Prop :=
 match o.op with
 | .call { callee:=.value f,args:=xs,.. }=>match dn (Cc.eval f) (xs.toList.map Cc.eval) with
  | some (g,vs)=>KL P g vs st o.dst Q
  | none=>False
 | _=>match yH P tt o Cc with
  | some v=>Q (st.put o.dst v)
  | none=>False
theorem y0 {P:Program} {tt:Table} {o:Oper} {Cc st:St} {Q:St→Prop}:nV P tt o Cc st Q=tl P tt o Cc fun v=>Q (st.put o.dst v):=by unfold nV tl;split <;> rfl
def j2 (tt:Table) (o:Oper) (key:Nat) (st:St):Option (bm×V) :=
 match o.op with
 | .alloc T=>match tt T with
  | some i=>some (.box (i.zero.map V.sc),.ptr key 0)
  | none=>none
 | .box _ x=>match lW (st.eval x) with
  | some cs=>some (.box cs,.ptr key 0)
  | none=>none
 | .buildSlice T len parts=>match wV tt T len parts.toList st.eval with
  | some (size,rs)=>some (.rows 0 size rs,.ms key 0 0 len)
  | none=>none
 | .makeMap _ none=>some (.map [] 0,.mp key)
 | .makeSlice T l c=>match xT tt T (st.eval l) (st.eval c) with
  | some (size,rs,_)=>some (.rows 0 size rs,.ms key 0 0 rs.length)
  | none=>none
 | _=>none
def u5 (P:Program) (tt:Table) (key:Nat) (o:Oper) (st:St):Option (List bm×V) :=
 match o.op with
 | .store T p x=>match nB tt st.mem T (st.eval p) (st.eval x) with
  | some bV=>some (bV,.sc undef)
  | none=>none
 | .call { callee:=.builtin .append,args:=xs,argTypes:=ts }=>match xs.toList.map st.eval with
  | [s,x]=>match ji tt st.mem ts.toList s x with
   | some (size,tW,rows)=>some (gE st.mem key size rows tW)
   | none=>none
  | _=>none
 | .mapUpdate T m k x=>match dR P st.mem T (st.eval m) (st.eval k) (st.eval x) with
  | some bV=>some (bV,.sc undef)
  | none=>none
 | .insert T m k x=>match dR P st.mem T (st.eval m) (st.eval k) (st.eval x) with
  | some bV=>some (bV,.sc undef)
  | none=>none
 | _=>none
def qY (tt:Table) (key:Nat) (o:Oper) (st:St):Option (List bm) :=
 match o.op with
 | .store T p x=>match st.eval p with
  | .ptr b off=>if b=key then nB tt st.mem T (.ptr key off) (st.eval x) else none
  | _=>none
 | _=>none
def isHole (mem:List bm) (k:Nat):Bool:=match mem[k]? with | some .hole=>true | _=>false
theorem mJ {mem:List bm} {k:Nat}:isHole mem k=true↔mem[k]?=some .hole:=by
 unfold isHole;split;·rename_i h; simp [h]
 rename_i h; simp; exact fun e=>h e

def x5 (P:Program) (f:FuncId) (vs:List V) (e:Nat) (rs:List V):Prop:=∃ v,bz P f vs [] (.ms 0 v 0 rs.length) [.rows v e rs]
def qP (P:Program) (o:Oper) (ev:Operand→V) (Q:Nat→List V→Prop):Prop :=
 match o.op with
 | .call { callee:=.value f,args:=xs,.. }=>match dn (ev f) (xs.toList.map ev) with
  | some (g,vs)=>∃ vs' e rs,gx [] vs=some vs'∧x5 P g vs' e rs∧Q e rs
  | none=>False
 | _=>False
theorem nZ {P:Program} {o:Oper} {ev:Operand→V} {Q:Nat→List V→Prop}:qP P o ev Q↔∃ e rs,qP P o ev (fun e' nj=>e'=e∧nj=rs)∧Q e rs:=by
 unfold qP;split;·split;(·constructor;(·rintro⟨vs',e,rs,h1,h2,h3⟩; exact⟨e,rs,⟨vs',e,rs,h1,h2,rfl,rfl⟩,h3⟩);rintro⟨e,rs,⟨vs',e',nj,h1,h2,h3,h4⟩,h5⟩; subst h3; subst h4; exact⟨vs',_,_,h1,h2,h5⟩);exact⟨fun h=>h.elim,fun ⟨_,_,h,_⟩=>h⟩
 exact⟨fun h=>h.elim,fun ⟨_,_,h,_⟩=>h⟩
def w6 (st:St) (key:Nat) (dst:Option Tmp) (e:Nat) (rs:List V):St := { st with mem:=st.mem.set key (.rows 0 e rs) }.put dst (.ms key 0 0 rs.length)
def ab2 (P:Program) (f:FuncId) (vs:List V) (st:St) (key:Nat) (dst:Option Tmp) (Q:St→Prop):Prop:=∃ vs' e rs,gx [] vs=some vs'∧x5 P f vs' e rs∧Q (w6 st key dst e rs)
def uc (P:Program) (o:Oper) (key:Nat) (st:St) (Q:St→Prop):Prop :=
 match o.op with
 | .call { callee:=.value f,args:=xs,.. }=>match dn (st.eval f) (xs.toList.map st.eval) with
  | some (g,vs)=>ab2 P g vs st key o.dst Q
  | none=>False
 | _=>False
theorem CG {P:Program} {o:Oper} {key:Nat} {st:St} {Q:St→Prop}:uc P o key st Q=qP P o st.eval fun e rs=>Q (w6 st key o.dst e rs):=by unfold uc qP;split <;> rfl
def iv:bm→bm
 | .box cs=>.box cs
 | _=>.dead
def qQ (tt:Table) (o:Oper) (st:St):Option V :=
 match o.op with
 | .load T x=>qN tt (st.mem.map iv) T (st.eval x)
 | _=>none
def isApp (o:Oper):Bool:=match o.op with | .call { callee:=.builtin .append,.. }=>true | _=>false
def KM (o:Oper):Bool:=match o.op with | .alloc _=>false | .box _ _=>false | _=>true
theorem Mi {P:Program} {tt:Table} {o:Oper} {st:St} {v:V} (h:qQ tt o st=some v):me P tt st o=some v:=by
 unfold qQ at h;split at h;·rename_i T x ho;unfold me;rw [ho];dsimp only;unfold qN at h ⊢;split;(·rename_i b off he;rw [he] at h;dsimp only at h;rw [ae] at h;cases hb:st.mem[b]? with | none=>rw [hb] at h; simp at h | some B =>rw [hb] at h;cases B <;> simp [iv] at h <;> exact h);(·rename_i b dV i off he;rw [he] at h;dsimp only at h;(have:rowOf (st.mem.map iv) b dV i=none:=by unfold rowOf;rw [ae];cases hb:st.mem[b]? with | none=>rfl | some B=>cases B <;> rfl);rw [this] at h; cases h);(·rename_i cs he;rw [he] at h; exact h);rename_i h1 h2 h3;split at h;(·rename_i he; exact absurd he (h1 _ _));(·rename_i he; exact absurd he (h2 _ _ _ _));(·rename_i he; exact absurd he (h3 _));cases h
 cases h
theorem FR {tt:Table} {mem:List bm} {ts:List TypeId} {s x:V} {size b dV:Nat} {rows:List V} (h:ji tt mem ts s x=some (size,some (b,dV),rows)):∃ e rs,mem[b]?=some (.rows dV e rs):=by
 have hl:∀ {sz:Nat} {rs:List V},ry mem sz s=some (some (b,dV),rs)→∃ e rs,mem[b]?=some (.rows dV e rs):=fun {sz rs} h=>by unfold ry at h;split at h;(·cases h);(·split at h <;> cases h);(·split at h;(·rename_i v' e nj hb;split at h;(·rename_i hc;simp only [aF,eA] at h;obtain⟨⟨rfl,rfl⟩,rfl⟩:=h;exact⟨_,_,by rw [hb,hc.1]⟩);cases h);cases h);cases h
 unfold ji at h;split at h;·split at h;(·split at h;(·split at h;(·split at h;(·split at h;(·split at h;(·rename_i tW rs hlr;split at h;(·split at h;(·split at h;(case isFalse=>cases h);simp only [aF,eA] at h;obtain⟨-,rfl,-⟩:=h;exact hl hlr);cases h);cases h);cases h);cases h);cases h);cases h);cases h);cases h
 cases h
theorem OH {P:Program} {tt:Table} {key:Nat} {o:Oper} {st:St} {m:List bm} {v:V} (ha:isApp o=true) (hh:st.mem[key]?=some .hole) (h:u5 P tt key o st=some (m,v)):m.map iv=st.mem.map iv:=by
 have z1:∀ (k:Nat) (B0 B:bm),st.mem[k]?=some B0→iv B=iv B0→(st.mem.set k B).map iv=st.mem.map iv:=fun k B0 B h0 hB=>by apply dy;intro q;rw [ae,ae,bK];split;(·rename_i hq; subst hq;rw [if_pos (az.1 h0).1,h0,cA,cA,hB]);rfl
 unfold isApp at ha;split at ha;·rename_i ho;unfold u5 at h;rw [ho] at h;dsimp only at h;split at h;(·split at h;(·rename_i size tW rows TN;simp only [aF] at h;cases tW with | none =>simp only [gE,eA] at h;obtain⟨rfl,-⟩:=h;unfold dB;rw [if_pos (az.1 hh).1];exact z1 _ _ _ hh rfl | some p =>obtain⟨b,dV⟩:=p;simp only [gE,eA] at h;obtain⟨rfl,-⟩:=h;(have hb:∃ e rs,st.mem[b]?=some (.rows dV e rs):=by exact FR TN);obtain⟨e,rs,hb⟩:=hb;exact z1 _ _ _ hb rfl);cases h);cases h
 cases ha
def pL (P:Program) (o:Oper) (st:St) (Q:St→Prop):Prop :=
 match o.op with
 | .call { callee:=.value f,args:=xs,.. }=>match dn (st.eval f) (xs.toList.map st.eval) with
  | some (g,vs)=>∃ vs' r,gx st.mem vs=some vs'∧bR P g vs' r∧Q ({ st with mem:=bT st.mem (vs.flatMap fb) r }.put o.dst r)
  | none=>False
 | _=>False
theorem z7 {P:Program} {o:Oper} {st:St} {K K':St→Prop} (h:pL P o st K) (hk:∀ s,K s→K' s):pL P o st K':=by
 unfold pL at h ⊢;split at h;·split at h;(·obtain⟨vs',r,h1,h2,h3⟩:=h;exact⟨vs',r,h1,h2,hk _ h3⟩);exact h.elim
 exact h.elim
def OI (P:Program) (g:FuncId) (vs:List V) (k:Nat) (st:St) (dst:Option Tmp) (Q:St→Prop):Prop :=
 ∃ v B0 B,B0.dV=0∧B.dV=0∧st.mem[k]?=some B0∧bz P g vs st.mem v (st.mem.set k B)∧Q ({ st with mem:=st.mem.set k B }.put dst v)
def u6 (P:Program) (tt:Table) (o:Oper) (k:Nat) (st:St) (Q:St→Prop):Prop :=
 match o.op with
 | .call { callee:=.value f,args:=xs,.. }=>match dn (st.eval f) (xs.toList.map st.eval) with
  | some (g,vs)=>OI P g vs k st o.dst Q
  | none=>False
 | _=>match qY tt k o st with
  | some m=>Q ({ st with mem:=m }.put o.dst (.sc undef))
  | none=>False
def FT (P:Program) (tt:Table) (o:Oper) (k:Nat) (st:St) (v:V) (m:List bm):Prop :=
 match o.op with
 | .call { callee:=.value f,args:=xs,.. }=>match dn (st.eval f) (xs.toList.map st.eval) with
  | some (g,vs)=>∃ B0 B,B0.dV=0∧B.dV=0∧st.mem[k]?=some B0∧bz P g vs st.mem v (st.mem.set k B)∧m=st.mem.set k B
  | none=>False
 | _=>v = .sc undef∧qY tt k o st=some m
theorem Mj {P:Program} {tt:Table} {o:Oper} {k:Nat} {st:St} {Q:St→Prop}:u6 P tt o k st Q↔∃ v m,FT P tt o k st v m∧Q ({ st with mem:=m }.put o.dst v):=by
 unfold u6 FT;split;·split;(·constructor;(·rintro⟨v,B0,B,h1,h2,h3,h4,h5⟩; exact⟨v,_,⟨B0,B,h1,h2,h3,h4,rfl⟩,h5⟩);rintro⟨v,m,⟨B0,B,h1,h2,h3,h4,rfl⟩,h5⟩; exact⟨v,B0,B,h1,h2,h3,h4,h5⟩);exact⟨fun h=>h.elim,fun ⟨_,_,h,_⟩=>h.elim⟩
 split;·rename_i m hb; exact⟨fun h=>⟨_,m,⟨rfl,hb⟩,h⟩,fun ⟨u,m',⟨h1,h2⟩,h4⟩=>by rw [hb] at h2; cases h2; subst h1; exact h4⟩
 rename_i hb; exact⟨fun h=>h.elim,fun ⟨_,_,⟨_,h⟩,_⟩=>by rw [hb] at h; cases h⟩
def fH (P:Program) (tt:Table) (all:Array Oper) (base:Nat) (o:Oper) (p:Pl) (st:St) (Q:St→Prop):Prop :=
 match gr all st.fr o with
 | some true=>match p.cls with
  | .n=>nV P tt o { st with mem:=[] } st Q
  | .r=>nV P tt o { st with mem:=iL (p.mask.map (base + ·)++p.abs) st.mem } st Q
  | .a=>isHole st.mem (base+p.key)=true∧match j2 tt o (base+p.key) st with
   | some (B,v)=>Q ({ st with mem:=st.mem.set (base+p.key) B }.put o.dst v)
   | none=>uc P o (base+p.key) st Q
  | .w=>isHole st.mem (base+p.key)=true∧match u5 P tt (base+p.key) o st with
   | some (m,v)=>Q ({ st with mem:=m }.put o.dst v)
   | none=>False
  | .s=>match qY tt (base+p.key) o st with
   | some m=>Q ({ st with mem:=m }.put o.dst (.sc undef))
   | none=>False
  | .b=>match qQ tt o st with
   | some v=>Q (st.put o.dst v)
   | none=>False
  | .z=>pL P o st Q
  | .e=>u6 P tt o p.key st Q
 | some false=>Q (st.put o.dst (.sc undef))
 | none=>False

@[congr] theorem Wh {P:Program} {f f':FuncId} {vs vs':List V} {st st':St} {dst:Option Tmp} {Q:St→Prop} (hf:f=f') (hv:vs=vs') (h:st=st'):KL P f vs st dst Q=KL P f' vs' st' dst Q:=by rw [hf,hv,h]
@[congr] theorem Yc {P:Program} {tt:Table} {o:Oper} {sv sv' st st':St} {Q:St→Prop} (hv:sv=sv') (h:st=st'):nV P tt o sv st Q=nV P tt o sv' st' Q:=by rw [hv,h]
def tm (P:Program) (tt:Table) (all:Array Oper) (base:Nat) (o:Oper) (p:Pl) (st:St) (v:V) (m:List bm):Prop :=
 match gr all st.fr o with
 | some true=>match p.cls with
  | .n=>tl P tt o { st with mem:=[] } (fun u=>u=v)∧m=st.mem
  | .r=>tl P tt o { st with mem:=iL (p.mask.map (base + ·)++p.abs) st.mem } (fun u=>u=v)∧m=st.mem
  | .a=>isHole st.mem (base+p.key)=true∧∃ B,(j2 tt o (base+p.key) st=some (B,v)∨j2 tt o (base+p.key) st=none∧qP P o st.eval (fun e rs=>B = .rows 0 e rs∧v = .ms (base+p.key) 0 0 rs.length))∧m=st.mem.set (base+p.key) B
  | .w=>isHole st.mem (base+p.key)=true∧u5 P tt (base+p.key) o st=some (m,v)
  | .s=>v = .sc undef∧qY tt (base+p.key) o st=some m
  | .b=>qQ tt o st=some v∧m=st.mem
  | .z=>False
  | .e=>FT P tt o p.key st v m
 | some false=>v = .sc undef∧m=st.mem
 | none=>False

theorem FU {P:Program} {tt:Table} {o:Oper} {st:St} {Q:V→Prop}:tl P tt o st Q↔∃ v,tl P tt o st (fun u=>u=v)∧Q v:=by
 unfold tl;split;·split;(·constructor;(·rintro⟨vs',r,h1,h2,h3⟩; exact⟨r,⟨vs',r,h1,h2,rfl⟩,h3⟩);rintro⟨v,⟨vs',r,h1,h2,rfl⟩,h3⟩; exact⟨vs',r,h1,h2,h3⟩);exact⟨fun h=>h.elim,fun ⟨_,h,_⟩=>h⟩
 split;·exact⟨fun h=>⟨_,rfl,h⟩,fun ⟨_,h,hq⟩=>by subst h; exact hq⟩
 exact⟨fun h=>h.elim,fun ⟨_,h,_⟩=>h⟩

theorem jS {P:Program} {tt:Table} {all:Array Oper} {base:Nat} {o:Oper} {p:Pl} {st:St} {Q:St→Prop} (hz:p.cls ≠ .z) :
  fH P tt all base o p st Q↔∃ v m,tm P tt all base o p st v m∧Q ({ st with mem:=m }.put o.dst v):=by
 unfold fH tm;split;·split;(·rw [y0,FU]; exact⟨fun ⟨v,h1,h2⟩=>⟨v,st.mem,⟨h1,rfl⟩,h2⟩,fun ⟨v,m,⟨h1,h2⟩,h3⟩=>⟨v,h1,by subst h2; exact h3⟩⟩);(·rw [y0,FU]; exact⟨fun ⟨v,h1,h2⟩=>⟨v,st.mem,⟨h1,rfl⟩,h2⟩,fun ⟨v,m,⟨h1,h2⟩,h3⟩=>⟨v,h1,by subst h2; exact h3⟩⟩);(·split;(·rename_i B v hb;refine⟨fun ⟨h1,h2⟩=>⟨v,_,⟨h1,B,.inl hb,rfl⟩,h2⟩,fun ⟨u,m,⟨h1,B',h2,h3⟩,h4⟩=>?_⟩;(rcases h2 with h2 | ⟨h2,-⟩);(·rw [hb] at h2; cases h2; subst h3; exact⟨h1,h4⟩);rw [hb] at h2; cases h2);rename_i hb;rw [CG];constructor;(·rintro⟨h1,h2⟩;obtain⟨e,rs,h3,h4⟩:=nZ.1 h2;exact⟨_,_,⟨h1,.rows 0 e rs,.inr ⟨hb,nZ.2 ⟨e,rs,h3,rfl,rfl⟩⟩,rfl⟩,h4⟩);rintro⟨u,m,⟨h1,B',h2,h3⟩,h4⟩;(rcases h2 with h2 | ⟨-,h2⟩);(·rw [hb] at h2; cases h2);obtain⟨e,rs,h5,h6,h7⟩:=nZ.1 h2;subst h6; subst h7; subst h3;exact⟨h1,nZ.2 ⟨e,rs,h5,h4⟩⟩);(·split;(·rename_i m v hb; exact⟨fun ⟨h1,h2⟩=>⟨v,m,⟨h1,hb⟩,h2⟩,fun ⟨u,m',⟨h1,h2⟩,h4⟩=>by rw [hb] at h2; cases h2; exact⟨h1,h4⟩⟩);rename_i hb; exact⟨fun h=>h.2.elim,fun ⟨_,_,⟨_,h⟩,_⟩=>by rw [hb] at h; cases h⟩);(·split;(·rename_i m hb; exact⟨fun h=>⟨_,m,⟨rfl,hb⟩,h⟩,fun ⟨u,m',⟨h1,h2⟩,h4⟩=>by rw [hb] at h2; cases h2; subst h1; exact h4⟩);rename_i hb; exact⟨fun h=>h.elim,fun ⟨_,_,⟨_,h⟩,_⟩=>by rw [hb] at h; cases h⟩);(·split;(·rename_i v hb; exact⟨fun h=>⟨v,st.mem,⟨hb,rfl⟩,h⟩,fun ⟨u,m',⟨h1,h2⟩,h4⟩=>by rw [hb] at h1; cases h1; subst h2; exact h4⟩);rename_i hb; exact⟨fun h=>h.elim,fun ⟨_,_,⟨h,_⟩,_⟩=>by rw [hb] at h; cases h⟩);(·rename_i hc; exact absurd hc hz);exact Mj
 ·exact⟨fun h=>⟨_,_,⟨rfl,rfl⟩,h⟩,fun ⟨v,m,⟨h1,h2⟩,h3⟩=>by subst h1; subst h2; exact h3⟩
 exact⟨fun h=>h.elim,fun ⟨_,_,h,_⟩=>h⟩


theorem jT {ρ ρ':Operand→V} {xs:Array Operand} (h:∀ x∈xs,ρ x=ρ' x):xs.toList.map ρ=xs.toList.map ρ' :=
 gp fun x hx=>h x (by simpa using hx)
theorem x6 {bD:List (Nat×Nat)} {ρ ρ':Operand→V}:∀ {ps:List (Nat×Operand)} {cs:List V},(∀ p∈ps,ρ p.2=ρ' p.2)→u1 bD ρ ps cs=u1 bD ρ' ps cs
 | [],cs,_=>rfl
 | (i,x) :: r,cs,h=>by
  simp only [u1,h (i,x) (by simp)]
  split
  ·split
   ·split
    ·exact x6 fun p hp=>h p (by simp [hp])
    rfl
   rfl
  rfl
theorem rL {ρ ρ':Operand→V}:∀ {ps:List (Nat×Operand)},(∀ p∈ps,ρ p.2=ρ' p.2)→nm ρ ps=nm ρ' ps
 | [],_=>rfl
 | (i,x) :: r,h=>by
  simp only [nm,h (i,x) (by simp)]
  rw [rL fun p hp=>h p (by simp [hp])]
theorem D0 {P:Program} {tt:Table} {T:TypeId} {ρ ρ':Operand→V} {ps:List (Nat×Operand)} (h:∀ p∈ps,ρ p.2=ρ' p.2):nC P tt T ps ρ=nC P tt T ps ρ':=by
 unfold nC;split;·rw [x6 h,rL h]
 rfl
theorem z8 {tt:Table} {T:TypeId} {len:Nat} {ρ ρ':Operand→V} {ps:List (Nat×Operand)} (h:∀ p∈ps,ρ p.2=ρ' p.2):wV tt T len ps ρ=wV tt T len ps ρ':=by unfold wV;have:(ps.map fun p=>ρ p.2)=ps.map fun p=>ρ' p.2:=gp h;rw [this]

theorem Mk {P:Program} {tt:Table} {o:Oper} {st st':St} (h:∀ x∈o.op.operands,st.eval x=st'.eval x) (hm:st.mem=st'.mem):me P tt st o=me P tt st' o:=by
 obtain⟨dst,op,type,pos,after,guard⟩:=o;cases op <;> simp only [Op.operands] at h <;> try rfl
 case slice T x lo hi mx =>
  cases mx <;> cases lo <;> cases hi <;> try rfl
  all_goals (simp only [me]; simp_all)
 case makeFunc fn first captured =>
  simp only [me]
  rw [jT (xs:=first) fun x hx=>h x (by simp [hx]),jT (xs:=captured) fun x hx=>h x (by simp [hx])]
 case call c =>
  obtain⟨callee,args,ts⟩:=c
  have oY:args.toList.map st.eval=args.toList.map st'.eval:=jT fun x hx=>h x (by simp [Call.operands,hx])
  cases callee with
  | builtin b=>cases b <;> simp only [me,oY,hm]
  | _=>rfl
 all_goals (simp only [me]; simp_all)
theorem IG {P:Program} {tt:Table} {o:Oper} {st st':St} (h:∀ x∈o.op.operands,st.eval x=st'.eval x) (hm:st.mem=st'.mem):yH P tt o st=yH P tt o st':=by
 have h0:=Mk (P:=P) (tt:=tt) h hm;obtain⟨dst,op,type,pos,after,guard⟩:=o;cases op <;> try exact h0
 case build T ps=>exact D0 fun p hp=>h p.2 (by simp only [Op.operands]; simpa using ⟨p.1,by simpa using hp⟩)
 case buildSlice T len ps =>
  simp only [yH]
  rw [z8 fun p hp=>h p.2 (by simp only [Op.operands]; simpa using ⟨p.1,by simpa using hp⟩)]
theorem Aa {P:Program} {tt:Table} {o:Oper} {st st':St} {Q:V→Prop} (h:∀ x∈o.op.operands,st.eval x=st'.eval x) (hm:st.mem=st'.mem):tl P tt o st Q=tl P tt o st' Q:=by
 have h0:=IG (P:=P) (tt:=tt) h hm;unfold tl;rw [h0];split;·rename_i f xs ts heq;rw [heq] at h;have oY:xs.toList.map st.eval=xs.toList.map st'.eval:=jT fun x hx=>h x (by simp [Op.operands,Call.operands,hx]);have hf:st.eval f=st'.eval f:=h f (by simp [Op.operands,Call.operands]);rw [oY,hf]
 rfl
theorem u7 {tt:Table} {o:Oper} {key:Nat} {st st':St} (h:∀ x∈o.op.operands,st.eval x=st'.eval x):j2 tt o key st=j2 tt o key st':=by
 obtain⟨dst,op,type,pos,after,guard⟩:=o;cases op <;> try rfl
 case makeMap t r=>cases r <;> rfl
 case makeSlice t l c=>simp only [j2]; rw [h l (by simp [Op.operands]),h c (by simp [Op.operands])]
 case box T x=>simp only [j2]; rw [h x (by simp [Op.operands])]
 case buildSlice T len ps =>
  simp only [j2]
  rw [z8 fun p hp=>h p.2 (by simp only [Op.operands]; simpa using ⟨p.1,by simpa using hp⟩)]
theorem x7 {P:Program} {o:Oper} {ρ ρ':Operand→V} {Q:Nat→List V→Prop} (h:∀ x∈o.op.operands,ρ x=ρ' x):qP P o ρ Q=qP P o ρ' Q:=by
 unfold qP;split;·rename_i f xs ts heq;rw [heq] at h;have oY:xs.toList.map ρ=xs.toList.map ρ':=jT fun x hx=>h x (by simp [Op.operands,Call.operands,hx]);have hf:ρ f=ρ' f:=h f (by simp [Op.operands,Call.operands]);rw [oY,hf]
 rfl
theorem IH {P:Program} {tt:Table} {o:Oper} {key:Nat} {st st':St} (h:∀ x∈o.op.operands,st.eval x=st'.eval x) (hm:st.mem=st'.mem):u5 P tt key o st=u5 P tt key o st':=by
 obtain⟨dst,op,type,pos,after,guard⟩:=o;cases op <;> try rfl
 case store T p x=>simp only [u5,hm]; rw [h p (by simp [Op.operands]),h x (by simp [Op.operands])]
 case mapUpdate T m k x=>simp only [u5,hm]; rw [h m (by simp [Op.operands]),h k (by simp [Op.operands]),h x (by simp [Op.operands])]
 case insert T m k x=>simp only [u5,hm]; rw [h m (by simp [Op.operands]),h k (by simp [Op.operands]),h x (by simp [Op.operands])]
 case call c =>
  obtain⟨callee,args,ts⟩:=c
  have oY:args.toList.map st.eval=args.toList.map st'.eval:=jT fun x hx=>h x (by simp [Op.operands,Call.operands,hx])
  cases callee with
  | builtin b=>cases b <;> simp only [u5,oY,hm]
  | _=>rfl

theorem Ab {tt:Table} {o:Oper} {key:Nat} {st st':St} (h:∀ x∈o.op.operands,st.eval x=st'.eval x) (hm:st.mem=st'.mem):qY tt key o st=qY tt key o st':=by
 obtain⟨dst,op,type,pos,after,guard⟩:=o;cases op <;> try rfl
 case store T p x=>simp only [qY,hm]; rw [h p (by simp [Op.operands]),h x (by simp [Op.operands])]
theorem FV {tt:Table} {o:Oper} {key:Nat} {st:St} {m:List bm} (h:qY tt key o st=some m) :
  ∃ B0 B:bm,B0.dV=0∧B.dV=0∧st.mem[key]?=some B0∧m=st.mem.set key B∧∀ mem:List bm,mem[key]?=some B0→qY tt key o { st with mem:=mem }=some (mem.set key B):=by
 have ev:∀ (mem:List bm) (x:Operand),St.eval { st with mem:=mem } x=st.eval x:=fun mem x=>by cases x <;> rfl
 unfold qY at h ⊢;obtain⟨dst,op,type,pos,after,guard⟩:=o;cases op <;> try (cases h)
 case store T p x =>
  simp only [ev]
  dsimp only at h
  split at h
  ·rename_i b off hp
   split at h
   ·rename_i hb
    subst hb
    unfold nB at h
    split at h
    ·cases h
    rename_i new hn
    split at h
    ·rename_i mY
     dsimp only at h
     split at h
     ·rename_i cs Dn
      split at h
      ·rename_i hle
       cases h
       refine⟨.box cs,.box (kG cs off new),rfl,rfl,Dn,rfl,fun mem hm=>?_⟩
       simp only [hp,if_true]
       unfold nB
       simp only [hn,mY,if_true,hm,hle]
      cases h
     cases h
    cases h
   cases h
  cases h

theorem eval_put {st:St} {dst:Option Tmp} {v:V} {x:Operand} (h:∀ d,dst=some d→x ≠ .tmp d):(st.put dst v).eval x=st.eval x:=by cases dst with | none=>rfl | some d =>cases x with | tmp t =>have ep:d≠t:=fun e=>h d rfl (e ▸ rfl);simp [St.eval,St.put,List.getD,eY ep] | _=>rfl
theorem TO (st:St) (dst:Option Tmp) (v:V):(st.put dst v).mem=st.mem:=by cases dst <;> rfl
theorem Cd {all:Array Oper} {o:Oper} {d:Tmp} (h:d ∉ o.looksAt all):∀ x∈o.op.operands,x ≠ .tmp d:=by rintro x hx rfl;exact h (by unfold Oper.looksAt; exact hX _ (List.mem_filterMap.2 ⟨.tmp d,by simpa using hx,rfl⟩))
theorem FW {all:Array Oper} {o:Oper} {st:St} {dst:Option Tmp} {v:V} (h:∀ d,dst=some d→d ∉ o.looksAt all):gr all (st.put dst v).fr o=gr all st.fr o:=by cases dst with | none=>rfl | some d =>have hd:=h d rfl;unfold gr;split;(·rfl);rename_i j want hg;split;(·rfl);rename_i e he;(have ep:d≠e:=by rintro rfl;exact hd (by unfold Oper.looksAt; exact gC _ (by rw [hg]; simp only []; rw [he]; simp)));simp only [St.put,eY ep]

section
variable {P:Program} {tt:Table} {all:Array Oper} {base:Nat}
theorem FX {o:Oper} {st st':St} (h:∀ x∈o.op.operands,st.eval x=st'.eval x) (hm:st.mem=st'.mem):qQ tt o st=qQ tt o st':=by
 unfold qQ;split;·rename_i T x ho;rw [hm,h x (by rw [ho]; simp [Op.operands])]
 rfl
theorem II {P:Program} {tt:Table} {o:Oper} {k:Nat} {st st':St} {v:V} {m:List bm} (h:∀ x∈o.op.operands,st.eval x=st'.eval x) (hm:st.mem=st'.mem):FT P tt o k st v m=FT P tt o k st' v m:=by
 have hs:=Ab (tt:=tt) (key:=k) h hm;unfold FT;split;·rename_i f xs ts heq;rw [heq] at h;have oY:xs.toList.map st.eval=xs.toList.map st'.eval:=gp fun x hx=>h x (by simp [Op.operands,Call.operands]; exact .inr (by simpa using hx));have hf:st.eval f=st'.eval f:=h f (by simp [Op.operands,Call.operands]);rw [oY,hf,hm]
 rw [hs]
theorem OJ {P:Program} {tt:Table} {o:Oper} {k:Nat} {st:St} {v:V} {m:List bm} (h:FT P tt o k st v m):∃ B0 B:bm,B0.dV=0∧B.dV=0∧st.mem[k]?=some B0∧m=st.mem.set k B:=by
 unfold FT at h;split at h;·split at h;(·obtain⟨B0,B,h1,h2,h3,h4,h5⟩:=h;exact⟨B0,B,h1,h2,h3,h5⟩);exact h.elim
 obtain⟨B0,B,h1,h2,h3,h4,-⟩:=FV h.2;exact⟨B0,B,h1,h2,h3,h4⟩
theorem Ml {o:Oper} {p:Pl} {st st':St} {v:V} {m:List bm} (hw:gr all st.fr o=gr all st'.fr o) (h:∀ x∈o.op.operands,st.eval x=st'.eval x) (hm:st.mem=st'.mem) :
  tm P tt all base o p st v m=tm P tt all base o p st' v m:=by
 have e1:∀ (mem:List bm) (x:Operand),St.eval { st with mem:=mem } x=st.eval x:=fun mem x=>by cases x <;> rfl
 have e2:∀ (mem:List bm) (x:Operand),St.eval { st' with mem:=mem } x=st'.eval x:=fun mem x=>by cases x <;> rfl
 unfold tm;rw [hw,u7 h,IH h hm,Ab h hm,FX h hm,II h hm,hm];simp only [x7 h]
 rw [Aa (st := { st with mem:=[] }) (st' := { st' with mem:=[] }) (fun x hx=>by rw [e1,e2]; exact h x hx) rfl,
  Aa (st := { st with mem:=iL (p.mask.map (base + ·)++p.abs) st'.mem }) (st' := { st' with mem:=iL (p.mask.map (base + ·)++p.abs) st'.mem }) (fun x hx=>by rw [e1,e2]; exact h x hx) rfl]
theorem KN {o:Oper} {p:Pl} {st:St} {dst:Option Tmp} {u v:V} {m:List bm} (h:∀ d,dst=some d→d ∉ o.looksAt all):tm P tt all base o p (st.put dst u) v m=tm P tt all base o p st v m :=
 Ml (FW h) (fun x hx=>eval_put fun d hd=>Cd (h d hd) x hx) (TO _ _ _)

def w7 (all:Array Oper) (x:Oper) (px:Pl) (y:Oper) (py:Pl):Bool :=
 px.cls != .z&&py.cls != .z&&x.apart all y&&(px.cls == .n||py.cls == .n||(px.cls == .r&&py.cls == .r)||((px.cls == .a||px.cls == .s)&&py.cls == .r&&py.mask.contains px.key)||(px.cls == .r&&(py.cls == .a||py.cls == .s)&&px.mask.contains py.key)||((px.cls == .a||px.cls == .s)&&(py.cls == .a||py.cls == .s)&&px.key != py.key)||(px.cls == .b&&(py.cls == .r||py.cls == .b||(py.cls == .w&&isApp y)||(py.cls == .a&&KM y)))||(py.cls == .b&&(px.cls == .r||(px.cls == .w&&isApp x)||(px.cls == .a&&KM x)))||(px.cls == .e&&py.cls == .r&&py.abs.contains px.key)||(px.cls == .r&&py.cls == .e&&px.abs.contains py.key))

theorem IJ {o:Oper} {key:Nat} {st:St} {B:bm} {v:V} (h:j2 tt o key st=some (B,v)):B.dV=0:=by
 unfold j2 at h;split at h;·split at h <;> cases h <;> rfl
 ·split at h <;> cases h <;> rfl
 ·split at h <;> cases h <;> rfl
 ·cases h; rfl
 ·split at h <;> cases h <;> rfl
 cases h

theorem w8 {o:Oper} {p:Pl} (hp:p.cls = .n) {st:St} {v:V} {m:List bm} (h:tm P tt all base o p st v m) (mem:List bm):m=st.mem∧tm P tt all base o p { st with mem:=mem } v mem:=by
 unfold tm at h ⊢;dsimp only;split at h;·rename_i hw;rw [hp] at h;simp only [hw,hp];exact⟨h.2,h.1,trivial⟩
 ·rename_i hw; simp only [hw]; exact⟨h.2,h.1,trivial⟩
 exact h.elim
theorem iD {o:Oper} {p:Pl} (hp:p.cls = .r) {st:St} {v:V} {m:List bm} (h:tm P tt all base o p st v m) {mem:List bm} (hm:iL (p.mask.map (base + ·)++p.abs) mem=iL (p.mask.map (base + ·)++p.abs) st.mem) :
  m=st.mem∧tm P tt all base o p { st with mem:=mem } v mem:=by
 unfold tm at h ⊢;dsimp only;split at h;·rename_i hw;rw [hp] at h;simp only [hw,hp];exact⟨h.2,by rw [hm]; exact h.1,trivial⟩
 ·rename_i hw; simp only [hw]; exact⟨h.2,h.1,trivial⟩
 exact h.elim
theorem sG {o:Oper} {p:Pl} (hp:p.cls = .a∨p.cls = .s) {st:St} {v:V} {m:List bm} (h:tm P tt all base o p st v m) :
  (m=st.mem∧∀ mem,tm P tt all base o p { st with mem:=mem } v mem) ∨
  ∃ B0 B:bm,B0.dV=0∧B.dV=0∧st.mem[base+p.key]?=some B0∧m=st.mem.set (base+p.key) B∧∀ mem:List bm,mem[base+p.key]?=some B0→tm P tt all base o p { st with mem:=mem } v (mem.set (base+p.key) B):=by
 unfold tm at h;split at h;·rename_i hw;(rcases hp with hp | hp);(·rw [hp] at h;obtain⟨h1,B,h2,h3⟩:=h;(have aby:B.dV=0:=by (rcases h2 with h2 | ⟨-,h2⟩);(·exact IJ h2);obtain⟨e,rs,-,h5,-⟩:=nZ.1 h2;rw [h5]; rfl);refine .inr ⟨.hole,B,rfl,aby,mJ.1 h1,h3,fun mem hm=>?_⟩;unfold tm;simp only [hw,hp];refine⟨mJ.2 hm,B,?_,rfl⟩;(have e0:j2 tt o (base+p.key) { st with mem:=mem }=j2 tt o (base+p.key) st:=u7 fun x _=>by cases x <;> rfl);rw [e0];(have e1:∀ Q,qP P o (St.eval { st with mem:=mem }) Q=qP P o st.eval Q:=fun Q=>x7 fun x _=>by cases x <;> rfl);rw [e1];exact h2);rw [hp] at h;obtain⟨h1,h2⟩:=h;obtain⟨B0,B,h3,h4,h5,h6,h7⟩:=FV h2;refine .inr ⟨B0,B,h3,h4,h5,h6,fun mem hm=>?_⟩;unfold tm;simp only [hw,hp];exact⟨h1,h7 mem hm⟩
 ·rename_i hw;refine .inl ⟨h.2,fun mem=>?_⟩;unfold tm;simp only [hw];exact⟨h.1,trivial⟩
 exact h.elim

theorem CH {o:Oper} {p:Pl} (hp:p.cls = .e) {st:St} {v:V} {m:List bm} (h:tm P tt all base o p st v m) :
  m=st.mem∨∃ B0 B:bm,B0.dV=0∧B.dV=0∧st.mem[p.key]?=some B0∧m=st.mem.set p.key B:=by
 unfold tm at h;split at h;·rw [hp] at h;exact .inr (OJ h)
 ·exact .inl h.2
 exact h.elim

theorem w9 {o:Oper} {p:Pl} (hp:p.cls = .b) {st:St} {v:V} {m:List bm} (h:tm P tt all base o p st v m) :
  m=st.mem∧∀ mem:List bm,mem.map iv=st.mem.map iv→tm P tt all base o p { st with mem:=mem } v mem:=by
 unfold tm at h ⊢;dsimp only;split at h;·rename_i hw;rw [hp] at h;simp only [hw,hp];refine⟨h.2,fun mem hm=>⟨?_,trivial⟩⟩;have h1:=h.1;unfold qQ at h1 ⊢;split at h1;(·rename_i T x ho;(have e:St.eval { st with mem:=mem } x=st.eval x:=by cases x <;> rfl);show qN tt (mem.map iv) T (St.eval { st with mem:=mem } x)=some v;rw [hm,e]; exact h1);cases h1
 ·rename_i hw; simp only [hw]; exact⟨h.2,fun _ _=>⟨h.1,trivial⟩⟩
 exact h.elim
theorem CI {o:Oper} {p:Pl} (hp:p.cls = .w) (ha:isApp o=true) {st:St} {v:V} {m:List bm} (h:tm P tt all base o p st v m):m.map iv=st.mem.map iv:=by
 unfold tm at h;split at h;·rw [hp] at h;exact OH ha (mJ.1 h.1) h.2
 ·rw [h.2]
 exact h.elim
theorem Ac {o:Oper} {p:Pl} (hp:p.cls = .a) (ha:KM o=true) {st:St} {v:V} {m:List bm} (h:tm P tt all base o p st v m):m.map iv=st.mem.map iv:=by
 unfold tm at h;split at h;·rw [hp] at h;obtain⟨h1,B,h2,rfl⟩:=h;(have hB:iv B = .dead:=by (rcases h2 with h2 | ⟨-,h2⟩);(·unfold j2 at h2;unfold KM at ha;split at h2;(·rename_i he; rw [he] at ha; cases ha);(·rename_i he; rw [he] at ha; cases ha);(·split at h2 <;> cases h2; rfl);(·cases h2; rfl);(·split at h2 <;> cases h2; rfl);cases h2);obtain⟨e,rs,-,h5,-⟩:=nZ.1 h2;rw [h5]; rfl);have hh:=mJ.1 h1;apply dy;intro q;rw [ae,ae,bK];split;(·rename_i hq; subst hq;rw [if_pos (az.1 hh).1,hh,cA,cA,hB]; rfl);rfl
 ·rw [h.2]
 exact h.elim
theorem St.put_comm (st:St) {x y:Option Tmp} (v u:V) (h:∀ d,x=some d→y≠some d):(st.put x v).put y u=(st.put y u).put x v:=by cases x with | none=>rfl | some d =>cases y with | none=>rfl | some e =>have ep:d≠e:=fun he=>h d rfl (he ▸ rfl);simp [St.put,ap1 _ _ ep]
theorem FY (st:St) (x:Option Tmp) (v:V) (m:List bm) : { st.put x v with mem:=m }=St.put { st with mem:=m } x v:=by cases x <;> rfl

theorem IK {x y:Oper} {px py:Pl} (fU:w7 all x px y py=true) {st:St} {Q:St→Prop} (h:fH P tt all base x px st fun st'=>fH P tt all base y py st' Q) :
  fH P tt all base y py st fun st'=>fH P tt all base x px st' Q:=by
 unfold w7 at fU;rw [aL,aL,aL] at fU;obtain⟨⟨⟨Wi,hzy⟩,TN⟩,o8⟩:=fU;have Wi:px.cls ≠ .z:=by simpa using Wi
 have hzy:py.cls ≠ .z:=by simpa using hzy
 obtain⟨hxy,OK,hyx⟩:=Oper.apart_spec TN;obtain⟨v,m1,h1,h2⟩:=(jS Wi).1 h;obtain⟨u,m2,h3,h4⟩:=(jS hzy).1 h2;rw [KN hxy] at h3;have fin:∀ m1' , tm P tt all base y py st u m1'→tm P tt all base x px { st with mem:=m1' } v m2→fH P tt all base y py st fun st'=>fH P tt all base x px st' Q:=fun m1' h5 h6=>by refine (jS hzy).2 ⟨u,m1',h5,(jS Wi).2 ⟨v,m2,by rw [KN hyx]; exact h6,?_⟩⟩;(have e1:({ (St.put { st with mem:=m1 } x.dst v) with mem:=m2 }:St).put y.dst u=({ (St.put { st with mem:=m1' } y.dst u) with mem:=m2 }:St).put x.dst v:=by rw [FY,FY];exact St.put_comm _ _ _ OK);rw [← e1]; exact h4
 have back:∀ (m:List bm) (z:Oper) (pz:Pl) (c:V) (m':List bm),tm P tt all base z pz { ({ st with mem:=m }:St) with mem:=st.mem } c m'=tm P tt all base z pz st c m':=fun _ _ _ _ _=>rfl;simp only [apP,aL,beq_iff_eq,bne_iff_ne] at o8;rcases o8 with ((((((((hn | hn) | ⟨hr,Fc⟩) | ⟨⟨ha,hr⟩,hm⟩) | ⟨⟨hr,ha⟩,hm⟩) | ⟨⟨ha,ha'⟩,ep⟩) | ⟨hb,hy⟩) | ⟨hb,hx⟩) | ⟨⟨he,hr⟩,hm⟩) | ⟨⟨hr,he⟩,hm⟩
 ·obtain⟨rfl,-⟩:=w8 hn h1 [];exact fin m2 h3 (w8 hn h1 m2).2
 ·obtain⟨h5,h6⟩:=w8 hn h3 st.mem;dsimp only at h5; subst h5;exact fin st.mem h6 h1
 ·obtain⟨rfl,-⟩:=iD hr h1 rfl;obtain⟨h5,h6⟩:=iD Fc h3 (mem:=st.mem) rfl;dsimp only at h5; subst h5;exact fin st.mem h6 h1
 ·(rcases sG ha h1 with ⟨rfl,-⟩ | ⟨B0,B,Oe,hv,hh,rfl,-⟩);(·obtain⟨h5,h6⟩:=iD hr h3 (mem:=st.mem) rfl;dsimp only at h5; subst h5;exact fin st.mem h6 h1);have CC:iL (py.mask.map (base + ·)++py.abs) (st.mem.set (base+px.key) B)=iL (py.mask.map (base + ·)++py.abs) st.mem:=sF (hX _ (dv.2 ⟨_,by simpa using hm,rfl⟩)) hh Oe hv;obtain⟨h5,h6⟩:=iD hr h3 (mem:=st.mem) CC.symm;dsimp only at h5; subst h5;exact fin st.mem h6 h1
 ·obtain⟨rfl,-⟩:=iD hr h1 rfl;(rcases sG ha h3 with ⟨h5,h6⟩ | ⟨B0,B,Oe,hv,hh,h5,h6⟩);(·dsimp only at h5; subst h5;exact fin st.mem h3 h1);dsimp only at h5 hh; subst h5;have CC:iL (px.mask.map (base + ·)++px.abs) (st.mem.set (base+py.key) B)=iL (px.mask.map (base + ·)++px.abs) st.mem:=sF (hX _ (dv.2 ⟨_,by simpa using hm,rfl⟩)) hh Oe hv;exact fin _ h3 (iD hr h1 CC).2
 ·(rcases sG ha h1 with ⟨rfl,hx⟩ | ⟨B0,B,Oe,hv,hh,rfl,hx⟩);(·exact fin m2 h3 (hx m2));(rcases sG ha' h3 with ⟨h5,h6⟩ | ⟨B0',B',ane,zp,SX,h5,h6⟩);(·dsimp only at h5; subst h5;exact fin st.mem (h6 st.mem) h1);dsimp only at h5 SX; subst h5;(have N9:base+px.key≠base+py.key:=by omega);rw [eY N9] at SX;have h7:=h6 st.mem SX;have h8:=hx (st.mem.set (base+py.key) B') (by rw [eY (fun e=>N9 e.symm)]; exact hh);refine fin _ h7 ?_;rw [ap1 _ _ N9];exact h8
 ·obtain⟨rfl,h5⟩:=w9 hb h1;refine fin m2 h3 (h5 m2 ?_);(rcases hy with ((hy | hy) | ⟨hy,ha⟩) | ⟨hy,ha⟩);(·rw [(iD hy h3 rfl).1]);(·rw [(w9 hy h3).1]);(·exact CI hy ha h3);exact Ac hy ha h3
 ·obtain⟨h5,h6⟩:=w9 hb h3;dsimp only at h5; subst h5;refine fin st.mem (h6 st.mem ?_) h1;(rcases hx with (hx | ⟨hx,ha⟩) | ⟨hx,ha⟩);(·rw [(iD hx h1 rfl).1]);(·exact (CI hx ha h1).symm);exact (Ac hx ha h1).symm
 ·(rcases CH he h1 with rfl | ⟨B0,B,Oe,hv,hh,rfl⟩);(·obtain⟨h5,h6⟩:=iD hr h3 (mem:=st.mem) rfl;dsimp only at h5; subst h5;exact fin st.mem h6 h1);have CC:iL (py.mask.map (base + ·)++py.abs) (st.mem.set px.key B)=iL (py.mask.map (base + ·)++py.abs) st.mem:=sF (gC _ (by simpa using hm)) hh Oe hv;obtain⟨h5,h6⟩:=iD hr h3 (mem:=st.mem) CC.symm;dsimp only at h5; subst h5;exact fin st.mem h6 h1
 obtain⟨rfl,-⟩:=iD hr h1 rfl;rcases CH he h3 with h5 | ⟨B0,B,Oe,hv,hh,h5⟩
 ·dsimp only at h5; subst h5;exact fin st.mem h3 h1
 dsimp only at h5 hh; subst h5;have CC:iL (px.mask.map (base + ·)++px.abs) (st.mem.set py.key B)=iL (px.mask.map (base + ·)++px.abs) st.mem:=sF (gC _ (by simpa using hm)) hh Oe hv;exact fin _ h3 (iD hr h1 CC).2
end
end Go.Eng
end

section
namespace Go.Eng
variable [bg]
open Go.RowKit (Below)

theorem sH {mem:List bm} {size:Nat} {l:Int} {h:Option Int} {x v:V} (hc:cutAt [] size l h x=some v):cutAt mem size l h x=some v:=by
 unfold cutAt at hc ⊢;split at hc;·exact hc
 ·simp [mD] at hc
 cases hc
theorem OL {P:Program} {tt:Table} {mem:List bm} {T:TypeId} {x v:V} {lo hi:Option V} (hc:Dt P tt [] T x lo hi=some v):Dt P tt mem T x lo hi=some v:=by
 unfold Dt at hc ⊢;split;·exact hc
 rename_i ep;split at hc;·exact absurd rfl (ep _)
 split at hc;·cases hc
 split at hc;·cases hc
 split at hc;·split at hc;(·exact sH hc);split at hc;(·exact sH hc);cases hc
 split at hc;·cases hc
 split at hc;·exact sH hc
 split at hc;·exact sH hc
 cases hc
theorem Mm {tt:Table} {mem:List bm} {T:TypeId} {p v:V} (h:qN tt [] T p=some v):qN tt mem T p=some v:=by cases p <;> simp [qN,rowOf] at h ⊢;exact h
theorem IL {tt:Table} {mem:List bm} {T:TypeId} {p i v:V} (h:oc tt [] T p i=some v):oc tt mem T p i=some v:=by
 unfold oc at h ⊢;split at h;·split at h;(·split at h;(·cases p <;> simp [indexAt,mD] at h ⊢;exact h);cases h);cases h
 cases h
theorem IN {tt:Table} {mem:List bm} {T:TypeId} {b o:Nat} {i:V}:oc tt mem T (.ptr b o) i=none:=by
 unfold oc;split;·split;(·split <;> rfl);rfl
 rfl
theorem IP {P:Program} {tt:Table} {mem:List bm} {T:TypeId} {p i v:V} (h:(match oc tt [] T p i with | some v=>some v | none=>zv P tt T p i)=some v):(match oc tt mem T p i with | some v=>some v | none=>zv P tt T p i)=some v:=by
 split at h;·rename_i u hu;cases h;rw [IL hu]
 have hp:∃ b o,p = .ptr b o:=by unfold zv at h;split at h;(·exact⟨_,_,rfl⟩);cases h
 obtain⟨b,o,rfl⟩:=hp;rw [IN]; exact h
theorem F0 {P:Program} {mem:List bm} {T:TypeId} {m i v:V} {ok:Bool} (h:kF P [] T m i ok=some v):kF P mem T m i ok=some v:=by
 unfold kF at h ⊢;split at h;·split at h;(·split at h;(·rename_i hk;rw [if_pos hk];unfold pH at h ⊢;split at h;(·simp at h);(·exact h);cases h);cases h);cases h
 cases h
theorem OM {mem:List bm} {it v:V} (h:LY [] it=some v):LY mem it=some v:=by
 unfold LY at h;split at h;·simp at h
 cases h
theorem ON {P:Program} {tt:Table} {mem:List bm} {ts:Array TypeId} {ty:TypeId} {xs:List V} {v:V} (h:(match wR [] ts P xs with | some v=>some v | none=>Dv P tt ts ty xs)=some v) :
  (match wR mem ts P xs with | some v=>some v | none=>Dv P tt ts ty xs)=some v:=by
 by_cases hx:∃ b,xs=[.mp b];·obtain⟨b,rfl⟩:=hx;simp [wR,Dv,j5,o9,fG] at h
 have hn:∀ m,wR m ts P xs=none:=fun m=>by unfold wR;split;(·exact absurd ⟨_,rfl⟩ hx);rfl
 rw [hn] at h ⊢;exact h
theorem Mn (st:St) (mem:List bm) (x:Operand):St.eval { st with mem:=mem } x=st.eval x:=by cases x <;> rfl
theorem gf (st:St) (mem:List bm):St.eval { st with mem:=mem }=st.eval:=funext fun x=>Mn st mem x
theorem Mo {P:Program} {mem:List bm} {s d:TypeId} {x v:V} (h:uT P [] s d x=some v):uT P mem s d x=some v:=by cases x <;> first | exact h | (simp [uT] at h)
theorem TP {P:Program} {tt:Table} {st:St} {o:Oper} {v:V} (h:me P tt { st with mem:=[] } o=some v):me P tt st o=some v:=by
 obtain⟨dst,op,type,pos,after,guard⟩:=o;cases op;case load T x=>simp only [me,gf] at h ⊢; exact Mm h
 case indexAddr T x i=>simp only [me,gf] at h ⊢; exact IP h
 case entry it=>simp only [me,gf] at h ⊢; exact OM h
 case convert s d x=>simp only [me,gf] at h ⊢; exact Mo h
 case lookup T x i ok=>simp only [me,gf] at h ⊢; exact F0 h
 case slice T x lo hi mx =>
  cases mx
  ·simp only [me,gf] at h ⊢; exact OL h
  cases lo <;> cases hi <;> simp only [me,gf,reduceCtorEq] at h ⊢
  exact h
 case call c =>
  obtain⟨callee,args,ts⟩:=c
  cases callee with
  | builtin b=>cases b <;> first | (simp only [me,gf] at h ⊢; exact h) | (simp only [me,gf] at h ⊢; exact ON h) | (simp [me] at h)
  | _=>simp [me] at h
 all_goals first | (simp only [me,gf] at h ⊢; exact h) | (simp [me] at h)

theorem x8 {mem:List bm} {v v':V} (h:dC [] v=some v'):dC mem v=some v'∧jj v=[]:=by
 unfold dC at h;split at h;·exact⟨h,rfl⟩
 ·exact⟨h,rfl⟩
 ·exact⟨h,rfl⟩
 ·exact⟨h,rfl⟩
 ·exact⟨h,rfl⟩
 ·exact⟨h,rfl⟩
 ·simp at h
 ·exact⟨h,rfl⟩
 cases h
theorem u9 {mem:List bm}:∀ {vs vs':List V},iI [] vs=some vs'→iI mem vs=some vs'∧vs.flatMap jj=[]
 | [],vs',h=>⟨h,rfl⟩
 | c :: r,vs',h=>by
  simp only [iI] at h ⊢
  split at h
  ·rename_i c' hc
   split at h
   ·rename_i r' hr
    obtain⟨h1,h2⟩:=x8 (mem:=mem) hc
    obtain⟨h3,h4⟩:=u9 (mem:=mem) hr
    rw [h1,h3]
    exact⟨h,by simp [kV,h2,h4]⟩
   cases h
  cases h
theorem OO {mem:List bm} {v v':V} (h:gP [] v=some v'):gP mem v=some v'∧fb v=[]:=by
 unfold gP at h;split at h;·rename_i cs;split at h;(·rename_i l hl;obtain⟨h1,h2⟩:=u9 (mem:=mem) hl;exact⟨by simp only [gP,h1]; exact h,h2⟩);cases h
 rename_i ep;obtain⟨h1,h2⟩:=x8 (mem:=mem) h;exact⟨by cases v <;> first | exact h1 | exact absurd rfl (ep _),by cases v <;> first | exact h2 | exact absurd rfl (ep _)⟩
theorem va {mem:List bm}:∀ {vs vs':List V},gx [] vs=some vs'→gx mem vs=some vs'∧vs.flatMap fb=[]
 | [],vs',h=>⟨h,rfl⟩
 | c :: r,vs',h=>by
  simp only [gx] at h ⊢
  split at h
  ·rename_i c' hc
   split at h
   ·rename_i r' hr
    obtain⟨h1,h2⟩:=OO (mem:=mem) hc
    obtain⟨h3,h4⟩:=va (mem:=mem) hr
    rw [h1,h3]
    exact⟨h,by simp [kV,h2,h4]⟩
   cases h
  cases h
theorem qR {v v':V} (h:dC [] v=some v') {E:Env} {x:Value} (hr:dh E v x):dh E v' x:=by
 unfold dC at h;split at h;·cases h; exact hr
 ·cases h; exact pJ hr
 ·cases h; exact hr
 ·cases h; cases hr with | full _ _ _ h=>exact h
 ·cases h; exact hr
 ·cases h; exact hr
 ·simp at h
 ·cases h;cases hr with | cX _ f _ _ xs ys hx hy h1 h2 =>(have e1:xs = #[]:=by simpa using hx.symm);(have e2:ys = #[]:=by simpa using hy.symm);subst e1; subst e2; exact .sc _ _
 cases h
theorem pM {E:Env}:∀ {vs vs':List V} {xs:List Value},iI [] vs=some vs'→cY E vs xs→cY E vs' xs
 | [],vs',xs,h,hr=>by cases h; exact hr
 | c :: r,vs',xs,h,hr=>by
  obtain⟨x,ys,rfl,h1,h2⟩:=hr.of_cons
  simp only [iI] at h
  split at h
  ·rename_i c' hc
   split at h
   ·rename_i r' Fc
    cases h
    exact .cons (qR hc h1) (pM Fc h2)
   cases h
  cases h
theorem D1 {v v':V} (h:gP [] v=some v') {E:Env} {x:Value} (hr:dh E v x):dh E v' x:=by
 unfold gP at h;split at h;·rename_i cs;split at h;(·rename_i l hl;cases h;cases hr with | agg _ _ xs hlen hh =>have:=pM hl (E:=E) (xs:=xs.toList) ⟨by simpa using hlen,fun i c x hc hx=>hh i c x hc (by simpa using hx)⟩;exact .agg _ _ _ (by simpa using this.1) fun i c x hc hx=>this.2 i c x hc (by simpa using hx));cases h
 exact qR h hr
theorem vb {E:Env}:∀ {vs vs':List V} {xs:List Value},gx [] vs=some vs'→cY E vs xs→cY E vs' xs
 | [],vs',xs,h,hr=>by cases h; exact hr
 | c :: r,vs',xs,h,hr=>by
  obtain⟨x,ys,rfl,h1,h2⟩:=hr.of_cons
  simp only [gx] at h
  split at h
  ·rename_i c' hc
   split at h
   ·rename_i r' Fc
    cases h
    exact .cons (D1 hc h1) (vb Fc h2)
   cases h
  cases h
theorem qo (mem:List bm) (r:V):bT mem [] r=mem:=by unfold bT; split <;> rfl

theorem x5.hole {P:Program} {f:FuncId} {vs vs':List V} {e:Nat} {rs:List V} (hp:gx [] vs=some vs') (h:x5 P f vs' e rs) {mem:List bm} {key:Nat} (fT:mem[key]?=some .hole) :
  bz P f vs mem (.ms key 0 0 rs.length) (mem.set key (.rows 0 e rs)):=by
 obtain⟨v0,h⟩:=h;refine⟨h.1,fun E w xs hs hx=>?_⟩;obtain⟨Mg,hk⟩:=va (mem:=mem) hp;have h1:=mF hs (keys:=[]) hx Mg (by rw [hk]; simp);have hE:(E.qb w []).pure=⟨E.F,fun _ _=>none,E.gl⟩:=by refine Env.LW (funext fun ad=>?_) rfl;simp only [Env.pure,Env.qb];cases hh:E.F ad <;> simp
 rw [hE] at h1;have IQ:key<mem.length:=(az.1 fT).1;have lZ:∀ v,E.cI key v=none:=hs.mem key _ fT;have tS:dr ⟨E.F,fun _ _=>none,E.gl⟩ w { tmps := #[],defers:=[] } { fr:=[],mem:=[] } := ⟨hs.F,(fun k v g e c h=>by cases h),(fun k B h=>by simp at h),(fun k _ v=>rfl),(fun k B h=>by simp at h),(fun k k' v v' g e c e' c' h=>by cases h),.nil _⟩;refine (h.2 _ w xs tS h1).mono ?_;rintro en w' ⟨E',x,rfl,iz,pC,hr⟩;have pb:∀ k v g e c,E'.cI k v=some (g,e,c)→w.heap.size≤g:=fun k v g e c hb=>by (rcases iz.cI _ _ _ _ _ hb with ⟨_,_,_,_,h⟩ | h);(·cases h);exact h
 have hold:∀ b,b<w.heap.size→w'.heap[b]?=w.heap[b]?:=fun b hb=>iz.heap b hb fun _ _ _ _ h=>by cases h
 have hFo:∀ ad y,E'.F ad=some y→E.F ad=some y∨w.heap.size≤ad.block:=fun ad y hy=>by (rcases iz.F _ _ hy with h | h | ⟨_,_,_,_,h⟩);(·exact .inl h);(·exact .inr h);cases h
 have OP:(⟨E'.F,fun k v=>if k=key then (if v=0 then E'.cI 0 v0 else none) else E.cI k v,E'.gl⟩:Env).cI key 0=E'.cI 0 v0:=by simp
 have Yd:∀ v,v≠0→(⟨E'.F,fun k v=>if k=key then (if v=0 then E'.cI 0 v0 else none) else E.cI k v,E'.gl⟩:Env).cI key v=none:=fun v hv=>by simp [hv]
 have oS:∀ k v,k≠key→(⟨E'.F,fun k v=>if k=key then (if v=0 then E'.cI 0 v0 else none) else E.cI k v,E'.gl⟩:Env).cI k v=E.cI k v:=fun k v hk=>if_neg hk;generalize N2:(⟨E'.F,fun k v=>if k=key then (if v=0 then E'.cI 0 v0 else none) else E.cI k v,E'.gl⟩:Env)=E2 at OP Yd oS;have kH:E2.F=E'.F:=by rw [← N2]
 have Cv:E2.pure=E'.pure:=Env.LW kH rfl;have KO:∀ v t,E2.cI key v=some t→v=0∧E'.cI 0 v0=some t:=fun v t ht=>by by_cases hv:v=0;(·subst hv; exact⟨rfl,OP ▸ ht⟩);rw [Yd v hv] at ht; cases ht
 have hle:E.le E2:=⟨fun ad y hy=>by rw [kH]; exact iz.le.F _ _ hy,fun k v t hk=>by by_cases fN:k=key;(·subst fN; rw [lZ v] at hk; cases hk);rw [oS k v fN]; exact hk⟩;refine⟨E2,x,rfl,⟨hle,fun k v g e c hk=>?_,fun ad y hy=>?_,iz.os,iz.tape,iz.output,iz.size,fun b hb _=>hold b hb⟩,⟨fun ad y hy=>pC.F _ _ (by rw [← kH]; exact hy),fun k v g e c hk=>?_,fun k B hk=>?_,fun k hk v=>?_,fun k B hk v hv=>?_,fun k k' v v' g e1 c1 e2 c2 h5 h6=>?_,.nil _⟩,?_⟩;·by_cases fN:k=key;(·subst fN; obtain⟨-,h⟩:=KO _ _ hk; exact .inr (pb _ _ _ _ _ h));rw [oS k v fN] at hk; exact .inl ⟨k,v,e,c,hk⟩
 ·rw [kH] at hy;(rcases hFo ad y hy with h | h);(·exact .inl h);exact .inr (.inl h)
 ·by_cases fN:k=key;(·subst fN; obtain⟨-,h⟩:=KO _ _ hk; exact pC.lt _ _ _ _ _ h);rw [oS k v fN] at hk; have:=hs.lt _ _ _ _ _ hk; have:=iz.size; omega
 ·rw [bK] at hk;by_cases fN:key=k;(·subst fN;simp only [if_true,IQ] at hk;cases hk;have h0:=pC.mem 0 _ rfl;(rcases h0 with ⟨h1,h2⟩ | ⟨g,T,ys,c,h1,h2,h3,h4,h5,h6⟩);(·exact .inl ⟨h1,by rw [OP]; exact h2⟩);exact .inr ⟨g,T,ys,c,by rw [OP]; exact h1,h2,h3,h4,by rw [Cv]; exact h5,fun o=>by rw [kH]; exact h6 o⟩);rw [if_neg fN] at hk;refine (hs.mem k B hk).mono hle (fun v hv=>by rw [oS k v (fun e=>fN e.symm)]; exact hv) (fun g e c hb=>hold g (hs.lt _ _ _ _ _ hb)) fun g e c o hb hn=>?_;rw [kH];cases hy:E'.F ⟨g,o,none⟩ with | none=>rfl | some y =>(rcases hFo _ y hy with h | h);(·rw [hn] at h; cases h);have:=hs.lt _ _ _ _ _ hb; simp at h; omega
 ·dsimp only at hk;rw [pB] at hk;rw [oS k v (by omega)]; exact hs.top k (by dsimp only; omega) v
 ·rw [bK] at hk;by_cases fN:key=k;(·subst fN;simp only [if_true,IQ] at hk;cases hk;exact Yd v (by simp [bm.dV] at hv; omega));rw [if_neg fN] at hk;rw [oS k v (fun e=>fN e.symm)]; exact hs.dV k B hk v hv
 ·by_cases je:k=key <;> by_cases l0:k'=key;(·rw [je,l0]);(·subst je;obtain⟨-,h⟩:=KO _ _ h5;rw [oS k' _ l0] at h6;have:=hs.lt _ _ _ _ _ h6; have:=pb _ _ _ _ _ h; omega);(·subst l0;obtain⟨-,h⟩:=KO _ _ h6;rw [oS k _ je] at h5;have:=hs.lt _ _ _ _ _ h5; have:=pb _ _ _ _ _ h; omega);rw [oS k _ je] at h5; rw [oS k' _ l0] at h6;exact hs.apart _ _ _ _ _ _ _ _ _ h5 h6
 rcases DI hr with ⟨h0,rfl⟩ | ⟨g,e,c,aa,cap,rfl,hb,hl,h0,hc⟩
 ·rw [h0]; exact .jl _ _ _ _
 exact .ms _ _ _ _ _ g e c _ _ (by rw [OP]; exact hb) hl h0 hc

theorem dr.OQ {E:Env} {w:World} {a:Act} {st:St} (hs:dr E w a st) {xs:Array Value} {rs:List V} {e c:Nat} (T:TypeId) (hl:rs.length≤c) (hr:mC E.pure e rs (fun o=>xs[o]?)) :
  ∃ E',dr E' (w.alloc (.cells xs T (0,0))) a st∧iC E w E' (w.alloc (.cells xs T (0,0)))∧dh E' (.slice rs) (.slice (some ⟨w.heap.size,0,none⟩) rs.length c):=by
 have uY:∀ o,(w.alloc (.cells xs T (0,0))).cell? ⟨w.heap.size,o,none⟩=xs[o]?:=fun o=>oP (heap_alloc_new w _) o;have hle:E.le ⟨fun ad=>match E.F ad with | some x=>some x | none=>if ad.block=w.heap.size∧ad.spot=none then xs[ad.off]? else none,E.cI,E.gl.mono fun ad x h=>by simp only [h]⟩:=⟨fun ad x h=>by dsimp only; rw [h],fun _ _ _ h=>h⟩;refine⟨⟨fun ad=>match E.F ad with | some x=>some x | none=>if ad.block=w.heap.size∧ad.spot=none then xs[ad.off]? else none,E.cI,E.gl.mono fun ad x h=>by simp only [h]⟩,⟨fun ad x hx=>?_,fun k v g e c h=>?_,fun k B hB=>?_,hs.top,hs.dV,hs.apart,hs.fr.mono hle⟩,⟨hle,fun k v g e c h=>.inl ⟨k,v,e,c,h⟩,fun ad x hx=>?_,rfl,rfl,rfl,by simp,fun b hb _=>ey w _ b hb⟩,?_⟩;·dsimp only at hx;split at hx;(·rename_i y hy; cases hx;rw [World.cell?_alloc_lt w _ ad (World.block_lt_of_cell? w ad (hs.F ad _ hy))]; exact hs.F ad _ hy);split at hx;(·rename_i hc;obtain⟨b,o,el⟩:=ad;obtain⟨rfl,rfl⟩:=hc;rw [uY]; exact hx);cases hx
 ·have:=hs.lt _ _ _ _ _ h; simp; omega
 ·refine (hs.mem k B hB).mono hle (fun v h=>h) (fun g e' c' hb=>ey w _ g (hs.lt _ _ _ _ _ hb)) fun g e c o hb hn=>?_;dsimp only;rw [hn];have:=hs.lt _ _ _ _ _ hb;simp; intro h; omega
 ·dsimp only at hx;split at hx;(·rename_i y hy; cases hx; exact .inl hy);split at hx;(·rename_i hc; exact .inr (.inl (by rw [hc.1]; exact aw _)));cases hx
 have hn:∀ o,E.F ⟨w.heap.size,o,none⟩=none:=fun o=>by cases hx:E.F ⟨w.heap.size,o,none⟩ with | none=>rfl | some x=>have:=World.block_lt_of_cell? w _ (hs.F _ _ hx); simp at this
 refine .slice _ rs _ c e ⟨w.heap.size,0,none⟩ (fun i j=>(xs[i*e+j]?).getD undef) (fun _=>rfl) hl (fun i row hi=>(hr i row hi).1) (fun i row j cc hi hj=>?_) (fun i row j cc hi hj=>?_) fun i row j cc hi hj=>?_;·obtain⟨x,hx,h1,h2⟩:=(hr i row hi).2 j cc hj;rw [add_lit,bE];simp only [hn,true_and,if_true,and_self];dsimp only at hx; rw [hx]; rfl
 ·obtain⟨x,hx,h1,h2⟩:=(hr i row hi).2 j cc hj;dsimp only at hx ⊢; rw [hx]; exact h1
 obtain⟨x,hx,h1,h2⟩:=(hr i row hi).2 j cc hj;dsimp only at hx ⊢; rw [hx]; exact h2.mono (Env.ld hle)

section
variable {P:Program} {tt:Table} (ht:TT P tt)
include ht
theorem Ad {E:Env} {w:World} {a:Act} {st:St} (hs:dr E w a st) {o:Oper} {mem:List bm} {Q:V→Prop} {R:St→Prop} (h:tl P tt o { st with mem:=mem } Q) (hQ:∀ v,Q v→R (st.put o.dst v))
  (mv:∀ v,me P tt { st with mem:=mem } o=some v→∃ x,(execOp a.eval o).run P w = .ok (.value x) w∧dh E v x)
  {ρ:Option Nat} {n:Nat} {next:Act→World→Prop} {Q':Exit→Act→World→Prop} (hn:∀ v w',FN E w a o.dst R v w'→next (a.put o.dst v) w'):o.wpIn (WF ρ) n P a w next Q':=by
 obtain⟨dst,op,type,pos,after,guard⟩:=o;have gen:∀ (mf:∀ c,op ≠ .defer c),(∀ f xs ts,op ≠ .call { callee:=.value f,args:=xs,argTypes:=ts })→(∀ T ps,op ≠ .build T ps)→(∀ T l ps,op ≠ .buildSlice T l ps)→Oper.wpIn (WF ρ) n P { dst:=dst,op:=op,type:=type,pos:=pos,after:=after,guard:=guard } a w next Q':=by intro mf h1 h2 h3;(have hv:∃ v,me P tt { st with mem:=mem } { dst:=dst,op:=op,type:=type,pos:=pos,after:=after,guard:=guard }=some v∧Q v:=by unfold tl at h;split at h;(·rename_i heq; exact absurd heq (h1 _ _ _));unfold yH at h;dsimp only at h;split at h;(·rename_i v hv;split at hv;(·exact absurd rfl (h2 _ _));(·exact absurd rfl (h3 _ _ _));exact⟨v,hv,h⟩);exact h.elim);obtain⟨v,hv,hq⟩:=hv;obtain⟨x,h4,h5⟩:=mv v hv;exact dD mf h4 (hn _ _ ⟨E,_,hs.put dst h5,iC.refl E w,hQ _ hq⟩)
 cases op;case defer c=>simp [tl,yH,me] at h
 case build T ps =>
  simp only [tl,yH,gf] at h
  split at h
  ·rename_i v hv
   obtain⟨x,h1,h2⟩:=u2 ht hs hv
   exact dD (by simp) (dA h1) (hn _ _ ⟨E,_,hs.put dst h2,iC.refl E w,hQ _ h⟩)
  exact h.elim
 case buildSlice T len ps =>
  simp only [tl,yH,gf] at h
  split at h
  ·rename_i v hv
   split at hv
   ·rename_i size rs hl
    cases hv
    obtain⟨Z,e,h1,h2,h3,h4⟩:=DH ht (fun p _=>hs.eval p.2) hl
    obtain⟨E',h5,h6,h7⟩:=hs.OQ (xs:=Z) (rs:=rs) (c:=len) e (by omega) h4
    rw [h3] at h7
    exact dD (by simp) (jz h1) (hn _ _ ⟨E',_,h5.put dst h7,h6,hQ _ h⟩)
   cases hv
  exact h.elim
 case call c =>
  obtain⟨callee,args,ts⟩:=c
  cases callee with
  | value f =>
   simp only [tl,gf] at h
   split at h
   ·rename_i g vs hg
    obtain⟨vs',r,h1,h2,h3⟩:=h
    obtain⟨h4,h5⟩:=va (mem:=st.mem) h1
    obtain⟨ys,h6,h7⟩:=rF (P:=P) (w:=w) (hs.eval f) (hs.pI args) hg
    have hc:xU P g vs st dst R:=by
     rcases h2 with h2 | h2
     ·exact .inl ⟨vs',r,h4,h2,by rw [h5,qo]; exact hQ _ h3⟩
     refine .inr (.inr (.inr ⟨r,fun E1 w1 xs1 IB NW=>?_,hQ _ h3⟩))
     obtain⟨x,g1,g2⟩:=h2 E1 w1 xs1 IB (vb h1 NW)
     exact⟨x,g1,g2⟩
    rcases xY hs hc h6 with ⟨h8,h9⟩ | ⟨v,h8,h9⟩
    ·refine xW (by simp) (f:=g) (xs:=ys) ?_ h9 fun e w' ⟨v,hv,ha⟩=>⟨v,hv,hn _ _ ha⟩
     rw [← h8,← h7]
     simp only [execOp,resolve]
    refine dD (by simp) (v:=v) ?_ (hn _ _ h9)
    rw [← h8,← h7]
    simp only [execOp,resolve]
   exact h.elim
  | _=>exact gen (by simp) (by simp) (by simp) (by simp)
 all_goals exact gen (by simp) (by simp) (by simp) (by simp)

omit ht in
theorem vd {mem:List bm} {k:Nat} (h:mem[k]?=some .hole) (B:bm):dB mem k B=mem.set k B:=by unfold dB; rw [if_pos (az.1 h).1]

theorem F1 {all:Array Oper} {base:Nat} {E:Env} {w:World} {a:Act} {st:St} (hs:dr E w a st) {i:Nat} {o:Oper} {p:Pl} {Q:St→Prop} (hi:all[i]?=some o) (h:fH P tt all base o p st Q)
  {ρ:Option Nat} {n:Nat} {next:Act→World→Prop} {Q':Exit→Act→World→Prop} (hn:∀ v w',FN E w a o.dst Q v w'→next (a.put o.dst v) w'):wpOpIn (WF ρ) n P all Q' i next a w:=by
 unfold wpOpIn;rw [hi];dsimp only;unfold fH at h;split at h;·rename_i hw;rw [if_pos (m6 hs hw)];split at h;(·rw [y0] at h; exact Ad ht hs h (fun _ h=>h) (fun v hv=>sA ht hs (TP hv)) hn);(·rw [y0] at h; exact Ad ht hs h (fun _ h=>h) (fun v hv=>sA ht (hs.iL _) hv) hn);(·obtain⟨hh,h⟩:=h;rw [mJ] at hh;split at h;(·rename_i B v hb;refine iJ ht hs (key:=base+p.key) (.inl hh) ?_ hn;unfold j2 at hb;unfold de;split at hb;(·rename_i T heq;rw [heq];dsimp only;split at hb;(·rename_i i hi; cases hb; rw [hi]; dsimp only; rw [vd hh]; exact h);cases hb);(·rename_i heq;rw [heq];dsimp only;split at hb;(·rename_i i hi; cases hb; rw [hi]; dsimp only; rw [vd hh]; exact h);cases hb);(·rename_i heq;rw [heq];dsimp only;split at hb;(·rename_i i hi; cases hb; rw [hi]; dsimp only; rw [vd hh]; exact h);cases hb);(·rename_i heq;rw [heq];dsimp only;cases hb; rw [vd hh]; exact h);(·rename_i heq;rw [heq];dsimp only;split at hb;(·rename_i i hi; cases hb; rw [hi]; dsimp only; rw [vd hh]; exact h);cases hb);cases hb);rw [CG] at h;unfold qP at h;split at h;(·rename_i f xs ts heq;split at h;(·rename_i g vs hg;obtain⟨vs',e,rs,h1,h2,h3⟩:=h;refine iJ ht hs (key:=base+p.key) (.inl hh) ?_ hn;unfold de;rw [heq];dsimp only;split;(·rename_i k hk; rw [hk] at hg; simp [dn] at hg);rw [hg];exact .inr (.inl ⟨_,_,h2.hole h1 hh,h3⟩));exact h.elim);exact h.elim);(·obtain⟨hh,h⟩:=h;rw [mJ] at hh;split at h;(·rename_i m v hb;refine iJ ht hs (key:=base+p.key) (.inl hh) ?_ hn;unfold u5 at hb;unfold de;split at hb;(·rename_i heq;rw [heq];dsimp only;split at hb;(·rename_i i hi; cases hb; rw [hi]; exact h);cases hb);(·rename_i xs ts heq;rw [heq];dsimp only;split at hb;(·rename_i s x Tz;rw [Tz];dsimp only;split at hb;(·rename_i size tW rows ha;rw [ha];simp only [aF] at hb;dsimp only;rw [hb]; exact h);cases hb);cases hb);(·rename_i heq;rw [heq];dsimp only;split at hb;(·rename_i i hi; cases hb; rw [hi]; exact h);cases hb);(·rename_i heq;rw [heq];dsimp only;split at hb;(·rename_i i hi; cases hb; rw [hi]; exact h);cases hb);cases hb);exact h.elim);(·split at h;(·rename_i m hb;refine iJ ht hs (key:=st.mem.length) (.inr rfl) ?_ hn;unfold qY at hb;unfold de;split at hb;(·rename_i heq;rw [heq];dsimp only;split at hb;(·rename_i b off hp;split at hb;(·rename_i hk;subst hk;rw [hp,hb]; exact h);cases hb);cases hb);cases hb);exact h.elim);(·split at h;(·rename_i v hb;refine iJ ht hs (key:=st.mem.length) (.inr rfl) ?_ hn;have ho:=Mi (P:=P) hb;unfold qQ at hb;unfold de;split at hb;(·rename_i heq;rw [heq];dsimp only;rw [ho]; exact h);cases hb);exact h.elim);(·refine iJ ht hs (key:=st.mem.length) (.inr rfl) ?_ hn;unfold pL at h;unfold de;split at h;(·rename_i f xs ts heq;split at h;(·rename_i g vs hg;obtain⟨vs',r,h1,h2,h3⟩:=h;rw [heq];dsimp only;split;(·rename_i k hk; rw [hk] at hg; simp [dn] at hg);rw [hg];exact .inl ⟨vs',r,h1,h2,h3⟩);exact h.elim);exact h.elim);refine iJ ht hs (key:=st.mem.length) (.inr rfl) ?_ hn;unfold u6 at h;unfold de;split at h;(·rename_i f xs ts heq;split at h;(·rename_i g vs hg;obtain⟨v,B0,B,-,-,h1,h2,h3⟩:=h;rw [heq];dsimp only;split;(·rename_i k hk; rw [hk] at hg; simp [dn] at hg);rw [hg];exact .inr (.inl ⟨_,_,h2,h3⟩));exact h.elim);split at h;(·rename_i m hb;unfold qY at hb;split at hb;(·rename_i heq;rw [heq];dsimp only;split at hb;(·rename_i b off hp;split at hb;(·rename_i hk;subst hk;rw [hp,hb]; exact h);cases hb);cases hb);cases hb);exact h.elim
 ·rename_i hw;rw [if_neg (by rw [m6 hs hw]; simp)];exact⟨fun _ _=>trivial,hn _ _ ⟨E,_,hs.put o.dst (.sc _ _),iC.refl E w,h⟩⟩
 exact h.elim
end
end Go.Eng
end

section
namespace Go.Eng
variable [bg]

def pl0:Pl:=⟨.n,0,[],[],[]⟩
def oi (o:Oper) (k:Nat):Bool:=o.after.any fun e=>Region.binds .any e&&e.on==k
def rM (all:Array Oper) (y:Oper) (py:Pl):Nat→List Oper→List Pl→Bool
 | _,[],_=>true
 | k,x :: r,px=>(oi y k||py.Wg.contains k||w7 all x (px.headD pl0) y py)&&rM all y py (k+1) r px.tail
def IT (o:Oper) (i:Nat):Bool:=o.after.all fun e=>!Region.binds .any e||decide (e.on<i)
def rN (plan:List Pl) (i:Nat):Pl:=(plan[i]?).getD pl0
def OS (plan:List Pl) (y:Oper) (py:Pl):Bool:=py.Wg.all fun k=>oi y k||y.after.any fun e=>Region.binds .any e&&(rN plan e.on).Wg.contains k
def y4 (all:Array Oper) (plan:List Pl):Nat→List Oper→List Pl→Bool
 | _,[],_=>true
 | i,y :: r,py=>IT y i&&OS plan y (py.headD pl0)&&rM all y (py.headD pl0) 0 (all.toList.take i) plan&&y4 all plan (i+1) r py.tail
def rO (all:Array Oper) (plan:List Pl):Bool:=y4 all plan 0 all.toList plan

theorem ud {α:Type} (l:List α) (i:Nat) (d:α):(l.drop i).headD d=(l[i]?).getD d:=by rw [List.headD_eq_head?_getD,List.head?_drop]

theorem ve {all:Array Oper} {y:Oper} {py:Pl} {plan:List Pl}:∀ {l:List Oper} {n:Nat},rM all y py n l (plan.drop n)=true→∀ k x,l[k]?=some x→(oi y (n+k)=true∨(n+k)∈py.Wg)∨w7 all x (rN plan (n+k)) y py=true
 | [],n,_,k,x,h=>by simp at h
 | z :: r,n,h,k,x,hk=>by
  simp only [rM,aL,apP,ud] at h
  cases k with
  | zero=>simp at hk; subst hk; simpa [rN] using h.1
  | succ k =>
   have h2:=h.2
   rw [apO] at h2
   have:=ve h2 k x (by simpa using hk)
   rw [oI,SO 1 k] at this
   exact this
theorem x9 {all:Array Oper} {plan:List Pl}:∀ {l:List Oper} {n:Nat},y4 all plan n l (plan.drop n)=true→∀ k y,l[k]?=some y→(IT y (n+k)=true∧OS plan y (rN plan (n+k))=true)∧rM all y (rN plan (n+k)) 0 (all.toList.take (n+k)) plan=true
 | [],n,_,k,x,h=>by simp at h
 | z :: r,n,h,k,x,hk=>by
  simp only [y4,aL,ud] at h
  cases k with
  | zero=>simp at hk; subst hk; exact h.1
  | succ k =>
   have h2:=h.2
   rw [apO] at h2
   have:=x9 h2 k x (by simpa using hk)
   rw [oI,SO 1 k] at this
   exact this
theorem pO {all:Array Oper} {plan:List Pl} (h:rO all plan=true) {i:Nat} {y:Oper} (hi:all[i]?=some y) :
  (∀ e∈y.after,Region.binds .any e=true→e.on<i)∧(∀ k∈(rN plan i).Wg,oi y k=true∨∃ e∈y.after,Region.binds .any e=true∧k∈(rN plan e.on).Wg)∧∀ k x,k<i→all[k]?=some x→(oi y k=true∨k∈(rN plan i).Wg)∨w7 all x (rN plan k) y (rN plan i)=true:=by
 have:=x9 (n:=0) h i y (by simpa using hi);rw [bE] at this;obtain⟨⟨h1,h3⟩,h2⟩:=this;refine⟨fun e he hb=>?_,fun k hk=>?_,fun k x hk hx=>?_⟩;·unfold IT at h1;have:=Array.all_eq_true_iff_forall_mem.1 h1 e he;simpa [hb] using this
 ·unfold OS at h3;have:=a7.1 h3 k hk;rw [apP] at this;refine this.imp id fun h=>?_;rw [aqr] at h;obtain⟨e,he,h⟩:=h;rw [aL] at h;exact⟨e,he,h.1,by simpa using h.2⟩
 have:=ve (n:=0) h2 k x (by rw [jN hk]; simpa using hx);rwa [bE] at this

section
variable {P:Program} {tt:Table} {all:Array Oper} {plan:List Pl} {base:Nat}
def F2 (P:Program) (tt:Table) (all:Array Oper) (plan:List Pl) (base:Nat):List Nat→St→(St→Prop)→Prop
 | [],st,K=>K st
 | i :: r,st,K=>match all[i]? with
  | some o=>fH P tt all base o (rN plan i) st fun st'=>F2 P tt all plan base r st' K
  | none=>False
theorem qp {o:Oper} {p:Pl} {st:St} {K K':St→Prop} (h:∀ s,K s→K' s) (hh:fH P tt all base o p st K):fH P tt all base o p st K':=by
 by_cases hz:p.cls = .z;·unfold fH at hh ⊢;split at hh;(·rw [hz] at hh ⊢;exact z7 hh h);(·exact h _ hh);exact hh.elim
 obtain⟨v,m,h1,h2⟩:=(jS hz).1 hh;exact (jS hz).2 ⟨v,m,h1,h _ h2⟩
theorem Ae {i:Nat} {o:Oper} (hi:all[i]?=some o) {K:St→Prop} {σ2:List Nat}:∀ {σ1:List Nat} {st:St},(∀ k∈σ1,∀ x,all[k]?=some x→w7 all x (rN plan k) o (rN plan i)=true) →
  F2 P tt all plan base (σ1++i :: σ2) st K→fH P tt all base o (rN plan i) st fun st'=>F2 P tt all plan base (σ1++σ2) st' K
 | [],st,_,h=>by simpa [F2,hi] using h
 | k :: r,st,hp,h=>by
  simp only [au,F2] at h ⊢
  cases hk:all[k]? with
  | none=>rw [hk] at h; exact h.elim
  | some x =>
   rw [hk] at h
   dsimp only at h ⊢
   exact IK (hp k (by simp) x hk) (qp (fun s hs=>Ae hi (fun k' iQ=>hp k' (by simp [iQ])) hs) h)

theorem vf {y:Oper} {k:Nat} {listed:Array Bool} (h:oi y k=true) (hl:∀ e∈y.after,Region.binds .any e=true→listed.getD e.on false=true):listed.getD k false=true:=by unfold oi at h;rw [aqr] at h;obtain⟨e,he,h⟩:=h;rw [aL,beq_iff_eq] at h;rw [← h.2]; exact hl e he h.1

def OT (all:Array Oper) (listed:Array Bool):Prop:=∀ (i:Nat) (o:Oper),listed.getD i false=true→all[i]?=some o→∀ e∈o.after,Region.binds .any e=true→listed.getD e.on false=true
theorem IU (fU:rO all plan=true) {listed:Array Bool} (hc:OT all listed) (mY:listed.size=all.size):∀ (i:Nat) (y:Oper),all[i]?=some y→(∀ e∈y.after,Region.binds .any e=true→listed.getD e.on false=true)→∀ k∈(rN plan i).Wg,listed.getD k false=true:=by intro i;induction i using Nat.strongRecOn with | _ i ih =>intro y hy hl k hk;(rcases (pO fU hy).2.1 k hk with h | ⟨e,he,hb,h⟩);(·exact vf h hl);have h1:=hl e he hb;(have ca:e.on<all.size:=by have:e.on<i:=(pO fU hy).1 e he hb;have:=(dN.1 hy).1;omega);have hz:=ch ca;exact ih e.on ((pO fU hy).1 e he hb) _ hz (hc e.on _ h1 hz) k h

theorem F3 (ht:TT P tt) (fU:rO all plan=true) {ρ:Option Nat} {n:Nat} {K:St→Prop} {Q':Exit→Act→World→Prop}:∀ (fuel:Nat) (listed:Array Bool) (σ:List Nat),listed.size=all.size→OT all listed→σ.length≤fuel→σ.Pairwise (· < ·)→(∀ i,i∈σ↔listed[i]?=some false) →
  ∀ {E:Env} {w:World} {a:Act} {st:St},dr E w a st→F2 P tt all plan base σ st K→(∀ a' w',a'.defers=a.defers→(∃ E' st',dr E' w' a' st'∧iC E w E' w'∧K st')→Q' .normal a' w')→wpAnyIn (WF ρ) n P .any all Q' fuel listed a w:=by
 intro fuel;have done:∀ (listed:Array Bool) (σ:List Nat),listed.size=all.size→σ.Pairwise (· < ·)→(∀ i,i∈σ↔listed[i]?=some false)→Region.ready .any all listed=[]→σ=[]:=by intro listed σ mY CJ pP hr;cases σ with | nil=>rfl | cons i r =>exfalso;have hif:=(pP i).1 (by simp);(have ca:i<all.size:=by rw [← mY]; exact (dN.1 hif).1);(have:i∈Region.ready .any all listed:=by refine mem_ready.2 ⟨by simp [kU,hif],all[i],ch ca,fun e he hb=>?_⟩;have XI:=(pO fU (ch ca)).1 e he hb;(have hs:e.on<listed.size:=by omega);cases hv:listed[e.on] with | true=>simp [kU,ch hs,hv] | false =>have:e.on∈i :: r:=(pP e.on).2 (by rw [ch hs,hv]);(rcases cb.1 this with h | h);(·omega);have:=List.rel_of_pairwise_cons CJ h; omega);rw [hr] at this; cases this
 induction fuel with | zero =>(intro listed σ mY o8 hlen CJ pP E w a st hs h hq;have hσ:σ=[]:=cC.1 (by omega);subst hσ;refine⟨?_,hq _ _ rfl ⟨E,st,hs,iC.refl E w,h⟩⟩;cases hr:Region.ready .any all listed with | nil=>rfl | cons j l =>(have hj:j∈Region.ready .any all listed:=by rw [hr]; simp);obtain⟨h0,o,ho,-⟩:=mem_ready.1 hj;(have ca:j<listed.size:=by rw [mY]; exact (dN.1 ho).1);have:j∈([]:List Nat):=(pP j).2 (by rw [ch ca]; congr 1;simpa [kU,ch ca] using h0);cases this) | succ fuel ih =>intro listed σ mY o8 hlen CJ pP E w a st hs h hq;refine⟨fun hr=>?_,fun i hi=>?_⟩;(·have:=done listed σ mY CJ pP hr;subst this;exact hq _ _ rfl ⟨E,st,hs,iC.refl E w,h⟩);obtain⟨h0,o,ho,Ye⟩:=mem_ready.1 hi;(have ca:i<listed.size:=by rw [mY]; exact (dN.1 ho).1);(have hif:listed[i]?=some false:=by rw [ch ca]; congr 1;simpa [kU,ch ca] using h0);obtain⟨σ1,σ2,rfl⟩:=List.append_of_mem ((pP i).2 hif);rw [aqz] at CJ;obtain⟨tS,E9,Yf⟩:=CJ;rw [List.pairwise_cons] at E9;have lF:=Ae ho (σ1:=σ1) (fun k hk x hx=>by have hki:k<i:=Yf k hk i (by simp);(rcases (pO fU ho).2.2 k x hki hx with hw | hw);(·exfalso;have h1:=hw.elim (fun hw=>vf hw Ye) fun hw=>IU fU o8 mY i o ho Ye k hw;have h2:=(pP k).1 (by simp [hk]);rw [kU,h2] at h1;cases h1);exact hw) h;refine F1 ht hs ho lF ?_;rintro v w' ⟨E',st',h1,h2,h3⟩;refine ih (listed.setIfInBounds i true) (σ1++σ2) (by simpa using mY) ?_ ?_ ?_ ?_ h1 h3 fun a' w'' hd ⟨Fe,XX,h4,h5,h6⟩=>hq _ _ (hd.trans (put_defers _ _ _)) ⟨Fe,XX,h4,h2.trans h5,h6⟩;(·intro j z hj hz e he hb;by_cases hji:j=i;(·subst hji;rw [ho] at hz; cases hz;exact getD_set_true (Ye e he hb));rw [getD_set_ne false (fun e=>hji e.symm)] at hj;exact getD_set_true (o8 j z hj hz e he hb));(·simp at hlen ⊢; omega);(·rw [aqz];exact⟨tS,E9.2,fun x hx y hy=>Yf x hx y (by simp [hy])⟩);intro j;rw [Array.getElem?_setIfInBounds];by_cases hji:i=j;(·subst hji;rw [if_pos rfl];constructor;(·intro hj;(rcases ew.1 hj with h | h);(·have:=Yf i h i (by simp); omega);have:=E9.1 i h; omega);split;(·intro h; cases h);intro h; cases h);rw [if_neg hji,← pP j];simp only [ew,cb];constructor;(·rintro (h | h);(·exact .inl h);exact .inr (.inr h));rintro (h | h | h);(·exact .inl h);(·exact absurd h.symm hji);exact .inr h

def runM (P:Program) (tt:Table) (all:Array Oper) (base:Nat):List Oper→List Pl→St→(St→Prop)→Prop
 | [],_,st,K=>K st
 | o :: r,p :: ps,st,K=>fH P tt all base o p st fun st'=>runM P tt all base r ps st' K
 | _ :: _,[],_,_=>False
@[congr] theorem Yg {base Wj:Nat} {l:List Oper} {ps:List Pl} {st st':St} {K:St→Prop} (hb:base=Wj) (h:st=st'):runM P tt all base l ps st K=runM P tt all Wj l ps st' K:=by rw [hb,h]
theorem OU {K:St→Prop}:∀ {l:List Oper} {n:Nat} {st:St},(∀ k x,l[k]?=some x→all[n+k]?=some x)→runM P tt all base l (plan.drop n) st K→F2 P tt all plan base (List.range' n l.length) st K
 | [],n,st,_,h=>h
 | o :: r,n,st,ef,h=>by
  have ho:all[n]?=some o:=ef 0 o rfl
  rw [ay,aqi,F2,ho]
  dsimp only
  cases hd:plan.drop n with
  | nil=>rw [hd] at h; exact h.elim
  | cons p ps =>
   rw [hd] at h
   have hp:rN plan n=p:=by rw [rN,← ud,hd]; rfl
   have TQ:ps=plan.drop (n+1):=by rw [← apO,hd]; rfl
   rw [hp]
   subst TQ
   exact qp (fun s hs=>OU (fun k x hk=>by have:=ef (k+1) x (by simpa using hk); rwa [show n+(k+1)=n+1+k by omega] at this) hs) h

theorem dr.ab7 {E:Env} {w:World} {a:Act} {st:St} (hs:dr E w a st) (m:Nat):dr E w a { st with mem:=st.mem++List.replicate m .hole }:=by
 have get:∀ {k:Nat} {B:bm},(st.mem++List.replicate m .hole)[k]?=some B→st.mem[k]?=some B∨(B=bm.hole∧st.mem.length≤k):=fun {k B} h=>by (rcases bL k st.mem.length with hk | hk);(·rw [bF hk] at h; exact .inl h);rw [aW hk,ap0] at h;split at h;(·cases h; exact .inr ⟨rfl,hk⟩);cases h
 refine⟨hs.F,hs.lt,fun k B hk=>?_,fun k hk=>hs.top k (by simp at hk; omega),fun k B hk v hv=>?_,hs.apart,hs.fr⟩;·(rcases get hk with h | ⟨rfl,fN⟩);(·exact hs.mem k B h);exact fun v=>hs.top k fN v
 rcases get hk with h | ⟨rfl,fN⟩
 ·exact hs.dV k B h v hv
 exact hs.top k fN v

theorem pQ (ht:TT P tt) (hm:P.follows .mixedOrders=true) {ρ:Option Nat} {n0:Nat} {st:St} {Q:Exit→St→Prop} (plan:List Pl) (m:Nat) {id:Nat} {ops:Array Oper} (fU:rO ops plan=true)
  (h:runM P tt ops st.mem.length ops.toList plan { st with mem:=st.mem++List.replicate m .hole } (Q .normal)):eg P ρ n0 (.region id ops true) st Q:=fun E0 w0 h0 E w a he hs CC=>by
 refine wpIn_region_any hm ?_
 have hd:dr E { w with drawn:=w.drawn+1 } a { st with mem:=st.mem++List.replicate m .hole }:=(hs.drew (w:=w)).ab7 m
 have hI:=OU (all:=ops) (plan:=plan) (n:=0) (l:=ops.toList) (fun k x hk=>by rw [bE]; simpa using hk) h
 rw [← aqy] at hI
 refine F3 (P:=P) (tt:=tt) ht fU ops.size _ (List.range ops.toList.length) (by simp) (fun j z hj=>by simp [kU,aqE] at hj; split at hj <;> simp at hj) (by simp) (List.pairwise_lt_range) (fun i=>?_) hd hI fun a' w' hdf ⟨E',st',h1,h2,h3⟩=>⟨E',st',h1,(he.trans (iC.drew E w)).trans h2,?_,h3⟩
 ·simp only [alf,aqE]
  simp
 rw [hdf]; exact (CC.Mf (iC.drew E w)).Mf h2
theorem m7 (ht:TT P tt) (hm:P.follows .mixedOrders=true) {ρ:Option Nat} {n0:Nat} {st:St} {Q:Exit→St→Prop} (plan:List Pl) (m:Nat) {id:Nat} {ops:Array Oper} {y:Code} (fU:rO ops plan=true)
  (h:∀ K:St→Prop,(∀ st',eg P ρ n0 y st' Q→K st')→runM P tt ops st.mem.length ops.toList plan { st with mem:=st.mem++List.replicate m .hole } K):eg P ρ n0 (.seq (.region id ops true) y) st Q :=
 bC (pQ ht hm plan m fU (h (fun st'=>eg P ρ n0 y st' Q) fun _ h=>h))
theorem l4 (ht:TT P tt) (hm:P.follows .mixedOrders=true) {ρ:Option Nat} {n0:Nat} {st:St} {Q:Exit→St→Prop} (plan:List Pl) (m:Nat) {id:Nat} {ops:Array Oper} (fU:rO ops plan=true)
  (h:∀ K:St→Prop,(∀ st',Q .normal st'→K st')→runM P tt ops st.mem.length ops.toList plan { st with mem:=st.mem++List.replicate m .hole } K):eg P ρ n0 (.region id ops true) st Q :=
 pQ ht hm plan m fU (h (Q .normal) fun _ h=>h)
end
end Go.Eng
end

section
namespace Go.Eng
variable [bg]
open Go.RowKit (Below)

def qq:bm→Bool
 | .rows _ _ _=>true
 | .uR _ _ _=>true
 | .dead=>true
 | .hole=>true
 | _=>false

theorem bz.live {P:Program} {f:FuncId} {vs vs':List V} {b v s l:Nat} {bV:List bm} (hp:gx [] vs=some vs') (h:bz P f vs' [] (.ms b v s l) bV) (hm:bV.all qq=true) (mem:List bm) :
  bz P f vs mem (.ms (mem.length+b) v s l) (mem++bV):=by
 refine⟨h.1,fun E w xs hs hx=>?_⟩;obtain⟨Mg,hk⟩:=va (mem:=mem) hp;have h1:=mF hs (keys:=[]) hx Mg (by rw [hk]; simp);have hE:(E.qb w []).pure=⟨E.F,fun _ _=>none,E.gl⟩:=by refine Env.LW (funext fun ad=>?_) rfl;simp only [Env.pure,Env.qb];cases hh:E.F ad <;> simp
 rw [hE] at h1;have tS:dr ⟨E.F,fun _ _=>none,E.gl⟩ w { tmps := #[],defers:=[] } { fr:=[],mem:=[] } := ⟨hs.F,(fun k v g e c h=>by cases h),(fun k B h=>by simp at h),(fun k _ v=>rfl),(fun k B h=>by simp at h),(fun k k' v v' g e c e' c' h=>by cases h),.nil _⟩;refine (h.2 _ w xs tS h1).mono ?_;rintro en w' ⟨E',x,rfl,iz,pC,hr⟩;have pb:∀ k v g e c,E'.cI k v=some (g,e,c)→w.heap.size≤g:=fun k v g e c hb=>by (rcases iz.cI _ _ _ _ _ hb with ⟨_,_,_,_,h⟩ | h);(·cases h);exact h
 have hold:∀ b,b<w.heap.size→w'.heap[b]?=w.heap[b]?:=fun b hb=>iz.heap b hb fun _ _ _ _ h=>by cases h
 have hFo:∀ ad y,E'.F ad=some y→E.F ad=some y∨w.heap.size≤ad.block:=fun ad y hy=>by (rcases iz.F _ _ hy with h | h | ⟨_,_,_,_,h⟩);(·exact .inl h);(·exact .inr h);cases h
 have oS:∀ k v,k<mem.length→(⟨E'.F,fun k v=>if k<mem.length then E.cI k v else E'.cI (k-mem.length) v,E'.gl⟩:Env).cI k v=E.cI k v:=fun k v hk=>if_pos hk;have uS:∀ k v,mem.length≤k→(⟨E'.F,fun k v=>if k<mem.length then E.cI k v else E'.cI (k-mem.length) v,E'.gl⟩:Env).cI k v=E'.cI (k-mem.length) v:=fun k v hk=>if_neg (by omega);generalize N2:(⟨E'.F,fun k v=>if k<mem.length then E.cI k v else E'.cI (k-mem.length) v,E'.gl⟩:Env)=E2 at oS uS;have kH:E2.F=E'.F:=by rw [← N2]
 have Cv:E2.pure=E'.pure:=Env.LW kH rfl;have hle:E.le E2:=⟨fun ad y hy=>by rw [kH]; exact iz.le.F _ _ hy,fun k v t hk=>by (rcases bL k mem.length with fN | fN);(·rw [oS k v fN]; exact hk);rw [hs.top k fN v] at hk; cases hk⟩;have get:∀ {k:Nat} {B:bm},(mem++bV)[k]?=some B→(k<mem.length∧mem[k]?=some B)∨(mem.length≤k∧bV[k-mem.length]?=some B):=fun {k B} h=>by (rcases bL k mem.length with hk | hk);(·rw [bF hk] at h; exact .inl ⟨hk,h⟩);rw [aW hk] at h; exact .inr ⟨hk,h⟩
 refine⟨E2,x,rfl,⟨hle,fun k v g e c hk=>?_,fun ad y hy=>?_,iz.os,iz.tape,iz.output,iz.size,fun b hb _=>hold b hb⟩,⟨fun ad y hy=>pC.F _ _ (by rw [← kH]; exact hy),fun k v g e c hk=>?_,fun k B hk=>?_,fun k hk v=>?_,fun k B hk v hv=>?_,fun k k' v v' g e1 c1 e2 c2 h5 h6=>?_,.nil _⟩,?_⟩;·(rcases bL k mem.length with fN | fN);(·rw [oS k v fN] at hk; exact .inl ⟨k,v,e,c,hk⟩);rw [uS k v fN] at hk; exact .inr (pb _ _ _ _ _ hk)
 ·rw [kH] at hy;(rcases hFo ad y hy with h | h);(·exact .inl h);exact .inr (.inl h)
 ·(rcases bL k mem.length with fN | fN);(·rw [oS k v fN] at hk; have:=hs.lt _ _ _ _ _ hk; have:=iz.size; omega);rw [uS k v fN] at hk; exact pC.lt _ _ _ _ _ hk
 ·(rcases get hk with ⟨fN,hB⟩ | ⟨fN,hB⟩);(·refine (hs.mem k B hB).mono hle (fun v hv=>by rw [oS k v fN]; exact hv) (fun g e c hb=>hold g (hs.lt _ _ _ _ _ hb)) fun g e c o hb hn=>?_;rw [kH];cases hy:E'.F ⟨g,o,none⟩ with | none=>rfl | some y =>(rcases hFo _ y hy with h | h);(·rw [hn] at h; cases h);have:=hs.lt _ _ _ _ _ hb; simp at h; omega);have hl:=a7.1 hm B (aB hB);have h0:=pC.mem _ B hB;cases B with | hole=>(exact fun v=>by rw [uS k v fN]; exact h0 v) | dead=>trivial | box cs=>simp [qq] at hl | loop s p fr ps a b=>simp [qq] at hl | map dO clock=>simp [qq] at hl | jO m since seen last=>simp [qq] at hl | nP s pos=>simp [qq] at hl | oa=>simp [qq] at hl | rows v e rs =>((rcases h0 with ⟨h1,h2⟩ | ⟨g,T,ys,c,h1,h2,h3,h4,h5,h6⟩);(·exact .inl ⟨h1,by rw [uS k v fN]; exact h2⟩);exact .inr ⟨g,T,ys,c,by rw [uS k v fN]; exact h1,h2,h3,h4,by rw [Cv]; exact h5,fun o=>by rw [kH]; exact h6 o⟩) | uR v e rs =>(rcases h0 with ⟨h1,h2⟩ | ⟨g,c,h1,h2,h3⟩);(·exact .inl ⟨h1,by rw [uS k v fN]; exact h2⟩);exact .inr ⟨g,c,by rw [uS k v fN]; exact h1,h2,by rw [Cv,kH]; exact h3⟩
 ·dsimp only at hk;simp only [aQ] at hk;rw [uS k v (by omega)]; exact pC.top _ (by dsimp only; omega) v
 ·(rcases get hk with ⟨fN,hB⟩ | ⟨fN,hB⟩);(·rw [oS k v fN]; exact hs.dV k B hB v hv);rw [uS k v fN]; exact pC.dV _ B hB v hv
 ·(rcases bL k mem.length with je | je <;> rcases bL k' mem.length with l0 | l0);(·rw [oS k _ je] at h5; rw [oS k' _ l0] at h6;exact hs.apart _ _ _ _ _ _ _ _ _ h5 h6);(·rw [oS k _ je] at h5; rw [uS k' _ l0] at h6;have:=hs.lt _ _ _ _ _ h5; have:=pb _ _ _ _ _ h6; omega);(·rw [uS k _ je] at h5; rw [oS k' _ l0] at h6;have:=hs.lt _ _ _ _ _ h6; have:=pb _ _ _ _ _ h5; omega);rw [uS k _ je] at h5; rw [uS k' _ l0] at h6;have:=pC.apart _ _ _ _ _ _ _ _ _ h5 h6;omega
 cases hr with | ms _ b v s l g e c a cap hb hl h0 hc=>exact .ms _ _ _ _ _ g e c _ _ (by rw [uS _ v (by omega),ez]; exact hb) hl h0 hc | jl=>exact .jl _ _ _ _

theorem dr.vg {E:Env} {w:World} {a:Act} {st:St} (hs:dr E w a st) (v e:Nat):dr E w a { st with mem:=st.mem++[.rows v e []] }:=by
 have get:∀ {k:Nat} {B:bm},(st.mem++[bm.rows v e []])[k]?=some B→st.mem[k]?=some B∨(B=bm.rows v e []∧st.mem.length≤k):=fun {k B} h=>by (rcases bL k st.mem.length with hk | hk);(·rw [bF hk] at h; exact .inl h);rw [aW hk] at h;cases fN:k-st.mem.length with | zero=>rw [fN] at h; cases h; exact .inr ⟨rfl,hk⟩ | succ j=>rw [fN] at h; cases h
 refine⟨hs.F,hs.lt,fun k B hk=>?_,fun k hk=>hs.top k (by simp at hk; omega),fun k B hk v hv=>?_,hs.apart,hs.fr⟩;·(rcases get hk with h | ⟨rfl,fN⟩);(·exact hs.mem k B h);exact .inl ⟨rfl,hs.top k fN v⟩
 rcases get hk with h | ⟨rfl,fN⟩
 ·exact hs.dV k B h v hv
 exact hs.top k fN v
theorem dr.F4 {E:Env} {w:World} {a:Act} {st:St} (hs:dr E w a st) {i:Nat} (b v:Nat) (h:st.fr[i]?=some (.sc (.slice none 0 0))):dr E w a { st with fr:=st.fr.set i (.ms b v 0 0) }:=hs.TB h
theorem mK {P:Program} {ρ:Option Nat} {n0:Nat} {c:Code} {st:St} {Q:Exit→St→Prop} (i v e:Nat) (h0:st.fr[i]?=some (.sc (.slice none 0 0))) (h:eg P ρ n0 c { fr:=st.fr.set i (.ms st.mem.length v 0 0),mem:=st.mem++[.rows v e []] } Q):eg P ρ n0 c st Q :=
 rH (fun E w a hs=>(hs.F4 (i:=i) st.mem.length v h0).vg v e) h
end Go.Eng
end

section
namespace Go.Eng
variable [bg]
open Go.RowKit (Below)

theorem Af {E E':Env} {w w':World} {mem bV l:List bm} (hs:dr E w { tmps := #[],defers:=[] } { fr:=[],mem:=mem++l }) (ahW:iC (E.cut mem.length) w E' w') (N1:dr E' w' { tmps := #[],defers:=[] } { fr:=[],mem:=bV })
  (hlen:bV.length=mem.length) (hb:bV.all (aJ mem.length)=true):∃ E2,iC E w E2 w'∧dr E2 w' { tmps := #[],defers:=[] } { fr:=[],mem:=bV++l }∧(E'.cut mem.length).le E2:=by
 have tS:=N1.cut (n:=mem.length) rfl (by rw [aX (by dsimp only; omega)]; exact hb);rw [aX (by dsimp only; omega)] at tS;dsimp only at tS;have F5:∀ k,mem.length≤k→∀ v,(E.cut mem.length).cI k v=none:=fun k hk v=>if_neg (by omega);have iz:iC (E.cut mem.length) w (E'.cut mem.length) w':=ahW.cut F5;have o7:∀ k v t,(E.cut mem.length).cI k v=some t→k<mem.length∧E.cI k v=some t:=fun k v t h=>by (rcases bL k mem.length with hk | hk);(·exact⟨hk,(if_pos hk).symm.trans h⟩);rw [F5 k hk] at h; cases h
 have ab9:∀ k v t,(E'.cut mem.length).cI k v=some t→k<mem.length:=fun k v t h=>by (rcases bL k mem.length with hk | hk);(·exact hk);have h0:(E'.cut mem.length).cI k v=none:=if_neg (by omega);rw [h0] at h; cases h
 generalize ang:E'.cut mem.length=Fe at tS iz ab9;have oS:∀ k v,k<mem.length→(⟨Fe.F,fun k v=>if k<mem.length then Fe.cI k v else E.cI k v,Fe.gl⟩:Env).cI k v=Fe.cI k v:=fun k v hk=>if_pos hk;have uS:∀ k v,mem.length≤k→(⟨Fe.F,fun k v=>if k<mem.length then Fe.cI k v else E.cI k v,Fe.gl⟩:Env).cI k v=E.cI k v:=fun k v hk=>if_neg (by omega);generalize N2:(⟨Fe.F,fun k v=>if k<mem.length then Fe.cI k v else E.cI k v,Fe.gl⟩:Env)=E2 at oS uS;have kH:E2.F=Fe.F:=by rw [← N2]
 have o8:∀ k v t,k<mem.length→E.cI k v=some t→(E.cut mem.length).cI k v=some t:=fun k v t hk h=>(if_pos hk).trans h;have hle:E.le E2:=⟨fun ad y hy=>by rw [kH]; exact iz.le.F _ _ hy,fun k v t hk=>by (rcases bL k mem.length with fN | fN);(·rw [oS k v fN]; exact iz.le.cI _ _ _ (o8 _ _ _ fN hk));rw [uS k v fN]; exact hk⟩;have pf:Fe.le E2:=⟨fun ad y hy=>by rw [kH]; exact hy,fun k v t hk=>by rw [oS k v (ab9 _ _ _ hk)]; exact hk⟩;have zV:∀ k v g e c,mem.length≤k→E.cI k v=some (g,e,c)→∀ k0 v0 e0 c0,(E.cut mem.length).cI k0 v0≠some (g,e0,c0):=fun k v g e c hk hb k0 v0 e0 c0 h=>by obtain⟨h1,h2⟩:=o7 _ _ _ h;have:=hs.apart _ _ _ _ _ _ _ _ _ h2 hb;omega
 have get:∀ {k:Nat} {B:bm},(bV++l)[k]?=some B→(k<mem.length∧bV[k]?=some B)∨(mem.length≤k∧(mem++l)[k]?=some B):=fun {k B} h=>by (rcases bL k mem.length with hk | hk);(·rw [bF (by omega)] at h; exact .inl ⟨hk,h⟩);rw [aW (by omega),hlen] at h;exact .inr ⟨hk,by rw [aW hk]; exact h⟩
 refine⟨E2,⟨hle,fun k v g e c hk=>?_,fun ad y hy=>?_,iz.os,iz.tape,iz.output,iz.size,fun b hb ep=>iz.heap b hb fun k v e c h=>ep _ _ _ _ (o7 _ _ _ h).2⟩,⟨fun ad y hy=>tS.F _ _ (by rw [← kH]; exact hy),fun k v g e c hk=>?_,fun k B hk=>?_,fun k hk v=>?_,fun k B hk v hv=>?_,fun k k' v v' g e1 c1 e2 c2 h5 h6=>?_,.nil _⟩,pf⟩;·(rcases bL k mem.length with fN | fN);(·rw [oS k v fN] at hk;(rcases iz.cI _ _ _ _ _ hk with ⟨k0,v0,e0,c0,h⟩ | h);(·exact .inl ⟨_,_,_,_,(o7 _ _ _ h).2⟩);exact .inr h);rw [uS k v fN] at hk; exact .inl ⟨_,_,_,_,hk⟩
 ·rw [kH] at hy;(rcases iz.F _ _ hy with h | h | ⟨k0,v0,e0,c0,h⟩);(·exact .inl h);(·exact .inr (.inl h));exact .inr (.inr ⟨_,_,_,_,(o7 _ _ _ h).2⟩)
 ·(rcases bL k mem.length with fN | fN);(·rw [oS k v fN] at hk; exact tS.lt _ _ _ _ _ hk);rw [uS k v fN] at hk; exact qL (hs.lt _ _ _ _ _ hk) iz.size
 ·(rcases get hk with ⟨fN,hB⟩ | ⟨fN,hB⟩);(·exact (tS.mem k B hB).mono pf (fun v hv=>by rw [oS k v fN]; exact hv) (fun _ _ _ _=>rfl) fun g e c o _ hn=>by rw [kH]; exact hn);refine (hs.mem k B hB).mono hle (fun v hv=>by rw [uS k v fN]; exact hv) (fun g e c hb=>iz.heap g (hs.lt _ _ _ _ _ hb) fun k0 v0 e0 c0 h=>zV _ _ _ _ _ fN hb _ _ _ _ h) fun g e c o hb hn=>?_;rw [kH];cases hy:Fe.F ⟨g,o,none⟩ with | none=>rfl | some y =>(rcases iz.F _ _ hy with h | h | ⟨k0,v0,e0,c0,h⟩);(·have h':E.F ⟨g,o,none⟩=some y:=h;rw [hn] at h'; cases h');(·have:=hs.lt _ _ _ _ _ hb; simp at h; omega);exact absurd h (zV _ _ _ _ _ fN hb _ _ _ _)
 ·dsimp only at hk;simp only [aQ] at hk;rw [uS k v (by omega)]; exact hs.top k (by simp; omega) v
 ·(rcases get hk with ⟨fN,hB⟩ | ⟨fN,hB⟩);(·rw [oS k v fN]; exact tS.dV k B hB v hv);rw [uS k v fN]; exact hs.dV k B hB v hv
 have mixed:∀ k k' v v' g e1 c1 e2 c2,k<mem.length→mem.length≤k'→Fe.cI k v=some (g,e1,c1)→E.cI k' v'=some (g,e2,c2)→k=k':=fun k k' v v' g e1 c1 e2 c2 hk iQ h h'=>by (rcases iz.cI _ _ _ _ _ h with ⟨k0,v0,e0,c0,h0⟩ | h0);(·exact absurd h0 (zV _ _ _ _ _ iQ h' _ _ _ _));have:=hs.lt _ _ _ _ _ h'; omega
 rcases bL k mem.length with je | je <;> rcases bL k' mem.length with l0 | l0
 ·rw [oS k _ je] at h5; rw [oS k' _ l0] at h6;exact tS.apart _ _ _ _ _ _ _ _ _ h5 h6
 ·rw [oS k _ je] at h5; rw [uS k' _ l0] at h6;exact mixed _ _ _ _ _ _ _ _ _ je l0 h5 h6
 ·rw [uS k _ je] at h5; rw [oS k' _ l0] at h6;exact (mixed _ _ _ _ _ _ _ _ _ l0 je h6 h5).symm
 rw [uS k _ je] at h5; rw [uS k' _ l0] at h6;exact hs.apart _ _ _ _ _ _ _ _ _ h5 h6

theorem F6 {E:Env} {w:World} {mem l:List bm} (hs:dr E w { tmps := #[],defers:=[] } { fr:=[],mem:=mem++l }) (hb:mem.all (aJ mem.length)=true):dr (E.cut mem.length) w { tmps := #[],defers:=[] } { fr:=[],mem:=mem }:=by have h:=hs.cut (n:=mem.length) rfl (by rw [qM]; exact hb);rwa [qM] at h
theorem cY.below {E:Env} {n:Nat} {vs:List V} {xs:List Value} (h:cY E vs xs) (hb:vs.all (aA n)=true):cY (E.cut n) vs xs :=
 ⟨h.1,fun i v x hv hx=>jH (h.2 i v x hv hx) (a7.1 hb v (aB hv))⟩

theorem bz.frame {P:Program} {f:FuncId} {vs:List V} {r:V} {mem bV:List bm} (h:bz P f vs mem r bV) (hv:vs.all (aA mem.length)=true) (hm:mem.all (aJ mem.length)=true) (hr:aA mem.length r=true) (hlen:bV.length=mem.length) (Yh:bV.all (aJ mem.length)=true) (l:List bm) :
  bz P f vs (mem++l) r (bV++l):=by refine⟨h.1,fun E w xs hs hx=>?_⟩;refine (h.2 _ w xs (F6 hs hm) (hx.below hv)).mono ?_;rintro en w' ⟨E',x,rfl,iz,pC,ni⟩;obtain⟨E2,h1,h2,h3⟩:=Af hs iz pC hlen Yh;exact⟨E2,x,rfl,h1,h2,(jH ni hr).mono h3⟩
theorem Ie.frame {P:Program} {k:Nat} {vs:List V} {mem bV:List bm} {b:Bool} (h:Ie P k vs mem b bV) (hk:k<mem.length) (hv:vs.all (aA mem.length)=true) (hm:mem.all (aJ mem.length)=true) (hlen:bV.length=mem.length) (Yh:bV.all (aJ mem.length)=true) (l:List bm) :
  Ie P k vs (mem++l) b (bV++l):=by intro E w xs lp e c hs hx hb;obtain⟨fn,tmps,assign,body,h1,h2⟩:=h _ w xs lp e c (F6 hs hm) (hx.below hv) ((if_pos hk).trans hb);refine⟨fn,tmps,assign,body,h1,h2.mono ?_⟩;rintro en w' ⟨E',rfl,iz,pC⟩;obtain⟨E2,h3,h4,-⟩:=Af hs iz pC hlen Yh;exact⟨E2,rfl,h3,h4⟩
mutual
theorem oZ {n m:Nat} (h:n≤m):∀ {v:V},aA n v=true→aA m v=true
 | .ms _ _ _ _,hv=>by simp [aA] at hv ⊢; omega
 | .ptr _ _,hv=>by simp [aA] at hv ⊢; omega
 | .ke _,hv=>by simp [aA] at hv ⊢; omega
 | .mp _,hv=>by simp [aA] at hv ⊢; omega
 | .iy _ _ _ _,hv=>by simp [aA] at hv ⊢; omega
 | .undef,_=>rfl
 | .sc _,_=>rfl
 | .slice _,_=>rfl
 | .fa _,_=>rfl
 | .gn,_=>rfl
 | .full _,_=>rfl
 | .agg cs,hv=>by simp only [aA] at hv ⊢; exact nn h hv
 | .eV cs,hv=>by simp only [aA] at hv ⊢; exact nn h hv
 | .cX f a b,hv=>by simp only [aA,aL] at hv ⊢; exact⟨nn h hv.1,nn h hv.2⟩
theorem nn {n m:Nat} (h:n≤m):∀ {l:List V},aK n l=true→aK m l=true
 | [],_=>rfl
 | c :: r,hv=>by simp only [aK,aL] at hv ⊢; exact⟨oZ h hv.1,nn h hv.2⟩
end
theorem ya {n m:Nat} (h:n≤m) {B:bm} (hv:aJ n B=true):aJ m B=true:=by cases B with | box cs=>simp only [aJ,a7] at hv ⊢; exact fun x hx=>oZ h (hv x hx) | loop a b fr c d e=>simp only [aJ,a7] at hv ⊢; exact fun x hx=>oZ h (hv x hx) | map dO c=>simp only [aJ,a7] at hv ⊢; exact fun x hx=>oZ h (hv x hx) | jO m s se l=>simp only [aJ,decide_eq_true_eq] at hv ⊢; omega | _=>rfl
theorem qs {n m:Nat} (h:n≤m) {l:List bm} (hv:l.all (aJ n)=true):l.all (aJ m)=true:=a7.2 fun x hx=>ya h (a7.1 hv x hx)
theorem aca:(false==true)=false:=rfl
theorem acb:(true==false)=false:=rfl
theorem TR (mem:List bm) (ts:Array TypeId) (P:Program) (r:List V):wR mem ts P [.slice r]=none:=rfl
theorem TS (mem:List bm) (ts:Array TypeId) (P:Program) (b v s l:Nat):wR mem ts P [.ms b v s l]=none:=rfl
theorem TU (mem:List bm) (ts:Array TypeId) (P:Program) (x:Value):wR mem ts P [.sc x]=none:=rfl
theorem c6 {P:Program} {tt:Table} {all:Array Oper} {base:Nat}:∀ (k:Nat) {l:List Oper} {ps:List Pl} {st:St} {K:St→Prop},k≤l.length→k≤ps.length →
  (∀ K1:St→Prop,(∀ s,runM P tt all base (l.drop k) (ps.drop k) s K→K1 s)→runM P tt all base (l.take k) (ps.take k) st K1)→runM P tt all base l ps st K
 | 0,l,ps,st,K,_,_,h=>by
  have:=h (fun s=>runM P tt all base l ps s K) fun s hs=>hs
  simpa [runM] using this
 | k+1,[],ps,st,K,hl,_,h=>by simp at hl
 | k+1,o :: r,[],st,K,_,hp,h=>by simp at hp
 | k+1,o :: r,p :: ps,st,K,hl,hp,h=>by
  simp only [runM]
  have h1:=h (fun s=>runM P tt all base (r.drop k) (ps.drop k) s K) fun s hs=>hs
  simp only [gq,runM] at h1
  exact qp (fun s hs=>c6 k (by simpa using hl) (by simpa using hp) fun K1 fq=>CK hs fq) h1
where
 CK {P:Program} {tt:Table} {all:Array Oper} {base:Nat}:∀ {l:List Oper} {ps:List Pl} {st:St} {K K':St→Prop},runM P tt all base l ps st K→(∀ s,K s→K' s)→runM P tt all base l ps st K'
  | [],_,_,_,_,h,hk=>hk _ h
  | o :: r,[],_,_,_,h,_=>by simp [runM] at h
  | o :: r,p :: ps,st,K,K',h,hk=>by
   simp only [runM] at h ⊢
   exact qp (fun s hs=>CK hs hk) h
end Go.Eng
end

section
namespace Go.Eng
variable [bg]
theorem oj {α:Type} {l:List α} {t:Nat} {x:α} (h:l[t]?=some x):l.set t x=l:=by
 apply dy;intro i;rw [bK];split;·rename_i hi; subst hi;rw [if_pos (az.1 h).1,h]
 rfl
section
variable {P:Program} {ρ:Option Nat} {n0:Nat} {Q:Exit→St→Prop} {c:Code} {st:St}
theorem dr.ue {E:Env} {w:World} {a:Act} (hs:dr E w a st) {k t:Nat} {cs:List V} (hk:st.mem[k]?=some (.box cs)) (hp:cs.all iH=true) (h0:st.fr[t]?=some (.ptr k 0)) :
  ∃ E',dr E' w a { fr:=st.fr.set t (.fa cs),mem:=st.mem.set k .dead }∧iC E w E' w:=by
 obtain⟨g,T,xs,hb,hh,hr,hf⟩:=hs.mem k _ hk;have hF:∀ ad x,E.F ad=some x→(if ad.block=g then w.cell? ad else E.F ad)=some x:=fun ad x h=>by split;(·exact hs.F ad x h);exact h
 obtain⟨E',hE⟩:∃ E':Env,E' = { F:=fun ad=>if ad.block=g then w.cell? ad else E.F ad,cI:=E.cI,gl:=E.gl.mono hF }:=⟨_,rfl⟩;have eF:∀ ad,E'.F ad=if ad.block=g then w.cell? ad else E.F ad:=fun ad=>by rw [hE]
 have eb:E'.cI=E.cI:=by rw [hE]
 have hle:E.le E':=⟨fun ad x h=>by rw [eF]; exact hF ad x h,fun _ _ _ h=>by rw [eb]; exact h⟩;obtain⟨x,hx,hrx⟩:=hs.fr.get h0;have hxv:x = .pointer (some ⟨g,0,none⟩):=by cases hrx with | ptr _ _ _ g' e c kc=>rw [hb] at kc; cases kc; rfl
 subst hxv;have hpu:=cY.pure hr hp;have ni:dh E' (.fa cs) (.pointer (some ⟨g,0,none⟩)):=by (have h1:∀ j,(Addr.mk g 0 none).add j=⟨g,j,none⟩:=fun j=>by unfold Addr.add; by_cases hj:j=0 <;> simp [hj]);refine .fa _ _ _ (fun j=>(xs[j]?).getD undef) (fun j c hj=>?_) fun j c hj=>?_;(·obtain⟨y,hy,-⟩:=hpu.get hj;rw [h1,eF,if_pos rfl,oP hh];simp only [fC] at hy;rw [hy]; rfl);obtain⟨y,hy,N8⟩:=hpu.get hj;simp only [fC] at hy;rw [hy];exact N8.mono (Env.ld hle)
 have yW:cY E' (st.fr.set t (.fa cs)) a.tmps.toList:=by have:=cY.set (n:=t) (hs.fr.mono hle) ni;rwa [oj hx] at this
 refine⟨E',⟨fun ad y hy=>?_,fun k' v g' e c h=>hs.lt k' v g' e c (by rwa [eb] at h),fun k' B hB=>?_,fun k' iQ v=>?_,fun k' B hB v hv=>?_,fun k1 k2 v1 v2 g' e c e' c' q1 q2=>?_,yW⟩,?_⟩;·rw [eF] at hy;split at hy;(·exact hy);exact hs.F ad y hy
 ·rw [bK] at hB;split at hB;(·split at hB;(·cases hB; exact trivial);cases hB);rename_i ep;refine (hs.mem k' B hB).mono hle (fun v h=>by rw [eb]; exact h) (fun _ _ _ _=>rfl) fun g' e c o q1 q2=>?_;rw [eF];split;(·rename_i hg;have hg:g'=g:=hg;subst hg;exact absurd (hs.apart _ _ _ _ _ _ _ _ _ hb q1) ep);exact q2
 ·rw [eb]; exact hs.top k' (by simpa using iQ) v
 ·rw [eb];rw [bK] at hB;split at hB;(·rename_i hke;split at hB;(·cases hB;subst hke;exact hs.dV k _ hk v hv);cases hB);exact hs.dV k' B hB v hv
 ·rw [eb] at q1 q2; exact hs.apart _ _ _ _ _ _ _ _ _ q1 q2
 refine⟨hle,fun k' v g' e c h=>.inl ⟨k',v,e,c,by rwa [eb] at h⟩,fun ad y hy=>?_,rfl,rfl,rfl,aw _,fun _ _ _=>rfl⟩;rw [eF] at hy;split at hy;·rename_i hg; exact .inr (.inr ⟨k,0,0,0,by rw [hg]; exact hb⟩)
 exact .inl hy
end
theorem dr.Yi {E:Env} {w:World} {m:List bm} {k:Nat} {cs:List V} {x:Value} (hs:dr E w { tmps := #[],defers:=[] } { fr:=[],mem:=m }) (hr:dh E (.ptr k 0) x) (hk:m[k]?=some (.box cs)) (hp:cs.all iH=true) :
  ∃ E',dr E' w { tmps := #[],defers:=[] } { fr:=[],mem:=m.set k .dead }∧iC E w E' w∧dh E' (.fa cs) x:=by have h1:dr E w { tmps := #[x],defers:=[] } { fr:=[.ptr k 0],mem:=m }:=⟨hs.F,hs.lt,hs.mem,hs.top,hs.dV,hs.apart,.cons hr (.nil _)⟩;obtain⟨E',h2,h3⟩:=h1.ue (t:=0) hk hp rfl;obtain⟨y,ys,hy,OV,-⟩:=h2.fr.of_cons;cases hy;exact⟨E',⟨h2.F,h2.lt,h2.mem,h2.top,h2.dV,h2.apart,.nil _⟩,h3,OV⟩
end Go.Eng
end
