import Derived.Test.YtfbbfmcggbapoaaGreatDoorE2
import Derived.RangeFuncRecord
import Derived.OrdersIn
open Array renaming any_eq_true'→auK,foldl_toList→at6,getD_eq_getD_getElem?→kl,getElem?_eq_getElem→bP,getElem?_eq_none→atF,getElem?_eq_some_iff→dw,getElem?_replicate→auW,getElem?_setIfInBounds_ne→Du,getElem?_toList→dJ,mapM_eq_mapM_toList→aul,toArray_toList→cr,toList_append→y4
open Bool renaming and_eq_true→aJ,false_eq_true→bu,or_eq_true→dN
open Go.RowKit.Below renaming heap_alloc→dP
open List renaming all_eq_true→aN,append_nil→ah,cons_append→aw,ext_getElem?→dC,flatMap_cons→ab,flatMap_nil→ag,foldl_cons→o3,getElem?_append→n6,getElem?_append_left→bh,getElem?_append_right→aX,getElem?_cons_zero→aF,getElem?_eq_none→cH,getElem?_eq_none_iff→auX,getElem?_eq_some_iff→aA,getElem?_map→aq,getElem?_replicate→aui,getElem?_set→bR,getElem?_set_ne→cD,getElem?_set_self→eJ,getElem?_take→jV,getElem?_take_of_lt→jf,length_append→ae,length_cons→af,length_eq_zero_iff→cb,length_nil→ai,length_set→atI,length_take→lg,mapM_cons→atU,map_congr_left→lM,map_cons→bm,mem_append→eA,mem_append_left→dD,mem_append_right→eP,mem_cons→b8,mem_cons_of_mem→bj,mem_cons_self→cV,mem_map→cQ,mem_of_getElem?→aE,mem_range→atJ,nodup_cons→aus,pairwise_append→kM,pairwise_cons→aua,range'_succ→at3,range_eq_range'→auf,set_comm→apr,tail_drop→atV,take_left→qK,take_of_length_le→dX,take_succ_cons→y5
open List.cons renaming injEq→aur
open Nat renaming add_assoc→lT,add_comm→atG,add_sub_cancel_left→dQ,eq_zero_or_pos→atC,le_refl→ay,le_trans→fU,lt_of_lt_of_le→qJ,lt_or_ge→bS,zero_add→dL
open Option renaming bind_some→at2,map_eq_some_iff→aY,map_some→b9
open Option.some renaming injEq→aB
open Prod.mk renaming injEq→dn
set_option linter.all false
section
namespace Go.Eng
variable [ba]
open Go.RowKit (Below)
theorem iM {P:Program} {s:Sem Value} {w w':World} {x:Value} (h:s.run P w = .ok x w'):(do pure (Next.value (← s)):Sem Next).run P w = .ok (.value x) w':=by simp [h]
def FX (E:Env) (w:World) (a:Act) (dst:Option Tmp) (Q:St→Prop) (v:Value) (w':World):Prop:=∃ E' st',c5 E' w' (a.put dst v) st'∧gK E w E' w'∧Q st'
def WF (ρ:Option Nat):Fence := { fn:=fun _=>True,depth:=none,alive:=false,round:=ρ }
theorem Ah {ρ:Option Nat} {n:Nat} {P:Program} {f:FuncId} {xs:Array Value} {w:World} {R:Ending→World→Prop} (h:Calls P f xs w R):CallsIn (WF ρ) n P f xs w R:=by have h1:CallsIn Fence.wide n P f xs w R:=callsIn_wide.2 h;cases ρ with|none=>exact h1|some l=>exact h1.inRound l
theorem FY {n:Nat} {P:Program} {f:FuncId} {xs:Array Value} {w:World} {R:Ending→World→Prop} (h:CallsIn (WF none) n P f xs w R):Calls P f xs w R:=callsIn_wide.1 h
theorem IC {ρ:Option Nat} {n:Nat} {P:Program} {l:Nat} {f:FuncId} {tmps:Array Value} {assign body:Code} {w:World} {R:Ending→World→Prop} (h:RoundIn Fence.wide 0 P l f tmps assign body w R):RoundIn (WF ρ) n P l f tmps assign body w R:=by refine⟨trivial,fun c cs _=>?_⟩;exact h.2 c cs (room_wide _)
section
variable {P:Program} {ρ:Option Nat} {n:Nat} {o:Oper} {a:Act} {w w':World} {next:Act→World→Prop} {Q:Exit→Act→World→Prop} (qi:∀ c,o.op ≠ .defer c)
include qi
theorem df {v:Value} (h:(execOp a.eval o).run P w = .ok (.value v) w') (hn:next (a.put o.dst v) w'):o.wpIn (WF ρ) n P a w next Q:=by refine⟨fun _ _=>trivial,?_⟩;rw [Oper.semAt_eq _ _ _ qi,h];exact hn
theorem nG (h:(execOp a.eval o).run P w = .ok .skip w') (hn:next (a.put o.dst undef) w'):o.wpIn (WF ρ) n P a w next Q:=by refine⟨fun _ _=>trivial,?_⟩;rw [Oper.semAt_eq _ _ _ qi,h];exact hn
theorem ya {f:FuncId} {xs:Array Value} {R:Ending→World→Prop} (h:(execOp a.eval o).run P w = .ok (.enter f xs) w) (hc:Calls P f xs w R) (hR:∀ e w',R e w'→∃ v,e = .returned v∧next (a.put o.dst v) w') :
  o.wpIn (WF ρ) n P a w next Q:=by refine⟨fun _ _=>trivial,?_⟩;rw [Oper.semAt_eq _ _ _ qi,h];refine⟨fun h=>by simp [WF] at h,(Ah hc).mono fun e w' he=>?_⟩;obtain⟨v,rfl,hn⟩:=hR e w' he;exact hn
theorem yb {l:Nat} {f:FuncId} {tmps:Array Value} {assign body:Code} {R:Ending→World→Prop} (h:(execOp a.eval o).run P w = .ok (.round l f tmps assign body) w) (hc:RoundIn Fence.wide 0 P l f tmps assign body w R)
  (hR:∀ e w',R e w'→∃ v,e = .returned v∧next (a.put o.dst v) w'):o.wpIn (WF ρ) n P a w next Q:=by refine⟨fun _ _=>trivial,?_⟩;rw [Oper.semAt_eq _ _ _ qi,h];refine⟨fun h=>by simp [WF] at h,(IC hc).mono fun e w' he=>?_⟩;obtain⟨v,rfl,hn⟩:=hR e w' he;exact hn
end
theorem yc {P:Program} {E:Env} {w:World} {a:Act} {st:St} (hs:c5 E w a st) {f:FuncId} {vs:List V} {dst:Option Tmp} {Q:St→Prop} (h:x8 P f vs st dst Q) {xs:Array Value} (hx:cU E vs xs.toList) :
  ((callFunc f xs).run P w = .ok (.enter f xs) w∧Calls P f xs w fun e w'=>∃ v,e = .returned v∧FX E w a dst Q v w')∨∃ v,(callFunc f xs).run P w = .ok (.value v) w∧FX E w a dst Q v w:=by
 rcases h with ⟨vs',r,hp,hf,hQ⟩|⟨r,bI,hf,hQ⟩|⟨R,hf,hQ⟩|⟨r,hf,hQ⟩
 ·refine .inl ⟨hf.1 xs w,(MD hs hx hp hf).mono ?_⟩;rintro e w' ⟨E',x,rfl,fK,pY,hr⟩;exact⟨x,rfl,E',_,pY.put dst hr,fK,hQ⟩
 ·refine .inl ⟨hf.1 xs w,(hf.2 E w xs hs.bare hx).mono ?_⟩;rintro e w' ⟨E',x,rfl,fK,pY,hr⟩;exact⟨x,rfl,E',_,(hs.FV pY fK.le).put dst hr,fK,hQ⟩
 ·refine .inl ⟨hf.1 xs w,(hf.2 E w xs hs.bare hx).mono ?_⟩;rintro e w' ⟨E',x,r,bI,rfl,hR,fK,pY,hr⟩;exact⟨x,rfl,E',_,(hs.FV pY fK.le).put dst hr,fK,hQ _ _ hR⟩
 obtain⟨x,h1,h2⟩:=hf E w xs hs.F hx;exact .inr ⟨x,h1,E,_,hs.put dst h2,gK.refl E w,hQ⟩
theorem gR {P:Program} {tt:Table} (ht:TT P tt) {E:Env} {w:World} {a:Act} {st:St} (hs:c5 E w a st) {key:Nat} (hk:ir st.mem key) {o:Oper} {Q:St→Prop} (h:cY P tt key o st Q)
  {ρ:Option Nat} {n:Nat} {next:Act→World→Prop} {Q':Exit→Act→World→Prop} (hn:∀ v w',FX E w a o.dst Q v w'→next (a.put o.dst v) w'):o.wpIn (WF ρ) n P a w next Q':=by
 obtain⟨dst,op,type,pos,after,guard⟩:=o;have qi:∀ c,op ≠ .defer c:=by rintro c rfl;simp [cY,iq] at h
 unfold cY at h;dsimp only at h;split at h;·rename_i T;split at h;(·rename_i i hi;obtain⟨info,wW,-,-,z,hz,CG⟩:=ht.size T i hi;(have hr:cU E (i.zero.map V.sc) z.cells.toList:=by rw [CG];exact⟨by simp,fun k c x hc hx=>by simp only [aq,hx,b9,aB] at hc;subst hc;exact .sc _ _⟩);obtain⟨E',h1,h2,h3⟩:=hs.Ph hk hr T;refine df qi (v:=.pointer (some ⟨w.heap.size,0,none⟩)) (w':=w.alloc (.cells z.cells T (0,0))) ?_ (hn _ _ ⟨E',_,h1.put dst h3,h2,h⟩);(have YV:(zeroValue T).run P w = .ok z w:=by simp [zeroValue,eR wW,hz]);simp [execOp,Instr.alloc,YV,newVar,newRow]);exact h.elim
 ·rename_i T x;split at h;(·rename_i cs mc;obtain⟨hr,-⟩:=qf (hs.eval x) mc;obtain⟨E',h1,h2,h3⟩:=hs.Ph hk hr T;refine df qi (v:=.pointer (some ⟨w.heap.size,0,none⟩)) (w':=w.alloc (.cells (a.eval x).cells T (0,0))) ?_ (hn _ _ ⟨E',_,h1.put dst h3,h2,h⟩);simp [execOp,Instr.box,newVar,newRow]);exact h.elim
 ·split at h;(·rename_i v hv;obtain⟨x,h1,h2⟩:=vm ht hs hv;exact df qi (dp h1) (hn _ _ ⟨E,_,hs.put dst h2,gK.refl E w,h⟩));exact h.elim
 ·rename_i T len parts;split at h;(·rename_i size rs hl;obtain⟨Z,e,h1,h2,h3,h4⟩:=DQ ht (fun p _=>hs.eval p.2) hl;obtain⟨E',h5,h6,h7⟩:=hs.u6 hk (xs:=Z) (rs:=rs) (c:=len) e h2 (by omega) h4;rw [h3] at h7;exact df qi (iM h1) (hn _ _ ⟨E',_,h5.put dst h7,h6,h⟩));split at h;(·rename_i size rs hl;unfold Us at hl;split at hl;(·rename_i vs' MF;obtain⟨E1,nV,Ut,PD⟩:=hs.freeze MF;(have TY:∀ (l:List (Nat×Operand)) (us Pz:List V),us=l.map (fun p=>st.eval p.2)→ij st.mem us=some Pz→cU E1 Pz (l.map fun p=>a.eval p.2)→∀ p∈l,cT E1 (evP st.mem st.eval p.2) (a.eval p.2):=by intro l;induction l with|nil=>intro us Pz _ _ _ p hp;simp at hp|cons q r ih =>intro us Pz hu hp hr p YY;subst hu;simp only [bm,ij] at hp;split at hp;(·rename_i c' hc;split at hp;(·rename_i r' za;cases hp;obtain⟨y,ys,hy,g1,g2⟩:=hr.of_cons;simp only [bm,aur] at hy;obtain⟨rfl,rfl⟩:=hy;(rcases b8.1 YY with rfl|YY);(·unfold evP;rw [hc];exact g1);exact ih _ _ rfl za g2 p YY);cases hp);cases hp);(have rj:cU E (parts.toList.map fun p=>st.eval p.2) (parts.toList.map fun p=>a.eval p.2):=by refine⟨by simp,fun i v x hv hx=>?_⟩;simp only [aq,aY] at hv hx;obtain⟨q,hq,rfl⟩:=hv;obtain⟨q',TW,rfl⟩:=hx;rw [hq] at TW;cases TW;exact hs.eval q.2);have akh:=TY parts.toList _ _ rfl MF (PD _ rj);(have ib:ir ({ st with mem:=gu st.mem (DZ st.eval parts.toList) }:St).mem key:=by unfold ir;dsimp only;rw [ux,ua];(rcases hk with hk|hk);(·rw [hk];exact .inl rfl);exact .inr hk);obtain⟨Z,e,h1,h2,h3,h4⟩:=DQ ht (w:=w) akh hl;obtain⟨E',h5,h6,h7⟩:=nV.u6 ib (xs:=Z) (rs:=rs) (c:=len) e h2 (by omega) h4;rw [h3] at h7;exact df qi (iM h1) (hn _ _ ⟨E',_,h5.put dst h7,Ut.trans h6,h⟩));cases hl);exact h.elim
 ·rename_i T p x;split at h;(·rename_i bI hm;obtain⟨w',h1,h2,h3⟩:=u9 ht hs (hs.eval _) (hs.eval _) hm;refine nG qi (w':=w') ?_ (hn _ _ ⟨E,_,h2.put dst (.sc _ _),h3,h⟩);simp [execOp,h1]);split at h;(·rename_i bI hm;unfold D0 at hm;split at hm;(·rename_i v' zO;obtain⟨E1,nV,Ut,PD⟩:=hs.freeze (vs:=[st.eval x]) (vs':=[v']) (by simp [ij,zO]);simp only [ab,ag,ah] at nV;obtain⟨z,r,hz,h4,-⟩:=(PD [a.eval x] (.cons (hs.eval x) (.nil _))).of_cons;simp only [aur] at hz;obtain⟨rfl,-⟩:=hz;obtain⟨w',h1,h2,h3⟩:=u9 ht nV ((hs.eval p).mono Ut.le) h4 hm;refine nG qi (w':=w') ?_ (hn _ _ ⟨E1,_,h2.put dst (.sc _ _),Ut.trans h3,h⟩);simp [execOp,h1]);cases hm);exact h.elim
 ·rename_i xs ts;split at h;(·rename_i s x Uu;split at h;(·rename_i size rH rows ha;have he:=hs.pg xs;rw [Uu] at he;obtain⟨y,r1,hy,Cb,he⟩:=he.of_cons;obtain⟨z,r2,hz,FM,he⟩:=he.of_cons;have:=he.of_nil;subst this;subst hz;(have rj:xs.map a.eval = #[y,z]:=by rw [← cr (xs:=xs.map a.eval),hy]);obtain⟨v,w',E',h1,h2,h3,h4⟩:=oM ht hs (ty:=type) hk Cb FM ha;refine df qi (v:=v) (w':=w') ?_ (hn _ _ ⟨E',_,h2.put dst h4,h3,h⟩);simp only [execOp,resolve,Sem.run_bind,Sem.run_pure,Result.andThen_ok,invoke,builtin,rj,h1]);unfold x9 at h;split at h;(·rename_i size b v l rs news ha;have he:=hs.pg xs;rw [Uu] at he;obtain⟨y,r1,hy,Cb,he⟩:=he.of_cons;obtain⟨z,r2,hz,FM,he⟩:=he.of_cons;have:=he.of_nil;subst this;subst hz;(have rj:xs.map a.eval = #[y,z]:=by rw [← cr (xs:=xs.map a.eval),hy]);obtain⟨u,w',E',o',mv,h1,YZ,OQ,h2,h3,h4⟩:=Ci ht hs (ty:=type) Cb FM ha;refine df qi (v:=u) (w':=w') ?_ (hn _ _ ⟨E',_,h2.put dst h4,h3,h o' mv YZ OQ⟩);simp only [execOp,resolve,Sem.run_bind,Sem.run_pure,Result.andThen_ok,invoke,builtin,rj,h1]);exact h.elim);exact h.elim
 ·rename_i f xs ts;split at h;(·rename_i k hfv;have hf:=hs.eval f;rw [hfv] at hf;generalize hfx:a.eval f=fx at hf;cases hf with|jK _ _ l e c hb =>(rcases h with ⟨b,bI,hy,hQ⟩|⟨R,hy,hQ⟩);rotate_left;(·obtain⟨fn,tmps,assign,body,h1,h2⟩:=hy E w (xs.map a.eval) l e c hs.bare (hs.pg xs) hb;refine yb qi (l:=l) (f:=fn) (tmps:=tmps) (assign:=assign) (body:=body) ?_ h2 fun e w' ⟨E',b,bI,he,hR,fK,pY⟩=>⟨_,he,hn _ _ ⟨E',_,(hs.FV pY fK.le).put dst (.sc _ _),fK,hQ _ _ hR⟩⟩;rw [← h1];simp [execOp,resolve,hfx,Deferred.ofValue,invoke]);obtain⟨fn,tmps,assign,body,h1,h2⟩:=hy E w (xs.map a.eval) l e c hs.bare (hs.pg xs) hb;refine yb qi (l:=l) (f:=fn) (tmps:=tmps) (assign:=assign) (body:=body) ?_ h2 fun e w' ⟨E',he,fK,pY⟩=>⟨_,he,hn _ _ ⟨E',_,(hs.FV pY fK.le).put dst (.sc _ _),fK,hQ⟩⟩;rw [← h1];simp [execOp,resolve,hfx,Deferred.ofValue,invoke]);rename_i hfv;split at h;(·rename_i g vs hg;obtain⟨ys,h1,h2⟩:=rO (P:=P) (w:=w) (hs.eval f) (hs.pg xs) hg;(rcases yc hs h h1 with ⟨h3,h4⟩|⟨v,h3,h4⟩);(·refine ya qi (f:=g) (xs:=ys) ?_ h4 fun e w' ⟨v,hv,ha⟩=>⟨v,hv,hn _ _ ha⟩;rw [← h3,← h2];simp only [execOp,resolve]);refine df qi (v:=v) ?_ (hn _ _ h4);rw [← h3,← h2];simp only [execOp,resolve]);exact h.elim
 ·split at h;(·rename_i size rs cap hm;obtain⟨E',w',h1,h2,h3,h4⟩:=FO (P:=P) ht hs hk (hs.eval _) (hs.eval _) hm;exact df qi (iM h1) (hn _ _ ⟨E',_,h2.put dst h4,h3,h⟩));exact h.elim
 ·obtain⟨E',w',h1,h2,h3,h4⟩:=Cg (P:=P) hs hk _;exact df qi (iM h1) (hn _ _ ⟨E',_,h2.put dst h4,h3,h⟩)
 ·split at h;(·rename_i bI hm;obtain⟨w',h1,h2,h3⟩:=tY (P:=P) hs (hs.eval _) (hs.eval _) (hs.eval _) hm;refine nG qi (w':=w') ?_ (hn _ _ ⟨E,_,h2.put dst (.sc _ _),h3,h⟩);simp [execOp,h1]);exact h.elim
 ·split at h;(·rename_i bI hm;obtain⟨w',h1,h2,h3⟩:=tY (P:=P) hs (hs.eval _) (hs.eval _) (hs.eval _) hm;refine nG qi (w':=w') ?_ (hn _ _ ⟨E,_,h2.put dst (.sc _ _),h3,h⟩);simp [execOp,h1]);exact h.elim
 ·split at h;(·rename_i bI v hm;obtain⟨z,w',h1,h2,h3,h4⟩:=DU (P:=P) hs (hs.eval _) (hs.eval _) hm;exact df qi (iM h1) (hn _ _ ⟨E,_,h2.put dst h4,h3,h⟩));exact h.elim
 ·rename_i T m s x;split at h;(·rename_i bI hm;obtain⟨w',h1,h2,h3⟩:=DV (P:=P) (T:=T) hs (hs.eval _) (hs.eval _) (hs.eval _) hm;refine nG qi (w':=w') ?_ (hn _ _ ⟨E,_,h2.put dst (.sc _ _),h3,h⟩);simp [execOp,h1]);exact h.elim
 ·rename_i xs ts;split at h;(·rename_i bI hm;obtain⟨w',h1,h2,h3⟩:=Ce (ty:=type) hs (hs.pg xs) hm;refine df qi (v:=.tuple #[]) (w':=w') ?_ (hn _ _ ⟨E,_,h2.put dst (.sc _ _),h3,h⟩);simp only [execOp,resolve,Sem.run_bind,Sem.run_pure,Result.andThen_ok,invoke,builtin,h1]);exact h.elim
 ·split at h;(·rename_i B hB;obtain⟨E',w',h1,h2,h3,h4⟩:=Ab (P:=P) hs hk (hs.eval _) hB;exact df qi (iM h1) (hn _ _ ⟨E',_,h2.put dst h4,h3,h⟩));exact h.elim
 ·obtain⟨z,w',st',h1,h2,h3,h4⟩:=FN (P:=P) (ty:=type) hs (hs.eval _) h;exact df qi (iM h1) (hn _ _ ⟨E,st',h2,h3,h4⟩)
 ·rename_i op T x y yT;split at h;(·rename_i m hm;obtain⟨b,hb,eQ⟩:=DY (P:=P) (w:=w) ht x y (hs.eval x) (hs.eval y) hm;exact df qi (dp eQ) (hn _ _ ⟨E,_,hs.put dst (.sc _ _),gK.refl E w,h b hb⟩));split at h;(·rename_i v hv;obtain⟨x,h1,h2⟩:=s8 ht hs hv;exact df qi h1 (hn _ _ ⟨E,_,hs.put dst h2,gK.refl E w,h⟩));exact h.elim
 split at h;·rename_i v hv;obtain⟨x,h1,h2⟩:=s8 ht hs hv;exact df qi h1 (hn _ _ ⟨E,_,hs.put dst h2,gK.refl E w,h⟩)
 exact h.elim
def fC (all:Array Oper) (fr:List V) (o:Oper):Option Bool :=
 match o.guard with
 | none=>some true
 | some (j,want)=>match (all[j]?).bind (·.dst) with
  | none=>some false
  | some d=>match fr[d]? with
   | some (.sc (.bool b))=>some (b==want)
   | some (.sc _)=>some false
   | some _=>none
   | none=>some false
theorem kq {E:Env} {w:World} {a:Act} {st:St} (hs:c5 E w a st) {all:Array Oper} {o:Oper} {b:Bool} (h:fC all st.fr o=some b):Region.wanted o (yielded all a.tmps)=b:=by
 unfold fC at h;unfold Region.wanted;split at h;·rename_i hg;rw [hg];simpa using h
 rename_i j want hg;rw [hg];dsimp only;unfold yielded;split at h;·rename_i hd;rw [hd];simp at h;subst h;rfl
 rename_i d hd;rw [hd];split at h;·rename_i bb hf;obtain⟨x,hx,hr⟩:=hs.fr.get hf;obtain rfl:=eT hr;simp only [aB] at h;subst h;(have:a.tmps[d]?=some (.bool bb):=by simpa using hx);simp [this]
 ·rename_i v dy hf;obtain⟨x,hx,hr⟩:=hs.fr.get hf;obtain rfl:=eT hr;simp only [aB] at h;subst h;(have:a.tmps[d]?=some x:=by simpa using hx);simp only [at2,this];cases x <;> first|rfl|exact absurd rfl (dy _)
 ·cases h
 rename_i hf;simp only [aB] at h;subst h;have hl:st.fr.length=a.tmps.size:=by have:=hs.fr.1;simpa using this
 have:a.tmps[d]?=none:=by rw [auX] at hf;exact atF (by omega)
 simp [this]
def eV (P:Program) (tt:Table) (all:Array Oper):List Oper→St→(St→Prop)→Prop
 | [],st,Q=>Q st
 | o :: r,st,Q=>match fC all st.fr o with
  | some true=>cY P tt st.mem.length o st fun st'=>eV P tt all r st' Q
  | some false=>eV P tt all r (st.put o.dst (.sc undef)) Q
  | none=>False
@[congr] theorem Uv {P:Program} {tt:Table} {key PE:Nat} {o:Oper} {st st':St} {Q:St→Prop} (hk:key=PE) (h:st=st'):cY P tt key o st Q=cY P tt PE o st' Q:=by rw [hk,h]
@[congr] theorem WU {P:Program} {f f':FuncId} {vs vs':List V} {st st':St} {dst:Option Tmp} {Q:St→Prop} (hf:f=f') (hv:vs=vs') (h:st=st'):x8 P f vs st dst Q=x8 P f' vs' st' dst Q:=by rw [hf,hv,h]
theorem put_defers (a:Act) (dst:Option Tmp) (v:Value):(a.put dst v).defers=a.defers:=by cases dst <;> rfl
theorem D1 {P:Program} {tt:Table} (ht:TT P tt) {ρ:Option Nat} {n:Nat} {all:Array Oper} {Q:St→Prop} {Q':Exit→Act→World→Prop}:∀ (suf pre:List Oper),all.toList=pre++suf →
  ∀ {E:Env} {w:World} {a:Act} {st:St},c5 E w a st→eV P tt all suf st Q→(∀ a' w',a'.defers=a.defers→(∃ E' st',c5 E' w' a' st'∧gK E w E' w'∧Q st')→Q' .normal a' w')→wpOpsIn (WF ρ) n P all Q' (List.range' pre.length suf.length) a w:=by intro suf;induction suf with|nil=>intro pre _ E w a st hs h hq;exact hq _ _ rfl ⟨E,st,hs,gK.refl E w,h⟩|cons o r ih =>intro pre ff E w a st hs h hq;(have kV:all[pre.length]?=some o:=by rw [← dJ,ff,aX (ay _)];simp);(have aee:all.toList=(pre++[o])++r:=by rw [ff];simp);have ih':=@ih (pre++[o]) aee;simp only [ae,af,ai,dL] at ih';rw [af,at3,wpOpsIn,kV];dsimp only;simp only [eV] at h;split at h;(·rename_i hw;rw [if_pos (kq hs hw)];refine gR ht hs (.inr rfl) h ?_;rintro v w' ⟨E',st',h1,h2,h3⟩;exact ih' h1 h3 fun a'' w'' hd ⟨Fj,Y1,h4,h5,h6⟩=>hq _ _ (hd.trans (put_defers _ _ _)) ⟨Fj,Y1,h4,h2.trans h5,h6⟩);(·rename_i hw;rw [if_neg (by rw [kq hs hw];simp)];exact⟨fun _ _=>trivial,ih' (hs.put o.dst (.sc _ _)) h fun a'' w'' hd h=>hq _ _ (hd.trans (put_defers _ _ _)) h⟩);exact h.elim
def Marks (E:Env) (w:World) (base:Nat) (ds:List Deferred):Prop :=
 ∃ rs:List Nat,ds=rs.map (fun r => { target:=.collected r,args := #[] })∧rs.Nodup∧∀ r∈rs,base≤r∧w.heap[r]?=some (.deferred (some []))∧∀ k v e c,E.cn k v≠some (r,e,c)
theorem Marks.PF {E E':Env} {w w':World} {base:Nat} {ds:List Deferred} (h:Marks E w base ds) (he:gK E w E' w'):Marks E' w' base ds:=by
 obtain⟨rs,h1,h2,h3⟩:=h;refine⟨rs,h1,h2,fun r hr=>?_⟩;obtain⟨h6,h4,h5⟩:=h3 r hr;have bQ:r<w.heap.size:=by (rcases bS r w.heap.size with h|h);(·exact h);rw [atF h] at h4;cases h4
 refine⟨h6,(he.heap r bQ h5).trans h4,fun k v e c hk=>?_⟩;rcases he.cn _ _ _ _ _ hk with ⟨k0,v0,e0,c0,h⟩|h
 ·exact h5 _ _ _ _ h
 omega
theorem Marks.nil (E:Env) (w:World) (base:Nat):Marks E w base []:=⟨[],rfl,.nil,fun r h=>by simp at h⟩
def Uw (E0:Env) (w0:World) (Q:Exit→St→Prop):Exit→Act→World→Prop:=fun ex a' w'=>∃ E' st',c5 E' w' a' st'∧gK E0 w0 E' w'∧Marks E' w' w0.heap.size a'.defers∧Q ex st'
def dS (P:Program) (ρ:Option Nat) (n0:Nat) (c:Code) (st:St) (Q:Exit→St→Prop):Prop :=
 ∀ (E0:Env) (w0:World),(∀ k,n0≤k→∀ v,E0.cn k v=none)→∀ (E:Env) (w:World) (a:Act),gK E0 w0 E w→c5 E w a st→Marks E w w0.heap.size a.defers→c.wpIn (WF ρ) 0 P (Uw E0 w0 Q) a w
def gS (next:St→Prop) (Q:Exit→St→Prop):Exit→St→Prop
 | .normal,st=>next st
 | e,st=>Q e st
def jN (id:Nat) (Q:Exit→St→Prop):Exit→St→Prop
 | .exit j,st=>if j=id then Q .normal st else Q (.exit j) st
 | e,st=>Q e st
section
variable {P:Program} {tt:Table} {ρ:Option Nat} {n0:Nat} {st:St} {Q:Exit→St→Prop}
theorem dS.mono {c:Code} {Q':Exit→St→Prop} (h:dS P ρ n0 c st Q) (hq:∀ e st',Q e st'→Q' e st'):dS P ρ n0 c st Q' :=
 fun E0 w0 h0 E w a he hs hm=>wpIn_mono (h E0 w0 h0 E w a he hs hm) fun _ _ _ ⟨E',st',h1,h2,h4,h3⟩=>⟨E',st',h1,h2,h4,hq _ _ h3⟩
theorem bZ (h:Q .normal st):dS P ρ n0 .skip st Q:=fun E0 w0 h0 E w a he hs hm=>wpIn_skip ⟨E,st,hs,he,hm,h⟩
theorem bE (h:Q .ret st):dS P ρ n0 .ret st Q:=fun E0 w0 h0 E w a he hs hm=>wpIn_ret ⟨E,st,hs,he,hm,h⟩
theorem dK {id:Nat} (h:Q (.exit id) st):dS P ρ n0 (.exit id) st Q:=fun E0 w0 h0 E w a he hs hm=>wpIn_exit ⟨E,st,hs,he,hm,h⟩
theorem bc {x y:Code} (h:dS P ρ n0 x st (gS (fun st'=>dS P ρ n0 y st' Q) Q)):dS P ρ n0 (.seq x y) st Q:=fun E0 w0 h0 E w a he hs hm=>by refine wpIn_seq (wpIn_mono (h E0 w0 h0 E w a he hs hm) ?_);rintro e a' w' ⟨E',st',h1,h2,h4,h3⟩;cases e with|normal=>exact h3 E0 w0 h0 E' w' a' h2 h1 h4|_=>exact⟨E',st',h1,h2,h4,h3⟩
theorem aO {c:Operand} {x y:Code} {b:Bool} (hc:st.eval c = .sc (.bool b)) (h:dS P ρ n0 (if b=true then x else y) st Q):dS P ρ n0 (.cond c x y) st Q:=fun E0 w0 h0 E w a he hs hm=>by have:=hs.eval c;rw [hc] at this;exact wpIn_cond (t:=b) (eT this) (h E0 w0 h0 E w a he hs hm)
theorem bC {id:Nat} {c:Code} (h:dS P ρ n0 c st (jN id Q)):dS P ρ n0 (.block id c) st Q:=fun E0 w0 h0 E w a he hs hm=>by refine wpIn_block (wpIn_mono (h E0 w0 h0 E w a he hs hm) ?_);rintro e a' w' ⟨E',st',h1,h2,h4,h3⟩;cases e with|exit j =>simp only [Exit.inBlock,jN] at h3 ⊢;split;(·rename_i hj;rw [if_pos hj] at h3;exact⟨E',st',h1,h2,h4,h3⟩);rename_i hj;rw [if_neg hj] at h3;exact⟨E',st',h1,h2,h4,h3⟩|_=>exact⟨E',st',h1,h2,h4,h3⟩
theorem l7 (ht:TT P tt) {id:Nat} {ops:Array Oper} (h:eV P tt ops ops.toList st (Q .normal)):dS P ρ n0 (.region id ops false) st Q:=fun E0 w0 h0 E w a he hs hm=>by refine wpIn_region ?_;have:=D1 ht (ρ:=ρ) (n:=0) (Q':=Uw E0 w0 Q) ops.toList [] (by simp) hs h (fun a' w' hd ⟨E',st',h1,h2,h3⟩=>⟨E',st',h1,he.trans h2,by rw [hd];exact hm.PF h2,h3⟩);rw [auf];simpa using this
def lx (P:Program) (ρ:Option Nat) (n0:Nat) (c:Code):Nat→St→(Exit→St→Prop)→Prop
 | 0,_,_=>False
 | n+1,st,Q=>dS P ρ n0 c st (gS (fun st'=>lx P ρ n0 c n st' Q) Q)
theorem rP {c:Code} (n:Nat) (h:lx P ρ n0 c n st Q):dS P ρ n0 (.loop c) st Q:=fun E0 w0 h0 E w a he hs hm=>by
 refine wpIn_loop_rounds n ?_;have key:∀ (n:Nat) (E1:Env) (w1:World) (a1:Act) (tB:St),c5 E1 w1 a1 tB→gK E0 w0 E1 w1→Marks E1 w1 w0.heap.size a1.defers→lx P ρ n0 c n tB Q→Code.roundsIn (WF ρ) 0 P c (Uw E0 w0 Q) n a1 w1:=by intro n;induction n with|zero=>intro E1 w1 a1 tB _ _ _ h;exact h.elim|succ n ih =>intro E1 w1 a1 tB h1 h2 h5 h3;refine wpIn_mono (h3 E0 w0 h0 E1 w1 a1 h2 h1 h5) ?_;rintro e a' w' ⟨E',st',h4,h5,h7,h6⟩;cases e with|normal=>exact ih E' w' a' st' h4 h5 h7 h6|_=>exact⟨E',st',h4,h5,h7,h6⟩
 exact key n E w a st hs he hm h
theorem rQ {c:Code} {st':St} (hw:∀ E w a,c5 E w a st→c5 E w a st') (h:dS P ρ n0 c st' Q):dS P ρ n0 c st Q :=
 fun E0 w0 h0 E w a he hs hm=>h E0 w0 h0 E w a he (hw E w a hs) hm
mutual
def aI (n:Nat):V→Bool
 | .ms b _ _ _=>decide (b<n)
 | .ptr b _=>decide (b<n)
 | .jK b=>decide (b<n)
 | .mp b=>decide (b<n)
 | .gJ b _ _ _=>decide (b<n)
 | .undef=>true
 | .sc _=>true
 | .slice _=>true
 | .eY _=>true
 | .gn=>true
 | .full _=>true
 | .agg cs=>aV n cs
 | .dR cs=>aV n cs
 | .ia _ first cap=>aV n first&&aV n cap
def aV (n:Nat):List V→Bool
 | []=>true
 | c :: r=>aI n c&&aV n r
end
theorem fM (n:Nat) (l:List V):aV n l=l.all (aI n):=by induction l with|nil=>rfl|cons c r ih=>simp [aV,ih]
def aL (n:Nat):bf→Bool
 | .box cs=>cs.all (aI n)
 | .loop _ _ fr _ _ _=>fr.all (aI n)
 | .map dx _=>dx.all (fun k=>aI n k.2.2)
 | .jg m _ _ _=>decide (m<n)
 | .nk _ kb _ _=>decide (kb<n)
 | _=>true
def Env.cut (E:Env) (n:Nat):Env := { F:=E.F,cn:=fun k v=>if k<n then E.cn k v else none,gl:=E.gl }
theorem gZ {E:Env} {n:Nat} {v:V} {x:Value} (h:cT E v x) (hb:aI n v=true):cT (E.cut n) v x:=by induction h with|undef=>exact .undef _ _|sc=>exact .sc _ _|slice E rows a cap uj ad xf ha lR hz hF h1 hR ih=>exact .slice _ _ _ _ uj ad xf ha lR hz hF h1 hR|ms E b v s l g e c a cap fg hl h0 u0=>exact .ms _ _ _ _ _ g e c _ _ ((if_pos (by simpa [aI] using hb)).trans fg) hl h0 u0|iv=>exact .iv _ _ _ _|ptr E b o g e c fg=>exact .ptr _ _ _ g e c ((if_pos (by simpa [aI] using hb)).trans fg)|jK E b l e c fg=>exact .jK _ _ l e c ((if_pos (by simpa [aI] using hb)).trans fg)|mp E b l e c fg=>exact .mp _ _ l e c ((if_pos (by simpa [aI] using hb)).trans fg)|gJ E b v i o g e c fg=>exact .gJ _ _ _ _ _ g e c ((if_pos (by simpa [aI] using hb)).trans fg)|eY E cs ad xf hF hR ih=>exact .eY _ _ _ xf hF hR|gn=>exact .gn _|full E rows a h ih=>exact .full _ _ _ (ih rfl)|agg E cs xs hl hh ih =>rw [aI,fM] at hb;exact .agg _ _ _ hl fun i c x hc hx=>ih i c x hc hx (aN.1 hb c (aE hc))|dR E cs xs hl hh ih =>rw [aI,fM] at hb;exact .dR _ _ _ hl fun i c x hc hx=>ih i c x hc hx (aN.1 hb c (aE hc))|ia E f first cap xs ys hx hy h1 h2 YB Fg =>rw [aI,fM,fM,aJ] at hb;exact .ia _ _ _ _ _ _ hx hy (fun i c x hc hx=>YB i c x hc hx (aN.1 hb.1 c (aE hc))) fun i c x hc hx=>Fg i c x hc hx (aN.1 hb.2 c (aE hc))
theorem c5.cut {E:Env} {w:World} {a:Act} {st:St} (hs:c5 E w a st) {n:Nat} (hf:st.fr.all (aI n)=true) (hm:(st.mem.take n).all (aL n)=true):c5 (E.cut n) w a { st with mem:=st.mem.take n }:=by
 have gj:∀ k v,k<n→(E.cut n).cn k v=E.cn k v:=fun k v h=>if_pos h;have jL:∀ k v,n≤k→(E.cut n).cn k v=none:=fun k v h=>if_neg (by omega);have bQ:∀ {k v t},(E.cut n).cn k v=some t→k<n∧E.cn k v=some t:=fun {k v t} h=>by by_cases hk:k<n;(·rw [gj k v hk] at h;exact⟨hk,h⟩);rw [jL k v (by omega)] at h;cases h
 have kV:∀ {k:Nat} {B:bf},(st.mem.take n)[k]?=some B→k<n∧st.mem[k]?=some B:=fun {k B} h=>by rw [jV] at h;split at h;(·exact⟨by assumption,h⟩);cases h
 refine⟨hs.F,fun k v g e c h=>hs.lt _ _ _ _ _ (bQ h).2,fun k B hk=>?_,fun k hk v=>?_,fun k B hk v hv=>?_,fun k k' v v' g e1 c1 e2 c2 h5 h6=>hs.apart _ _ _ _ _ _ _ _ _ (bQ h5).2 (bQ h6).2,⟨hs.fr.1,fun i v x hv hx=>gZ (hs.fr.2 i v x hv hx) (aN.1 hf v (aE hv))⟩⟩;·obtain⟨gM,lj⟩:=kV hk;have ff:=aN.1 hm B (aE hk);have h:=hs.mem k B lj;cases B with|hole=>(exact fun v=>by rw [gj k v gM];exact h v)|dead=>trivial|box cs =>obtain⟨g,T,xs,h1,h2,h3,h4⟩:=h;exact⟨g,T,xs,(gj k 0 gM).trans h1,h2,⟨h3.1,fun i v x hv hx=>gZ (h3.2 i v x hv hx) (aN.1 ff v (aE hv))⟩,h4⟩|loop s nc fr params assign body =>obtain⟨l,fn,tmps,db,h1,h2,h3,h4⟩:=h;exact⟨l,fn,tmps,db,(gj k 0 gM).trans h1,h2,⟨h3.1,fun i v x hv hx=>gZ (h3.2 i v x hv hx) (aN.1 ff v (aE hv))⟩,h4⟩|map dx clock =>obtain⟨g,es,h1,h2,h3,h4⟩:=h;exact⟨g,es,(gj k 0 gM).trans h1,h2,⟨h3.1,fun i kb e hk he=>let ⟨p1,p2,p3⟩:=h3.2 i kb e hk he;⟨p1,p2,gZ p3 (aN.1 ff kb (aE hk))⟩⟩,h4⟩|jg m since seen last =>obtain⟨g,gm,e,c,h1,h2,h3,h4⟩:=h;(have KQ:m<n:=by simpa [aL] using ff);exact⟨g,gm,e,c,(gj k 0 gM).trans h1,(gj m 0 KQ).trans h2,h3,h4⟩|nk T kb v l =>obtain⟨g,T',p,s,h1,h2,h3,h4,h5⟩:=h;exact⟨g,T',p,s,(gj k 0 gM).trans h1,h2,h3,gZ h4 (by simpa [aL,aI] using ff),h5⟩|n7 T v O =>((rcases h with ⟨h1,h2⟩|⟨g,cur,c,h1,h2⟩);(·exact .inl ⟨h1,(gj k v gM).trans h2⟩);exact .inr ⟨g,cur,c,(gj k v gM).trans h1,h2⟩)|mX s pos =>obtain⟨g,h1,h2,h3⟩:=h;exact⟨g,(gj k 0 gM).trans h1,h2,h3⟩|nC =>obtain⟨g,h1,h2,h3⟩:=h;exact⟨g,(gj k 0 gM).trans h1,h2,h3⟩|rows v e rs =>((rcases h with ⟨h1,h2⟩|⟨g,T,xs,c,h1,h2⟩);(·exact .inl ⟨h1,(gj k v gM).trans h2⟩);exact .inr ⟨g,T,xs,c,(gj k v gM).trans h1,h2⟩)|rv v e rs =>(rcases h with ⟨h1,h2⟩|⟨g,c,h1,h2⟩);(·exact .inl ⟨h1,(gj k v gM).trans h2⟩);exact .inr ⟨g,c,(gj k v gM).trans h1,h2⟩
 ·by_cases gM:k<n;(·rw [gj k v gM];refine hs.top k ?_ v;dsimp only at hk;rw [lg] at hk;omega);exact jL k v (by omega)
 obtain⟨gM,lj⟩:=kV hk;rw [gj k v gM];exact hs.dI k B lj v hv
def forget (yd:List Nat) (fr:List V):List V:=yd.foldl (fun fr i=>fr.set i .undef) fr
theorem c5.forget {E:Env} {w:World} {a:Act} (yd:List Nat):∀ {st:St},c5 E w a st→c5 E w a { st with fr:=Eng.forget yd st.fr }:=by induction yd with|nil=>intro st hs;exact hs|cons i r ih =>intro st hs;(have:c5 E w a { st with fr:=st.fr.set i .undef }:=by refine⟨hs.F,hs.lt,hs.mem,hs.top,hs.dI,hs.apart,⟨by simpa using hs.fr.1,fun j v x hv hx=>?_⟩⟩;dsimp only at hv;rw [bR] at hv;split at hv;(·split at hv;(·cases hv;exact .undef _ _);cases hv);exact hs.fr.2 j v x hv hx);exact ih this
theorem Ai {c:Code} (n:Nat) (yd:List Nat) (hn:n0≤n) (hf:(forget yd st.fr).all (aI n)=true) (hm:(st.mem.take n).all (aL n)=true)
  (h:dS P ρ n0 c { fr:=forget yd st.fr,mem:=st.mem.take n } Q):dS P ρ n0 c st Q:=fun E0 w0 h0 E w a he hs oP=>by
 have h1:=(hs.forget yd).cut (n:=n) hf hm
 refine h E0 w0 h0 (E.cut n) w a ⟨⟨he.le.F,fun k v t hk=>?_⟩,fun k v g e c hk=>?_,he.F,he.os,he.tape,he.output,he.size,he.heap⟩ h1 ?_
 rotate_left 2
 ·obtain⟨rs,m1,m2,m3⟩:=oP
  refine⟨rs,m1,m2,fun r hr=>⟨(m3 r hr).1,(m3 r hr).2.1,fun k v e c hk=>?_⟩⟩
  have:E.cn k v=some (r,e,c):=by
   by_cases gM:k<n
   ·exact ((if_pos gM).symm.trans hk:E.cn k v=_)
   have h2:(E.cut n).cn k v=none:=if_neg gM
   rw [h2] at hk;cases hk
  exact (m3 r hr).2.2 _ _ _ _ this
 ·have:k<n:=by
   rcases bS k n with bQ|jL
   ·exact bQ
   rw [h0 k (by omega) v] at hk;cases hk
  exact (if_pos this).trans (he.le.cn _ _ _ hk)
 have:E.cn k v=some (g,e,c):=by
  by_cases gM:k<n
  ·exact ((if_pos gM).symm.trans hk:E.cn k v=_)
  have h2:(E.cut n).cn k v=none:=if_neg gM
  rw [h2] at hk;cases hk
 exact he.cn _ _ _ _ _ this
theorem c5.Ux {E:Env} {w:World} {a:Act} {st:St} (hs:c5 E w a st) {i b v:Nat} (h:st.fr[i]?=some (.sc (.slice none 0 0))):c5 E w a { st with fr:=st.fr.set i (.ms b v 0 0) }:=by
 refine⟨hs.F,hs.lt,hs.mem,hs.top,hs.dI,hs.apart,⟨by simpa using hs.fr.1,fun j u x hu hx=>?_⟩⟩;dsimp only at hu;rw [bR] at hu;split at hu;·rename_i Ig;subst Ig;split at hu;(·cases hu;have:=hs.fr.2 _ _ _ h hx;rw [eT this];exact .iv _ _ _ _);cases hu
 exact hs.fr.2 j u x hu hx
end
def uz (tt:Table) (st:St):ResultVar→Option V
 | .tmp t=>some (st.fr.getD t .undef)
 | .cell a T=>pd tt st.mem T (st.fr.getD a .undef)
def qY (tt:Table) (st:St):List ResultVar→Option (List V)
 | []=>some []
 | r :: rs=>match uz tt st r with
  | some v=>match qY tt st rs with|some l=>some (v :: l)|none=>none
  | none=>none
def qZ (tt:Table) (rs:Array ResultVar) (st:St):Option V :=
 match qY tt st rs.toList with
 | some [v]=>Iz st.mem v
 | some vs=>Iz st.mem (.dR vs)
 | none=>none
theorem nH {P:Program} {tt:Table} (ht:TT P tt) {E:Env} {w:World} {a:Act} {st:St} (hs:c5 E w a st):∀ (rs:List ResultVar) (vs:List V),qY tt st rs=some vs →
  ∃ xs:List Value,(rs.mapM (fun|.tmp t=>pure (a.tmps.getD t undef)|.cell p t=>do loadVar t (← asAddr (a.tmps.getD p undef))):Sem (List Value)).run P w = .ok xs w∧cU E vs xs
 | [],vs,h=>by simp [qY] at h;subst h;exact⟨[],rfl,.nil _⟩
 | r :: rs,vs,h=>by
  simp only [qY] at h
  split at h
  ·rename_i v hv
   split at h
   ·rename_i l hl
    simp only [aB] at h;subst h
    obtain⟨xs,h1,h2⟩:=nH ht hs rs l hl
    have hx:∃ x,((match r with|.tmp t=>pure (a.tmps.getD t undef)|.cell p t=>do loadVar t (← asAddr (a.tmps.getD p undef))):Sem Value).run P w = .ok x w∧cT E v x:=by
     cases r with
     | tmp t =>
      simp only [uz,aB] at hv;subst hv
      exact⟨_,rfl,hs.eval (.tmp t)⟩
     | cell p t =>
      simp only [uz] at hv
      have hp:=hs.eval (.tmp p)
      obtain⟨y,h3,h4⟩:=xW ht hs hp hv
      refine⟨y,?_,h4⟩
      have WV:∃ ad,a.tmps.getD p undef = .pointer (some ad):=by
       have CL:cT E (st.fr.getD p .undef) (a.tmps.getD p undef):=hp
       revert CL hv
       generalize st.fr.getD p .undef=q
       generalize a.tmps.getD p undef=z
       intro hv CL
       cases CL with
       | ptr=>exact⟨_,rfl⟩
       | gJ=>exact⟨_,rfl⟩
       | eY=>exact⟨_,rfl⟩
       | _=>simp [pd] at hv
      obtain⟨ad,had⟩:=WV
      have h3':(Instr.loadAt t (a.tmps.getD p undef)).run P w = .ok y w:=h3
      show ((do loadVar t (← asAddr (a.tmps.getD p undef))):Sem Value).run P w=_
      rw [had] at h3' ⊢
      simpa [Instr.loadAt,Instr.sureAddr,asAddr] using h3'
    obtain⟨x,h3,h4⟩:=hx
    refine⟨x :: xs,?_,.cons h4 h2⟩
    simp only [atU,Sem.run_bind]
    rw [h3]
    simp only [Result.andThen_ok]
    rw [h1]
    rfl
   cases h
  cases h
theorem ID {P:Program} {tt:Table} (ht:TT P tt) {E:Env} {w:World} {a:Act} {st:St} (hs:c5 E w a st) {fn:Func} {r:V} (h:qZ tt fn.results st=some r) :
  ∃ keys x,(results fn a.tmps).run P w = .ok x w∧cT (E.pX w keys).pure r x:=by
 unfold qZ at h
 have run:∀ xs:List Value,(fn.results.toList.mapM (fun|.tmp t=>pure (a.tmps.getD t undef)|.cell p t=>do loadVar t (← asAddr (a.tmps.getD p undef))):Sem (List Value)).run P w = .ok xs w →
   (results fn a.tmps).run P w = .ok (if h:xs.toArray.size=1 then xs.toArray[0] else .tuple xs.toArray) w:=fun xs hx=>by
  unfold results
  rw [aul]
  simp only [Sem.run_bind,Sem.run_map]
  erw [hx]
  rfl
 split at h;·rename_i v hv;obtain⟨xs,h1,h2⟩:=nH ht hs _ _ hv;obtain⟨x,ys,rfl,h3,h4⟩:=h2.of_cons;have:=h4.of_nil;subst this;exact⟨refs v,x,run _ h1,CJ hs h3 h fun k hk=>hk⟩
 ·rename_i vs dy hv;obtain⟨xs,h1,h2⟩:=nH ht hs _ _ hv;(have hl:xs.toArray.size≠1:=by have:=h2.1;intro he;match vs,xs,this,he with|[v],_,_,_=>exact dy v rfl|[],[],_,he=>simp at he|[],_ :: _,h,_=>simp at h|_ :: _ :: _,[],h,_=>simp at h|_ :: _ :: _,_ :: [],h,_=>simp at h|_ :: _ :: _,_ :: _ :: _,_,he=>simp at he);have h3:=run _ h1;rw [dif_neg hl] at h3;exact⟨refs (.dR vs),_,h3,CJ hs (.dR _ _ _ (by simpa using h2.1) fun i c x hc hx=>h2.2 i c x hc (by simpa using hx)) h fun k hk=>hk⟩
 cases h
def cK (fn:Func) (args:List V) (mem:List bf):St := { fr:=args++List.replicate (fn.ntmps-args.length) (.sc undef),mem:=mem }
theorem ye {E:Env} (fn:Func) {args:List V} {mem:List bf} {xs:Array Value} (hx:cU E args xs.toList):cU E (cK fn args mem).fr (xs++Array.replicate (fn.ntmps-xs.size) undef).toList:=by
 have hl:args.length=xs.size:=by have:=hx.1;simpa using this
 simp only [cK,y4,Array.toList_replicate,hl];refine hx.append ⟨by simp,fun i v x hv hx=>?_⟩;rw [aui] at hv hx;split at hv;·rename_i hi;rw [if_pos hi] at hx;cases hv;cases hx;exact .sc _ _
 cases hv
theorem D2 {P:Program} {w:World} {r:Nat} (h:w.heap[r]?=some (.deferred (some []))):(Instr.takeDeferred r).run P w = .ok [] { w with heap:=w.heap.setIfInBounds r (.deferred none) }:=by simp [Instr.takeDeferred,getObj,setObj,Sem.run,h,bind,Sem.bind,pure]
theorem qj {P:Program} {fn:Func} {tmps:Array Value} {R:Ending→World→Prop}:∀ (rs:List Nat) (w:World),rs.Nodup→(∀ r∈rs,w.heap[r]?=some (.deferred (some []))) →
  (∀ w',w'.os=w.os→w'.tape=w.tape→w'.output=w.output→w'.heap.size=w.heap.size→(∀ b,b ∉ rs→w'.heap[b]?=w.heap[b]?)→∃ v,(results fn tmps).run P w' = .ok v w'∧R (.returned v) w') →
  LeavesInM (WF none) 0 P fn tmps R (rs.map (fun r => { target:=.collected r,args := #[] })) .returning w
 | [],w,_,_,h=>by
  obtain⟨v,h1,h2⟩:=h w rfl rfl rfl rfl fun _ _=>rfl
  exact⟨v,h1,h2⟩
 | r :: rs,w,hn,hr,h=>by
  refine⟨by simp,.inl ⟨r,_,rfl,D2 (hr r (cV ..)),?_⟩⟩
  rw [aus] at hn
  have F0:∀ b,b≠r→(w.heap.setIfInBounds r (.deferred none))[b]?=w.heap[b]?:=fun b hb=>Du (fun e=>hb e.symm)
  refine qj rs _ hn.2 (fun r' za=>?_) fun w' h1 h2 h3 h4 h5=>?_
  ·rw [F0 r' (fun e=>hn.1 (e ▸ za))];exact hr r' (bj _ za)
  exact h w' h1 h2 h3 (by rw [h4];simp) fun b hb=>by
   simp only [b8,not_or] at hb
   rw [h5 b hb.2,F0 b hb.1]
theorem c5.PG {E:Env} {w w':World} {a:Act} {st:St} (hs:c5 E w a st) {rs:List Nat} (hr:∀ r∈rs,w.heap[r]?=some (.deferred (some []))∧∀ k v e c,E.cn k v≠some (r,e,c)) (iw:w'.heap.size=w.heap.size)
  (hh:∀ b,b ∉ rs→w'.heap[b]?=w.heap[b]?):c5 E w' a st:=by
 refine⟨fun ad x hx=>?_,fun k v g e c h=>by rw [iw];exact hs.lt _ _ _ _ _ h,fun k B hk=>?_,hs.top,hs.dI,hs.apart,hs.fr⟩;·have hc:=hs.F ad x hx;(have:ad.block ∉ rs:=fun oI=>by have:=(hr _ oI).1;simp [World.cell?,this] at hc);rw [← hc];simp [World.cell?,hh _ this]
 exact (hs.mem k B hk).mono E.le_refl (fun _ h=>h) (fun g e c h=>hh g fun oI=>(hr g oI).2 _ _ _ _ h) fun _ _ _ _ _ h=>h
theorem iN {P:Program} {tt:Table} (ht:TT P tt) {f:FuncId} {fn:Func} {body:Code} {args:List V} {r:V} (hf:P.funcs[f]?=some fn) (hb:fn.body=some body)
  (fS:∀ (xs:Array Value) (w:World),(callFunc f xs).run P w = .ok (.enter f xs) w)
  (h:dS P none 0 body (cK fn args []) fun ex st'=>(ex = .ret∨ex = .normal)∧qZ tt fn.results st'=some r):bJ P f args r:=by
 refine⟨fS,fun F hg w xs hF hx=>FY (n:=0) (callsIn_of_wp_marks hf hb trivial ?_)⟩;have hs:c5 ⟨F,fun _ _=>none,hg⟩ w { tmps:=xs++Array.replicate (fn.ntmps-xs.size) undef,defers:=[] } (cK fn args []):=by refine⟨hF,(fun k v g e c h=>by cases h),(fun k B h=>by simp [cK] at h),(fun k _ v=>rfl),(fun k B h=>by simp [cK] at h),(fun k k' v v' g e c e' c' h=>by cases h),ye fn hx⟩
 refine wpIn_mono (h _ w (fun k _ v=>rfl) _ w _ (gK.refl _ w) hs (.nil _ _ _)) ?_;rintro e a' w' ⟨E',st',h1,h2,⟨rs,hd,qi,wV⟩,he,hr⟩
 have post:LeavesInM (WF none) 0 P fn a'.tmps (fun e w'=>∃ F' x,e = .returned x∧(∀ ad y,F ad=some y→F' ad=some y)∧(∀ ad y,F' ad=some y→w'.cell? ad=some y)∧(∀ ad y,F' ad=some y→F ad=some y∨w.heap.size≤ad.block) ∧
   (∃ FQ,cT ⟨F',fun _ _=>none,FQ⟩ r x)∧Below w.heap.size w w') a'.defers .returning w':=by
  rw [hd]
  refine qj rs w' qi (fun r hr=>(wV r hr).2.1) fun w2 k1 k2 k3 k4 k5=>?_
  have sZ:=h1.PG (fun r hr=>(wV r hr).2) k4 k5
  obtain⟨keys,x,h3,h4⟩:=ID ht sZ hr
  have hold:∀ r∈rs,w.heap.size≤r:=fun r hr=>(wV r hr).1
  refine⟨x,h3,(E'.pX w2 keys).F,x,rfl,fun ad y hy=>(Env.w9 E' w2 keys).F _ _ (h2.le.F _ _ hy),fun ad y hy=>Env.KO sZ.F hy,fun ad y hy=>?_,⟨_,h4⟩,⟨k1.trans h2.os,k2.trans h2.tape,k3.trans h2.output,by rw [k4];exact h2.size,fun b hb=>(k5 b fun oI=>by have:=hold b oI;omega).trans (h2.heap b hb (by simp))⟩⟩
  rcases Env.DX hy with h|⟨k,-,e,c,h⟩
  ·rcases h2.F _ _ h with h|h|⟨k0,v0,e0,c0,h⟩
   ·exact .inl h
   ·exact .inr h
   cases h
  rcases h2.cn _ _ _ _ _ h with ⟨k0,v0,e0,c0,h⟩|h
  ·cases h
  exact .inr h
 rcases he with rfl|rfl <;> exact post
end Go.Eng
end
section
namespace Go.Eng
variable [ba]
def tc:List (Nat×Ti)→Table
 | [],_=>none
 | (k,i) :: r,t=>if t=k then some i else tc r t
def D3:Value→Value→Bool
 | .bool a,.bool b=>a==b
 | .int k n,.int k' n'=>k==k'&&n==n'
 | .string a,.string b=>a.data==b.data
 | .pointer none,.pointer none=>true
 | .slice none a b,.slice none c d=>a==c&&b==d
 | .map none,.map none=>true
 | .nilFunc,.nilFunc=>true
 | .nilIface,.nilIface=>true
 | _,_=>false
def oi:List Value→List Value→Bool
 | [],[]=>true
 | a :: r,b :: s=>D3 a b&&oi r s
 | _,_=>false
theorem CM {a b:Value} (h:D3 a b=true):a=b:=by
 unfold D3 at h;split at h;·simp at h;rw [h]
 ·simp at h;rw [h.1,h.2]
 ·rename_i a b;(have:a.data=b.data:=by simpa using h);congr 1;cases a;cases b;simp_all
 ·rfl
 ·simp at h;rw [h.1,h.2]
 ·rfl
 ·rfl
 ·rfl
 cases h
theorem qk:∀ {a b:List Value},oi a b=true→a=b
 | [],[],_=>rfl
 | x :: r,y :: s,h=>by
  simp only [oi,aJ] at h
  rw [CM h.1,qk h.2]
 | [],_ :: _,h=>by simp [oi] at h
 | _ :: _,[],h=>by simp [oi] at h
def xd (P:Program):List Field→List (Nat×Nat)→Bool
 | [],[]=>true
 | f :: r,p :: s=>f.offset==p.1&&p.2 != 0&&(match P.info? f.type with|some i=>i.size==p.2|none=>false)&&xd P r s
 | _,_=>false
def Uy (P:Program) (t:TypeId) (i:Ti):Bool :=
 match P.info? t with
 | none=>false
 | some info=>info.size==i.size&&info.bytes==i.bytes&&(match info.zero with|some z=>oi z.cells.toList i.zero|none=>false) &&
  match P.underlying t with
  | none=>false
  | some d=>(i.agg==(match d with|.struct _=>true|.array _ _=>true|_=>false)) &&
   (match i.elem with|none=>true|some e=>(match d with|.slice e'=>e'==e|_=>false)) &&
   (match i.bA with|[]=>true|fl=>(match d with|.struct fs=>xd P fs.toList fl|_=>false)) &&
   (uk i.zero==false||i.agg||(match d with|.string=>true|_=>false))
def KR (P:Program):List (Nat×Ti)→Bool
 | []=>true
 | (t,i) :: r=>Uy P t i&&KR P r
theorem Aj {P:Program}:∀ {fs:List Field} {fl:List (Nat×Nat)},xd P fs fl=true→fs.length=fl.length∧∀ (k off sz:Nat),fl[k]?=some (off,sz)→∃ f inf,fs[k]?=some f∧f.offset=off∧P.info? f.type=some inf∧inf.size=sz∧sz≠0
 | [],[],_=>⟨rfl,fun k off sz h=>by simp at h⟩
 | f :: r,p :: s,h=>by
  simp only [xd,aJ,beq_iff_eq,bne_iff_ne] at h
  obtain⟨⟨⟨h1,h2⟩,h3⟩,h4⟩:=h
  obtain⟨h5,h6⟩:=Aj h4
  refine⟨by simp [h5],fun k off sz hk=>?_⟩
  cases k with
  | zero =>
   simp only [aF,aB] at hk;subst hk
   split at h3
   ·rename_i inf hi
    exact⟨f,inf,rfl,h1,hi,by simpa using h3,h2⟩
   cases h3
  | succ k=>exact h6 k off sz (by simpa using hk)
 | [],_ :: _,h=>by simp [xd] at h
 | _ :: _,[],h=>by simp [xd] at h
theorem D4 {P:Program} {t:TypeId} {i:Ti} (h:Uy P t i=true) :
  (∃ info,P.info? t=some info∧info.size=i.size∧info.bytes=i.bytes∧∃ z,info.zero=some z∧z.cells.toList=i.zero) ∧
  (∃ d,P.underlying t=some d∧(i.agg=true↔((∃ fs,d = .struct fs)∨∃ n e,d = .array n e))∧(∀ e,i.elem=some e→d = .slice e) ∧
   (∀ (f off sz:Nat),i.bA[f]?=some (off,sz)→∃ fs fd inf,d = .struct fs∧fs.size=i.bA.length∧fs[f]?=some fd∧fd.offset=off∧P.info? fd.type=some inf∧inf.size=sz∧sz≠0))∧(uk i.zero=true→i.agg=false→P.underlying t=some .string):=by
 unfold Uy at h;split at h;·cases h
 rename_i info aef;simp only [aJ,beq_iff_eq] at h;obtain⟨⟨⟨h1,h2⟩,h3⟩,h4⟩:=h;split at h3;·rename_i z hz;refine⟨⟨info,aef,h1,h2,z,hz,qk h3⟩,?_⟩;have h4c:=h4;split at h4;(·cases h4);rename_i d hd;simp only [aJ,beq_iff_eq] at h4;obtain⟨⟨⟨h5,h6⟩,h7⟩,h8⟩:=h4;clear h4c;(have akj:uk i.zero=true→i.agg=false→P.underlying t=some .string:=fun hz ha=>by rw [hz,ha] at h8;rw [hd];cases d <;> first|rfl|(simp at h8));refine⟨⟨d,hd,?_,?_,?_⟩,akj⟩;(·rw [h5];cases d <;> simp);(·intro e he;rw [he] at h6;dsimp only at h6;split at h6;(·simp at h6;rw [h6]);cases h6);intro f off sz hf;split at h7;(·rename_i Fi;rw [Fi] at hf;simp at hf);split at h7;(·rename_i fs;obtain⟨h8,h9⟩:=Aj h7;obtain⟨fd,inf,xe,h11⟩:=h9 f off sz hf;exact⟨fs,fd,inf,rfl,by simpa using h8,by simpa using xe,h11⟩);cases h7
 cases h3
theorem td {P:Program}:∀ {l:List (Nat×Ti)},KR P l=true→∀ t i,tc l t=some i→Uy P t i=true
 | [],_,t,i,h=>by simp [tc] at h
 | (k,j) :: r,h,t,i,ht=>by
  simp only [KR,aJ] at h
  simp only [tc] at ht
  split at ht
  ·rename_i hk;subst hk;cases ht;exact h.1
  exact td h.2 t i ht
theorem tt_of {P:Program} {l:List (Nat×Ti)} (h:KR P l=true):TT P (tc l) :=
 ⟨fun t i ht=>(D4 (td h t i ht)).1,fun t i ht=>(D4 (td h t i ht)).2.1,fun t i ht=>(D4 (td h t i ht)).2.2⟩
end Go.Eng
end
section
namespace Go.Eng
variable [ba]
section
variable {P:Program} {tt:Table} {ρ:Option Nat} {n0:Nat} {st:St} {Q:Exit→St→Prop}
theorem ak (ht:TT P tt) {id:Nat} {ops:Array Oper} {y:Code} (h:∀ K:St→Prop,(∀ st',dS P ρ n0 y st' Q→K st')→eV P tt ops ops.toList st K):dS P ρ n0 (.seq (.region id ops false) y) st Q :=
 bc (l7 ht (h (fun st'=>dS P ρ n0 y st' Q) fun _ h=>h))
theorem aR (ht:TT P tt) {id:Nat} {ops:Array Oper} (h:∀ K:St→Prop,(∀ st',Q .normal st'→K st')→eV P tt ops ops.toList st K):dS P ρ n0 (.region id ops false) st Q :=
 l7 ht (h (Q .normal) fun _ h=>h)
def bg:List Bool→List V→List V
 | _,[]=>[]
 | [],_ :: r=>.undef :: bg [] r
 | b :: m,v :: r=>(if b=true then v else .undef) :: bg m r
theorem uA {E:Env}:∀ (m:List Bool) {vs:List V} {xs:List Value},cU E vs xs→cU E (bg m vs) xs
 | m,[],xs,h=>by rw [h.of_nil];cases m <;> exact .nil _
 | [],v :: r,xs,h=>by
  obtain⟨x,ys,rfl,h1,h2⟩:=h.of_cons
  exact .cons (.undef _ _) (uA [] h2)
 | b :: m,v :: r,xs,h=>by
  obtain⟨x,ys,rfl,h1,h2⟩:=h.of_cons
  refine .cons ?_ (uA m h2)
  cases b
  ·exact .undef _ _
  exact h1
theorem c5.mask {E:Env} {w:World} {a:Act} {st:St} (hs:c5 E w a st) (m:List Bool):c5 E w a { st with fr:=bg m st.fr } :=
 ⟨hs.F,hs.lt,hs.mem,hs.top,hs.dI,hs.apart,uA m hs.fr⟩
theorem pw {c:Code} (n:Nat) (m:List Bool) (hn:n0≤n) (hf:(bg m st.fr).all (aI n)=true) (hm:(st.mem.take n).all (aL n)=true)
  (h:dS P ρ n0 c { fr:=bg m st.fr,mem:=st.mem.take n } Q):dS P ρ n0 c st Q :=
 rQ (st' := { st with fr:=bg m st.fr }) (fun E w a hs=>hs.mask m) (Ai n [] hn hf hm h)
def F1 (n0:Nat) (st:St) (I:St→Prop):Prop :=
 ∃ (n:Nat) (m:List Bool),n0≤n∧(bg m st.fr).all (aI n)=true∧(st.mem.take n).all (aL n)=true∧I { fr:=bg m st.fr,mem:=st.mem.take n }
theorem uB {c:Code}:∀ {n n':Nat} {st:St},n≤n'→lx P ρ n0 c n st Q→lx P ρ n0 c n' st Q
 | 0,_,_,_,h=>h.elim
 | n+1,0,_,hn,_=>by omega
 | n+1,n'+1,st,hn,h=>dS.mono h fun e st' hq=>by
  cases e with
  | normal=>exact uB (by omega) hq
  | _=>exact hq
theorem cR {c:Code} (I:Nat→St→Prop) (N:Nat) (h0:F1 n0 st (I N))
  (step:∀ n st,I n st→dS P ρ n0 c st (gS (fun st'=>∃ k,k<n∧F1 n0 st' (I k)) Q)):dS P ρ n0 (.loop c) st Q:=by
 have key:∀ (n:Nat) (st:St),I n st→lx P ρ n0 c (n+1) st Q:=by intro n;induction n using Nat.strongRecOn with|_ n ih =>intro st hi;refine dS.mono (step n st hi) fun e st' hq=>?_;cases e with|normal =>(obtain⟨k,hk,n1,m,h1,h2,h3,h4⟩:=hq;have:=ih k hk _ h4;have:lx P ρ n0 c n { fr:=bg m st'.fr,mem:=st'.mem.take n1 } Q:=uB (by omega) this;cases n with|zero=>omega|succ n=>exact pw n1 m h1 h2 h3 this)|_=>exact hq
 obtain⟨n1,m,h1,h2,h3,h4⟩:=h0;exact pw n1 m h1 h2 h3 (rP (N+1) (key N _ h4))
theorem F2 {c:Code} (h:∃ n,lx P ρ n0 c n st Q):dS P ρ n0 (.loop c) st Q:=let ⟨n,hn⟩:=h;rP n hn
end
theorem oj {α β:Type} (P:Program) (s:Sem α) (f:α→Sem β):dv P (s >>= f)=(dv P s).bind fun a=>dv P (f a):=by show dv P (s.bind f)=_;induction s with|pure a=>rfl|program k ih=>exact ih P|mark m k ih=>exact ih|_=>rfl
theorem vo {P:Program} {T:TypeId} {d:TypeDesc} (h:P.underlying T=some d):dv P (underlying T)=some d:=by simp [underlying,oj,program,dv,h,pure]
theorem yf {P:Program} {T:TypeId} (hT:P.underlying T=some .bool) (p q:Bool):dv P (Op.equal T (.bool p) (.bool q))=some (p==q):=by show dv P (Op.equalIn (9999+1) T (.bool p) (.bool q))=_;rw [Op.equalIn,oj,vo hT];rfl
section ints
variable (P:Program) (T:TypeId) (x y:Operand) (k:IntKind) (a b:Int)
theorem Y2:dE P (s7 .add T x y) (.sc (.int k a)) (.sc (.int k b))=some (.sc (.int k (k.wrap (a+b)))):=by simp [dE,fa,s7,binOp,Op.intArith,eqGuard,dv,kf,bind,pure,Sem.bind]
theorem Y3:dE P (s7 .sub T x y) (.sc (.int k a)) (.sc (.int k b))=some (.sc (.int k (k.wrap (a-b)))):=by simp [dE,fa,s7,binOp,Op.intArith,eqGuard,dv,kf,bind,pure,Sem.bind]
theorem Y4:dE P (s7 .mul T x y) (.sc (.int k a)) (.sc (.int k b))=some (.sc (.int k (k.wrap (a*b)))):=by simp [dE,fa,s7,binOp,Op.intArith,eqGuard,dv,kf,bind,pure,Sem.bind]
theorem Y5:dE P (s7 .lss T x y) (.sc (.int k a)) (.sc (.int k b))=some (.sc (.bool (decide (a<b)))):=by simp [dE,fa,s7,binOp,Op.intCmp,eqGuard,dv,kf,bind,pure,Sem.bind]
theorem Y6:dE P (s7 .leq T x y) (.sc (.int k a)) (.sc (.int k b))=some (.sc (.bool (decide (a≤b)))):=by simp [dE,fa,s7,binOp,Op.intCmp,eqGuard,dv,kf,bind,pure,Sem.bind]
theorem Y7:dE P (s7 .gtr T x y) (.sc (.int k a)) (.sc (.int k b))=some (.sc (.bool (decide (b<a)))):=by simp [dE,fa,s7,binOp,Op.intCmp,eqGuard,dv,kf,bind,pure,Sem.bind]
theorem Y8:dE P (s7 .geq T x y) (.sc (.int k a)) (.sc (.int k b))=some (.sc (.bool (decide (b≤a)))):=by simp [dE,fa,s7,binOp,Op.intCmp,eqGuard,dv,kf,bind,pure,Sem.bind]
theorem Y9:dE P (s7 .eql T x y) (.sc (.int k a)) (.sc (.int k b))=some (.sc (.bool (decide (a=b)))):=by simp [dE,fa,s7,binOp,Op.intCmp,eqGuard,dv,kf,bind,pure,Sem.bind];rfl
theorem Za:dE P (s7 .neq T x y) (.sc (.int k a)) (.sc (.int k b))=some (.sc (.bool (!decide (a=b)))):=by simp [dE,fa,s7,binOp,Op.intCmp,eqGuard,dv,kf,bind,pure,Sem.bind];rfl
theorem Zb (ts:Array TypeId) (ty:TypeId):ko P (Builtin.max_ ts ty) [.sc (.int k a),.sc (.int k b)]=some (.sc (.int k (if a<b then b else a))):=by simp [ko,oK,fa,Builtin.max_,Builtin.max2,dv,kf,bind,pure,Sem.bind]
theorem Zc (t:Bool):tQ P (Op.unary .not) (.sc (.bool t))=some (.sc (.bool (!t))):=by simp [tQ,fa,Op.unary,dv,kf,pure]
end ints
section strings
variable (P:Program) (T:TypeId) (x y:Operand) (a b:ByteArray)
theorem Uz:dE P (s7 .eql T x y) (.sc (.string a)) (.sc (.string b))=some (.sc (.bool (a.toList==b.toList))):=by simp [dE,fa,s7,binOp,Op.stringOp,eqGuard,dv,kf,bind,pure,Sem.bind]
theorem UA:dE P (s7 .neq T x y) (.sc (.string a)) (.sc (.string b))=some (.sc (.bool (!(a.toList==b.toList)))):=by simp [dE,fa,s7,binOp,Op.stringOp,eqGuard,dv,kf,bind,pure,Sem.bind]
theorem KS (h:((a.size+b.size:Nat):Int)≤IntKind.i64.max):dE P (s7 .add T x y) (.sc (.string a)) (.sc (.string b))=some (.sc (.string (a++b))):=by
 have h':¬ ((a.size+b.size:Nat):Int)>IntKind.i64.max:=by omega
 simp only [dE,fa,s7,binOp,Op.stringOp,if_neg h'];simp [eqGuard,dv,kf,bind,pure,Sem.bind]
theorem ku {P:Program} {T:TypeId} (hT:P.underlying T=some .string) (k:IntKind) (n:Int) (h0:0≤n) {c:UInt8} (hc:a[n.toNat]?=some c):dE P (Instr.index T) (.sc (.string a)) (.sc (.int k n))=some (.sc (.int .u8 c.toNat)):=by simp [dE,fa,Instr.index,asIntOf,underlying,hT,h0,hc,dv,kf,bind,pure,Sem.bind,program]
theorem kD {P:Program} {tt:Table} {T:TypeId} (hT:P.underlying T=some .string) (ty:TypeId):DD P tt #[T] ty [.sc (.string a)]=some (.sc (.int .i64 a.size)):=by simp [DD,ko,oK,fa,Builtin.len_,underlying,hT,dv,kf,bind,pure,Sem.bind,program,goInt]
theorem IE {P:Program} {tt:Table} {mem:List bf} {T:TypeId} (hT:P.underlying T=some .string) (k:IntKind) (n:Int) (h0:0≤n) (hn:n≤a.size) :
  DA P tt mem T (.sc (.string a)) (some (.sc (.int k n))) none=some (.sc (.string (a.extract n.toNat a.size))):=by simp [DA,dE,fa,Instr.sliceAt,Instr.slice,Instr.sliceBounds,Instr.sliceBound,asIntOf,underlying,hT,h0,hn,dv,kf,bind,pure,Sem.bind,program]
theorem KU {P:Program} {T:TypeId} (hT:P.underlying T=some .bool) (p q:Bool):dE P (s7 .eql T x y) (.sc (.bool p)) (.sc (.bool q))=some (.sc (.bool (p==q))):=by
 have:dv P (do eqGuard .eql T x y (.bool p) (.bool q);binOp .eql T (.bool p) (.bool q))=some (.bool (p==q)):=by show dv P ((Op.equal T (.bool p) (.bool q)) >>= fun r=>Pure.pure (Value.bool r))=_;rw [oj,yf hT];rfl
 simp only [dE,fa,s7,this];rfl
theorem zb {P:Program} {T:TypeId} (hT:P.underlying T=some .bool) (p q:Bool):dE P (s7 .neq T x y) (.sc (.bool p)) (.sc (.bool q))=some (.sc (.bool (!(p==q)))):=by
 have:dv P (do eqGuard .neq T x y (.bool p) (.bool q);binOp .neq T (.bool p) (.bool q))=some (.bool (!(p==q))):=by show dv P ((Op.equal T (.bool p) (.bool q)) >>= fun r=>Pure.pure (Value.bool !r))=_;rw [oj,yf hT];rfl
 simp only [dE,fa,s7,this];rfl
theorem UB {P:Program} {src dst:TypeId} {d:TypeDesc} {k':IntKind} (hs:P.underlying src=some d) (hd:P.underlying dst=some (.int k')) (k:IntKind) (n:Int):tQ P (convert src dst) (.sc (.int k n))=some (.sc (.int k' (k'.wrap n))):=by simp [tQ,fa,convert,underlying,hs,hd,Conv.intToInt,dv,kf,bind,pure,Sem.bind,program]
end strings
end Go.Eng
end
section
namespace Go.Eng
variable [ba]
open Go.RowKit (Below)
theorem gK.cut {E E':Env} {w w':World} (h:gK E w E' w') {n:Nat} (hn:∀ k,n≤k→∀ v,E.cn k v=none):gK E w (E'.cut n) w':=by
 refine⟨⟨h.le.F,fun k v t hk=>?_⟩,fun k v g e c hk=>?_,h.F,h.os,h.tape,h.output,h.size,h.heap⟩;·(have:k<n:=by (rcases bS k n with bQ|jL);(·exact bQ);rw [hn k jL v] at hk;cases hk);exact (if_pos this).trans (h.le.cn _ _ _ hk)
 have:E'.cn k v=some (g,e,c):=by by_cases gM:k<n;(·exact ((if_pos gM).symm.trans hk:E'.cn k v=_));have h2:(E'.cut n).cn k v=none:=if_neg gM;rw [h2] at hk;cases hk
 exact h.cn _ _ _ _ _ this
def oQ (tt:Table) (rs:Array ResultVar) (st:St):Option V :=
 match qY tt st rs.toList with
 | some [v]=>some v
 | some vs=>some (.dR vs)
 | none=>none
theorem D5 {P:Program} {tt:Table} (ht:TT P tt) {E:Env} {w:World} {a:Act} {st:St} (hs:c5 E w a st) {fn:Func} {r:V} (h:oQ tt fn.results st=some r):∃ x,(results fn a.tmps).run P w = .ok x w∧cT E r x:=by
 unfold oQ at h
 have run:∀ xs:List Value,(fn.results.toList.mapM (fun|.tmp t=>pure (a.tmps.getD t undef)|.cell p t=>do loadVar t (← asAddr (a.tmps.getD p undef))):Sem (List Value)).run P w = .ok xs w →
   (results fn a.tmps).run P w = .ok (if h:xs.toArray.size=1 then xs.toArray[0] else .tuple xs.toArray) w:=fun xs hx=>by
  unfold results
  rw [aul]
  simp only [Sem.run_bind,Sem.run_map]
  erw [hx]
  rfl
 split at h;·rename_i v hv;simp only [aB] at h;subst h;obtain⟨xs,h1,h2⟩:=nH ht hs _ _ hv;obtain⟨x,ys,rfl,h3,h4⟩:=h2.of_cons;have:=h4.of_nil;subst this;exact⟨x,run _ h1,h3⟩
 ·rename_i vs dy hv;simp only [aB] at h;subst h;obtain⟨xs,h1,h2⟩:=nH ht hs _ _ hv;(have hl:xs.toArray.size≠1:=by have:=h2.1;intro he;match vs,xs,this,he with|[v],_,_,_=>exact dy v rfl|[],[],_,he=>simp at he|[],_ :: _,h,_=>simp at h|_ :: _ :: _,[],h,_=>simp at h|_ :: _ :: _,_ :: [],h,_=>simp at h|_ :: _ :: _,_ :: _ :: _,_,he=>simp at he);have h3:=run _ h1;rw [dif_neg hl] at h3;exact⟨_,h3,.dR _ _ _ (by simpa using h2.1) fun i c x hc hx=>h2.2 i c x hc (by simpa using hx)⟩
 cases h
theorem PH {P:Program} {tt:Table} (ht:TT P tt) {f:FuncId} {fn:Func} {body:Code} {args:List V} {mem:List bf} {R:V→List bf→Prop} (hf:P.funcs[f]?=some fn) (hb:fn.body=some body)
  (fS:∀ (xs:Array Value) (w:World),(callFunc f xs).run P w = .ok (.enter f xs) w)
  (h:dS P none mem.length body (cK fn args mem) fun ex st'=>(ex = .ret∨ex = .normal)∧∃ r n,mem.length≤n∧oQ tt fn.results st'=some r∧aI n r=true∧(st'.mem.take n).all (aL n)=true∧R r (st'.mem.take n)):jh P f args mem R:=by
 refine⟨fS,fun E w xs IF hx=>FY (n:=0) (callsIn_of_wp_marks hf hb trivial ?_)⟩;have hs:c5 E w { tmps:=xs++Array.replicate (fn.ntmps-xs.size) undef,defers:=[] } (cK fn args mem):=⟨IF.F,IF.lt,IF.mem,IF.top,IF.dI,IF.apart,ye fn hx⟩;refine wpIn_mono (h E w IF.top E w _ (gK.refl _ w) hs (.nil _ _ _)) ?_;rintro e a' w' ⟨E',st',h1,h2,⟨rs,hd,qi,wV⟩,he,r,n,hn,hr,hbr,TV,hR⟩;have post:LeavesInM (WF none) 0 P fn a'.tmps (fun e w'=>∃ E' x r bI,e = .returned x∧R r bI∧gK E w E' w'∧c5 E' w' { tmps := #[],defers:=[] } { fr:=[],mem:=bI }∧cT E' r x) a'.defers .returning w':=by rw [hd];refine qj rs w' qi (fun r hr=>(wV r hr).2.1) fun w2 k1 k2 k3 k4 k5=>?_;have sZ:=h1.PG (fun r hr=>(wV r hr).2) k4 k5;obtain⟨x,h3,h4⟩:=D5 ht sZ hr;have fK:gK E w E' w2:=⟨h2.le,h2.cn,h2.F,k1.trans h2.os,k2.trans h2.tape,k3.trans h2.output,by rw [k4];exact h2.size,fun b hb dy=>(k5 b fun oI=>by have:=(wV b oI).1;omega).trans (h2.heap b hb dy)⟩;exact⟨x,h3,E'.cut n,x,r,_,rfl,hR,fK.cut fun k hk v=>IF.top k (by dsimp only;omega) v,sZ.bare.cut (by rfl) TV,gZ h4 hbr⟩
 rcases he with rfl|rfl <;> exact post
theorem nI {P:Program} {tt:Table} (ht:TT P tt) {f:FuncId} {fn:Func} {body:Code} {args:List V} {mem:List bf} {r:V} {bI:List bf} (n:Nat) (hn:mem.length≤n) (hf:P.funcs[f]?=some fn) (hb:fn.body=some body)
  (fS:∀ (xs:Array Value) (w:World),(callFunc f xs).run P w = .ok (.enter f xs) w)
  (h:dS P none mem.length body (cK fn args mem) fun ex st'=>(ex = .ret∨ex = .normal)∧oQ tt fn.results st'=some r∧aI n r=true∧(st'.mem.take n).all (aL n)=true∧bI=st'.mem.take n):bo P f args mem r bI :=
 (PH ht hf hb fS (R:=fun r' m'=>r'=r∧m'=bI) (h.mono fun ex st' ⟨h1,h2,h3,h4,h5⟩=>⟨h1,r,n,hn,h2,h3,h4,rfl,h5.symm⟩)).det
def om:List Tmp→List V→List V→List V
 | t :: ts,v :: vs,fr=>om ts vs (fr.set t v)
 | _,_,fr=>fr
theorem CN {E:Env}:∀ (ts:List Tmp) {vs:List V} {xs:List Value} {fr:List V} {tmps:Array Value},cU E vs xs→cU E fr tmps.toList→cU E (om ts vs fr) ((ts.zip xs).foldl (fun (tmps:Array Value) (p:Tmp×Value)=>tmps.setIfInBounds p.1 p.2) tmps).toList
 | [],vs,xs,fr,tmps,_,h=>by cases vs <;> exact h
 | t :: ts,[],xs,fr,tmps,hv,h=>by rw [hv.of_nil];exact h
 | t :: ts,v :: vs,xs,fr,tmps,hv,h=>by
  obtain⟨x,ys,rfl,h1,h2⟩:=hv.of_cons
  simp only [om,List.zip_cons_cons,o3]
  exact CN ts h2 (by simpa using h.set t h1)
def rR:Exit→Option (Option Code)
 | .normal=>some none
 | .ret=>some (some .ret)
 | .exit id=>some (some (.exit id))
 | .goto l=>some (some (.goto l))
 | _=>none
theorem vp {P:Program} {k:Nat} {fr vs:List V} {params:Array Tmp} {assign body:Code} {mem:List bf} {R:Bool→List bf→Prop} (hk:mem[k]?=some (.loop .ready none fr params assign body)) (hlen:vs.length=params.size)
  (h:∀ l,dS P (some l) mem.length assign { fr:=om params.toList vs fr,mem:=mem } fun ex tB=>ex = .normal∧∃ WW p1 UC UD,tB.mem[k]?=some (.loop .ready none WW p1 UC UD) ∧
   dS P (some l) mem.length body { tB with mem:=tB.mem.set k (.loop .busy none WW p1 UC UD) } fun ex zd=>∃ n jump s2 pe2 UE p2 PI PJ,mem.length≤n∧rR ex=some jump∧zd.mem[k]?=some (.loop s2 pe2 UE p2 PI PJ) ∧
    ((zd.mem.set k (.loop (if jump.isNone then .ready else .done) jump UE p2 PI PJ)).take n).all (aL n)=true ∧
    R jump.isNone ((zd.mem.set k (.loop (if jump.isNone then .ready else .done) jump UE p2 PI PJ)).take n)) :
  ME P k vs mem R:=by
 intro E w xs l e c hs hx hb;obtain⟨l',fn,tmps,db,fR,hh,hr,hf⟩:=hs.mem k _ hk;rw [hb] at fR;cases fR;have kV:∀ {W:World} {R:Loop},W.heap[l]?=some (.loop R)→(Instr.getLoop l).run P W = .ok R W:=fun {W R} hW=>by simp [Instr.getLoop,getObj,Sem.run,hW,bind,Sem.bind,pure]
 have F0:∀ {W:World} {R:Loop} {o:Obj},W.heap[l]?=some (.loop R)→(setObj l o).run P W = .ok () { W with heap:=W.heap.setIfInBounds l o }:=fun {W R o} hW=>by simp [setObj,Sem.run,hW]
 have hxl:xs.size=params.size:=by have:=hx.1;simp at this;omega
 refine⟨fn,(params.zip xs).foldl (fun tmps (p:Tmp×Value)=>tmps.setIfInBounds p.1 p.2) tmps,assign,body,?_,?_⟩;·simp only [Instr.yield,Sem.run_bind,kV hh,Result.andThen_ok,hxl,ne_eq,not_true_eq_false,if_false];rfl
 refine roundIn_of_wpIn trivial ?_;have nV:c5 E w { tmps:=(params.zip xs).foldl (fun tmps (p:Tmp×Value)=>tmps.setIfInBounds p.1 p.2) tmps,defers:=[] } { fr:=om params.toList vs fr,mem:=mem }:=by refine⟨hs.F,hs.lt,hs.mem,hs.top,hs.dI,hs.apart,?_⟩;have:=CN (E:=E) params.toList hx hr;rw [← at6,Array.toList_zip];exact this
 refine wpIn_mono (h l E w hs.top E w _ (gK.refl E w) nV (.nil _ _ _)) ?_;rintro ex a1 w1 ⟨E1,tB,h1,h2,hm1,rfl,WW,p1,UC,UD,ib,h3⟩;obtain⟨l1,fn1,WY,db1,np,MA,Cb,hf1⟩:=h1.mem k _ ib;have fJ:E1.cn k 0=some (l,0,0):=h2.le.cn _ _ _ hb;rw [fJ] at np;cases np;have only:∀ (W:World) (o:Obj),od W { W with heap:=W.heap.setIfInBounds l o } l:=fun W o=>⟨rfl,rfl,rfl,by simp,fun b hb=>Du (fun e=>hb e.symm)⟩;have bQ:∀ {W:World} {o:Obj},W.heap[l]?=some o→l<W.heap.size:=fun {W o} hW=>(dw.1 hW).1;have t1:=h1.zU ib rfl (B':=.loop .busy none WW p1 UC UD) rfl fJ hf1 (only w1 (.loop { state:=.busy,pending:=none,fn:=fn1,tmps:=WY,params:=p1,assign:=UC,body:=UD,defers:=db1 })) ⟨l,fn1,WY,db1,fJ,by simp [bQ MA],Cb,hf1⟩;refine⟨_,by simp [Instr.beginRound,kV MA,F0 MA];rfl,?_⟩;refine wpIn_mono (h3 E w hs.top E1 _ a1 (h2.trans t1.2) t1.1 ?_) ?_;·exact hm1.PF t1.2
 rintro ex a2 w2 ⟨E2,zd,h4,h5,-,n,jump,s2,pe2,UE,p2,PI,PJ,KQ,hj,jI,TV,hR⟩;obtain⟨l2,fn2,PK,db2,tZ,Ie,FM,hf2⟩:=h4.mem k _ jI;have MG:E2.cn k 0=some (l,0,0):=h5.le.cn _ _ _ hb;rw [MG] at tZ;cases tZ;have t2:=h4.zU jI rfl (B':=.loop (if jump.isNone then .ready else .done) jump UE p2 PI PJ) rfl MG hf2 (only w2 (.loop { state:=if jump.isNone then .ready else .done,pending:=jump,fn:=fn2,tmps:=PK,params:=p2,assign:=PI,body:=PJ,defers:=db2 })) ⟨l,fn2,PK,db2,MG,by simp [bQ Ie],FM,hf2⟩;have run:(Instr.endRound l jump).run P w2 = .ok (.bool jump.isNone) { w2 with heap:=w2.heap.setIfInBounds l (.loop { state:=if jump.isNone then .ready else .done,pending:=jump,fn:=fn2,tmps:=PK,params:=p2,assign:=PI,body:=PJ,defers:=db2 }) }:=by simp [Instr.endRound,kV Ie,F0 Ie]
 have fin:∃ v w',(Instr.endRound l jump).run P w2 = .ok v w'∧∃ E' b bI,Ending.returned v = .returned (.bool b)∧R b bI∧gK E w E' w'∧c5 E' w' { tmps := #[],defers:=[] } { fr:=[],mem:=bI } := ⟨_,_,run,E2.cut n,_,_,rfl,hR,(h5.trans t2.2).cut (fun k hk v=>hs.top k (fU KQ hk) v),t2.1.bare.cut (by rfl) TV⟩;cases ex <;> simp only [rR,aB,reduceCtorEq] at hj <;> subst hj <;> exact fin
theorem rS {P:Program} {k:Nat} {fr vs:List V} {params:Array Tmp} {assign body:Code} {mem bI:List bf} {b:Bool} (hk:mem[k]?=some (.loop .ready none fr params assign body)) (hlen:vs.length=params.size)
  (h:∀ l,dS P (some l) mem.length assign { fr:=om params.toList vs fr,mem:=mem } fun ex tB=>ex = .normal∧tB.mem[k]?=some (.loop .ready none fr params assign body) ∧
   dS P (some l) mem.length body { tB with mem:=tB.mem.set k (.loop .busy none fr params assign body) } fun ex zd=>∃ jump,rR ex=some jump∧b=jump.isNone∧zd.mem[k]?=some (.loop .busy none fr params assign body) ∧
    ((zd.mem.set k (.loop (if jump.isNone then .ready else .done) jump fr params assign body)).take mem.length).all (aL mem.length)=true ∧
    bI=(zd.mem.set k (.loop (if jump.isNone then .ready else .done) jump fr params assign body)).take mem.length) :
  Ih P k vs mem b bI :=
 (vp hk hlen (R:=fun b' m'=>b'=b∧m'=bI) fun l=>(h l).mono fun ex tB ⟨h1,h2,h3⟩=>⟨h1,_,_,_,_,h2,h3.mono fun ex zd ⟨j,h4,h5,h6,h7,h8⟩=>⟨_,j,_,_,_,_,_,_,ay _,h4,h6,h7,h5.symm,h8.symm⟩⟩).det
theorem rT {P:Program} {n0:Nat} {st:St} {Q:Exit→St→Prop} {f:Operand} {params:Array Tmp} {assign body:Code} {g:FuncId} {vs:List V} {R:V→List bf→Prop} (hc:c6 (st.eval f) [.jK st.mem.length]=some (g,vs))
  (hfn:jh P g vs (st.mem++[.loop .ready none st.fr params assign body]) R)
  (hq:∀ r yN,R r yN→∃ s nc fr' TZ T0 T1,yN[st.mem.length]?=some (.loop s nc fr' TZ T0 T1)∧s ≠ .busy∧(match nc with|none=>Q .normal { st with mem:=yN.set st.mem.length .dead }|some c=>dS P none n0 c { st with mem:=yN.set st.mem.length .dead } Q)) :
  dS P none n0 (.rangeFunc f params assign body) st Q:=fun E0 w0 h0 E w a he hs oP=>by
 refine wpIn_rangeFunc fun fn _=>?_
 let w1:World:=w.alloc (.deferred (some []))
 let L:Loop := { state:=.ready,pending:=none,fn:=fn,tmps:=a.tmps,params:=params,assign:=assign,body:=body,defers:=w.heap.size }
 let w2:World:=w1.alloc (.loop L)
 have gM:∀ v,E.cn st.mem.length v=none:=hs.top _ (ay _)
 have hle:E.le (E.with st.mem.length 0 (w.heap.size+1,0,0)):=Env.mg (gM 0) _
 have eS:(E.with st.mem.length 0 (w.heap.size+1,0,0)).cn st.mem.length 0=some (w.heap.size+1,0,0):=if_pos ⟨rfl,rfl⟩
 have gj:∀ k v,¬ (k=st.mem.length∧v=0)→(E.with st.mem.length 0 (w.heap.size+1,0,0)).cn k v=E.cn k v:=fun k v h=>if_neg h
 have hold:∀ b,b<w.heap.size→w2.heap[b]?=w.heap[b]?:=fun b hb=>(dP w1 _ b (by simp [w1];omega)).trans (dP w _ b hb)
 have nr:w2.heap[w.heap.size+1]?=some (.loop L):=by
  have:w1.heap.size=w.heap.size+1:=by simp [w1]
  show (w1.alloc (.loop L)).heap[w.heap.size+1]?=_
  rw [← this];exact heap_alloc_new w1 _
 have fK:gK E w (E.with st.mem.length 0 (w.heap.size+1,0,0)) w2:=by
  refine⟨hle,fun k v g e c hk=>?_,fun ad x hx=>.inl hx,rfl,rfl,rfl,by simp [w2,w1];omega,fun b hb _=>hold b hb⟩
  by_cases fe:k=st.mem.length∧v=0
  ·obtain⟨rfl,rfl⟩:=fe;rw [eS] at hk;cases hk;exact .inr (by omega)
  rw [gj k v fe] at hk;exact .inl ⟨_,_,_,_,hk⟩
 have hFn:∀ o,E.F ⟨w.heap.size+1,o,none⟩=none:=fun o=>by
  cases hx:E.F ⟨w.heap.size+1,o,none⟩ with
  | none=>rfl
  | some x=>have:=World.block_lt_of_cell? w _ (hs.F _ _ hx);simp at this;omega
 have sZ:c5 (E.with st.mem.length 0 (w.heap.size+1,0,0)) w2 { tmps := #[],defers:=[] } { fr:=[],mem:=st.mem++[.loop .ready none st.fr params assign body] }:=by
  have kV:∀ {k:Nat} {B:bf},(st.mem++[bf.loop .ready none st.fr params assign body])[k]?=some B→(k<st.mem.length∧st.mem[k]?=some B)∨(k=st.mem.length∧B = .loop .ready none st.fr params assign body):=fun {k B} h=>by
   rw [n6] at h
   split at h
   ·rename_i bQ;exact .inl ⟨bQ,h⟩
   have MH:k-st.mem.length=0:=by
    rcases atC (k-st.mem.length) with h0|h0
    ·exact h0
    rw [cH (by simp;omega)] at h;cases h
   rw [MH] at h;simp at h
   exact .inr ⟨by omega,h.symm⟩
  refine⟨fun ad x hx=>?_,fun k v g e c hk=>?_,fun k B hk=>?_,fun k hk v=>?_,fun k B hk v hv=>?_,fun k k' v v' g e1 c1 e2 c2 h5 h6=>?_,.nil _⟩
  ·have hc:=hs.F ad x hx
   rw [← hc];simp [World.cell?,hold _ (World.block_lt_of_cell? w ad hc)]
  ·by_cases fe:k=st.mem.length∧v=0
   ·obtain⟨rfl,rfl⟩:=fe;rw [eS] at hk;cases hk;simp [w2,w1]
   rw [gj k v fe] at hk;have:=hs.lt _ _ _ _ _ hk;simp [w2,w1];omega
  ·rcases kV hk with ⟨bQ,lj⟩|⟨rfl,rfl⟩
   ·exact (hs.mem k B lj).mono hle (fun v h=>by rw [gj k v (by omega)];exact h) (fun g e c h=>hold g (hs.lt _ _ _ _ _ h)) fun _ _ _ _ _ h=>h
   exact⟨w.heap.size+1,fn,a.tmps,w.heap.size,eS,nr,hs.fr.mono hle,hFn⟩
  ·dsimp only at hk
   simp at hk
   rw [gj k v (by omega)];exact hs.top k (by omega) v
  ·rcases kV hk with ⟨bQ,lj⟩|⟨rfl,rfl⟩
   ·rw [gj k v (by omega)];exact hs.dI k B lj v hv
   rw [gj _ v (by simp [bf.dI] at hv;omega)];exact gM v
  by_cases fe:k=st.mem.length∧v=0 <;> by_cases DJ:k'=st.mem.length∧v'=0
  ·rw [fe.1,DJ.1]
  ·obtain⟨rfl,rfl⟩:=fe;rw [eS] at h5;cases h5;rw [gj k' _ DJ] at h6;have:=hs.lt _ _ _ _ _ h6;omega
  ·obtain⟨rfl,rfl⟩:=DJ;rw [eS] at h6;cases h6;rw [gj k _ fe] at h5;have:=hs.lt _ _ _ _ _ h5;omega
  rw [gj k _ fe] at h5;rw [gj k' _ DJ] at h6
  exact hs.apart _ _ _ _ _ _ _ _ _ h5 h6
 have Pe:cU (E.with st.mem.length 0 (w.heap.size+1,0,0)) [.jK st.mem.length] (#[Value.func (.yield (w.heap.size+1)) #[] #[]]:Array Value).toList:=.cons (.jK _ _ _ 0 0 eS) (.nil _)
 obtain⟨d,ys,hy,YZ,OQ⟩:=Af (P:=P) (w:=w2) ((hs.eval f).mono hle) Pe hc
 have akp:=oP.PF fK
 refine⟨w.heap.size+1,[{ target:=.collected w.heap.size,args := #[] }],w2,d,w2,g,ys,w2,?_,?_,fun _ _=>trivial,OQ.trans (hfn.1 ys w2),fun h=>by simp [WF] at h,?_⟩
 ·exact run_enterLoop_outer _ _ _ _ _
 ·refine Eq.trans ?_ YZ
  simp only [rangeCall,resolve]
  simp [Act.eval]
 refine Ah ((hfn.2 _ w2 ys sZ hy).mono ?_)
 rintro e w3 ⟨E3,x,r,yN,rfl,hRR,IG,Fk,-⟩
 obtain⟨s,nc,fr',TZ,T0,T1,Zd,aeg,WZ⟩:=hq r yN hRR
 obtain⟨l3,fn3,KV,db3,jw,hh3,hr3,hf3⟩:=Fk.mem _ _ Zd
 have aeh:E3.cn st.mem.length 0=some (w.heap.size+1,0,0):=IG.le.cn _ _ _ eS
 rw [aeh] at jw;cases jw
 have apY:w.heap.size+1<w3.heap.size:=(dw.1 hh3).1
 have hsb:(s==LoopState.busy)=false:=by cases s <;> first|rfl|exact absurd rfl aeg
 have akr:=hs.FV Fk (Env.le_trans hle IG.le)
 have t:=akr.zU Zd rfl (B':=.dead) rfl aeh hf3 (w' := { w3 with heap:=w3.heap.setIfInBounds (w.heap.size+1) (.loop { state:=.exhausted,pending:=nc,fn:=fn3,tmps:=KV,params:=TZ,assign:=T0,body:=T1,defers:=db3 }) })
  ⟨rfl,rfl,rfl,by simp,fun b hb=>Du (fun e=>hb e.symm)⟩ trivial
 have MI:gK E0 w0 E3 _:=(he.trans (fK.trans IG)).trans t.2
 have aej:Marks E3 { w3 with heap:=w3.heap.setIfInBounds (w.heap.size+1) (.loop { state:=.exhausted,pending:=nc,fn:=fn3,tmps:=KV,params:=TZ,assign:=T0,body:=T1,defers:=db3 }) } w0.heap.size ({ target:=.collected w.heap.size,args := #[] } :: a.defers):=by
  obtain⟨rs,m1,m2,m3⟩:=(akp.PF IG).PF t.2
  have hd0:w2.heap[w.heap.size]?=some (.deferred (some [])):=(dP w1 _ _ (by simp [w1])).trans (heap_alloc_new w _)
  have tU:∀ k v e c,(E.with st.mem.length 0 (w.heap.size+1,0,0)).cn k v≠some (w.heap.size,e,c):=fun k v e c hk=>by
   by_cases fe:k=st.mem.length∧v=0
   ·obtain⟨rfl,rfl⟩:=fe;rw [eS] at hk;simp at hk
   rw [gj k v fe] at hk;have:=hs.lt _ _ _ _ _ hk;omega
  have one:Marks (E.with st.mem.length 0 (w.heap.size+1,0,0)) w2 w0.heap.size [{ target:=.collected w.heap.size,args := #[] }]:=⟨[w.heap.size],rfl,by simp,fun r hr=>by
   simp at hr;subst hr;exact⟨he.size,hd0,tU⟩⟩
  obtain⟨mv,n1,n2,n3⟩:=(one.PF IG).PF t.2
  have YG:mv=[w.heap.size]:=by
   match mv,n1 with
   | [r],h=>simp at h;rw [h]
   | [],h=>simp at h
   | _ :: _ :: _,h=>simp at h
  subst YG
  refine⟨w.heap.size :: rs,by rw [m1];rfl,?_,fun r hr=>?_⟩
  ·rw [aus]
   refine⟨fun oI=>?_,m2⟩
   obtain⟨rs0,q1,q2,q3⟩:=oP
   have CD:rs=rs0:=by
    have:=m1.symm.trans q1
    have inj:∀ (xs ys:List Nat),xs.map (fun r=>({ target:=.collected r,args := #[] }:Deferred))=ys.map (fun r => { target:=.collected r,args := #[] })→xs=ys:=by
     intro xs
     induction xs with
     | nil=>intro ys h;cases ys with|nil=>rfl|cons y ys=>simp at h
     | cons x xs ih=>intro ys h;cases ys with|nil=>simp at h|cons y ys=>simp at h;rw [h.1,ih ys (by simpa using h.2)]
    exact inj _ _ this
   subst CD
   have:=(q3 _ oI).2.1
   rw [atF (ay _)] at this;cases this
  rcases b8.1 hr with rfl|hr
  ·exact n3 _ (by simp)
  exact m3 r hr
 refine⟨nc,{ w3 with heap:=w3.heap.setIfInBounds (w.heap.size+1) (.loop { state:=.exhausted,pending:=nc,fn:=fn3,tmps:=KV,params:=TZ,assign:=T0,body:=T1,defers:=db3 }) },?_,?_⟩
 ·have hg:(Instr.getLoop (w.heap.size+1)).run P w3 = .ok { state:=s,pending:=nc,fn:=fn3,tmps:=KV,params:=TZ,assign:=T0,body:=T1,defers:=db3 } w3:=by
   simp [Instr.getLoop,getObj,Sem.run,hh3,bind,Sem.bind,pure]
  simp only [Instr.endLoop,Sem.run_bind,hg,Result.andThen_ok,hsb,bu,if_false]
  simp [setObj,Sem.run,hh3]
 cases nc with
 | none=>exact⟨E3,_,⟨t.1.F,t.1.lt,t.1.mem,t.1.top,t.1.dI,t.1.apart,t.1.fr⟩,MI,aej,WZ⟩
 | some c=>exact WZ E0 w0 h0 E3 _ { a with defers := { target:=.collected w.heap.size,args := #[] } :: a.defers } MI ⟨t.1.F,t.1.lt,t.1.mem,t.1.top,t.1.dI,t.1.apart,t.1.fr⟩ aej
theorem oR {P:Program} {n0:Nat} {st:St} {Q:Exit→St→Prop} {f:Operand} {params:Array Tmp} {assign body:Code} {g:FuncId} {vs:List V} {r:V} {yN:List bf} (hc:c6 (st.eval f) [.jK st.mem.length]=some (g,vs))
  (hfn:bo P g vs (st.mem++[.loop .ready none st.fr params assign body]) r yN)
  (hq:∃ s nc fr' TZ T0 T1,yN[st.mem.length]?=some (.loop s nc fr' TZ T0 T1)∧s ≠ .busy∧(match nc with|none=>Q .normal { st with mem:=yN.set st.mem.length .dead }|some c=>dS P none n0 c { st with mem:=yN.set st.mem.length .dead } Q)) :
  dS P none n0 (.rangeFunc f params assign body) st Q :=
 rT hc hfn.rel fun r' m' ⟨_,h2⟩=>by subst h2;exact hq
end Go.Eng
end
section
namespace Go.Eng
variable [ba]
open Go.RowKit (Below)
inductive Cls where
 | n|r|a|w|s|b|z|e
 deriving DecidableEq
structure Pl where
 cls:Cls
 key:Nat
 mask:List Nat
 W0:List Nat:=[]
 abs:List Nat:=[]
abbrev pN:Pl:=⟨.n,0,[],[],[]⟩
abbrev pR:Pl:=⟨.r,0,[],[],[]⟩
abbrev ql (a:List Nat):Pl:=⟨.n,0,[],a,[]⟩
abbrev jC (a:List Nat):Pl:=⟨.r,0,[],a,[]⟩
def F3 (m:List bf) (k:Nat):List bf:=match m[k]? with
 | some B=>if B.dI=0 then m.set k .dead else m
 | none=>m
def eg:List Nat→List bf→List bf
 | [],m=>m
 | k :: r,m=>eg r (F3 m k)
def ly (b:Bool) (B:bf):bf:=if b=true∧B.dI=0 then .dead else B
theorem MJ (m:List bf) (k q:Nat):(F3 m k)[q]?=(m[q]?).map (ly (q==k)):=by
 unfold F3;by_cases hq:q=k;·subst hq;cases h:m[q]? with|none=>simp [h]|some B =>have bQ:q<m.length:=(aA.1 h).1;simp only [beq_self_eq_true,b9,ly,true_and];split;(·rename_i hv;simp [bR,bQ]);rename_i hv;exact h
 have hb:(q==k)=false:=by simpa using hq
 have hid:(m[q]?).map (ly (q==k))=m[q]?:=by rw [hb];cases m[q]? <;> simp [ly]
 rw [hid];cases h:m[k]? with|none=>rfl|some B =>dsimp only;split;(·exact cD (fun e=>hq e.symm));rfl
theorem Cj (b c:Bool) (B:bf):ly b (ly c B)=ly (b||c) B:=by have hd:bf.dead.dI=0:=rfl;unfold ly;cases b <;> cases c <;> by_cases hv:B.dI=0 <;> simp [hv,hd]
theorem l8:∀ (ks:List Nat) (m:List bf) (q:Nat),(eg ks m)[q]?=(m[q]?).map (ly (ks.contains q))
 | [],m,q=>by cases h:m[q]? <;> simp [eg,h,ly]
 | k :: r,m,q=>by
  rw [eg,l8 r,MJ]
  cases m[q]? with
  | none=>rfl
  | some B =>
   simp only [b9,Cj,List.contains_cons]
   rw [Bool.or_comm]
theorem vq:∀ (ks:List Nat) (m:List bf),(eg ks m).length=m.length
 | [],m=>rfl
 | k :: r,m=>by
  rw [eg,vq r]
  unfold F3
  split
  ·split <;> simp
  rfl
theorem nv {ks:List Nat} {m:List bf} {k:Nat} {B0 B:bf} (hk:k∈ks) (hm:m[k]?=some B0) (h0:B0.dI=0) (hB:B.dI=0):eg ks (m.set k B)=eg ks m:=by
 refine dC fun q=>?_;rw [l8,l8];by_cases hq:q=k;·subst hq;have bQ:q<m.length:=(aA.1 hm).1;(have hc:ks.contains q=true:=by simpa using hk);rw [bR,if_pos rfl,if_pos bQ,hm];simp [ly,hB,h0,hk]
 rw [cD (fun e=>hq e.symm)]
theorem c5.eg {E:Env} {w:World} {a:Act} {st:St} (hs:c5 E w a st) (ks:List Nat):c5 E w a { st with mem:=Eng.eg ks st.mem }:=by
 have get:∀ {k:Nat} {B:bf},(Eng.eg ks st.mem)[k]?=some B→∃ B0:bf,st.mem[k]?=some B0∧(B=B0∨B=bf.dead∧B0.dI=0):=fun {k B} h=>by rw [l8] at h;cases h0:st.mem[k]? with|none=>rw [h0] at h;cases h|some B0 =>rw [h0] at h;simp only [b9,aB] at h;refine⟨B0,rfl,?_⟩;unfold ly at h;split at h;(·rename_i hc;exact .inr ⟨h.symm,hc.2⟩);exact .inl h.symm
 refine⟨hs.F,hs.lt,fun k B hk=>?_,fun k hk=>hs.top k (by simpa [vq] using hk),fun k B hk v hv=>?_,hs.apart,hs.fr⟩;·obtain⟨B0,h0,rfl|⟨rfl,-⟩⟩:=get hk;(·exact hs.mem k _ h0);trivial
 obtain⟨B0,h0,rfl|⟨rfl,h1⟩⟩:=get hk;·exact hs.dI k _ h0 v hv
 exact hs.dI k _ h0 v (by rw [h1];exact hv)
def D6 (P:Program) (f:FuncId) (vs:List V) (r:V):Prop:=bJ P f vs r∨rL P f vs r
def aek (P:Program) (f:FuncId) (vs:List V) (Q:V→Prop):Prop:=∃ vs' r,ij [] vs=some vs'∧D6 P f vs' r∧Q r
def yO (P:Program) (tt:Table) (o:Oper) (st:St):Option V :=
 match o.op with
 | .build T parts=>mL P tt T parts.toList st.eval
 | .buildSlice T len parts=>match w6 tt T len parts.toList st.eval with
  | some (_,rs)=>some (.slice rs)
  | none=>none
 | _=>iq P tt st o
def tD (P:Program) (tt:Table) (o:Oper) (st:St) (Q:V→Prop):Prop :=
 match o.op with
 | .call { callee:=.value f,args:=xs,.. }=>match c6 (st.eval f) (xs.toList.map st.eval) with
  | some (g,vs)=>aek P g vs Q
  | none=>False
 | _=>match yO P tt o st with
  | some v=>Q v
  | none=>False
def ael (P:Program) (f:FuncId) (vs:List V) (st:St) (dst:Option Tmp) (Q:St→Prop):Prop:=∃ vs' r,ij [] vs=some vs'∧D6 P f vs' r∧Q (st.put dst r)
def oS (P:Program) (tt:Table) (o:Oper) (Ck st:St) (Q:St→Prop):Prop :=
 match o.op with
 | .call { callee:=.value f,args:=xs,.. }=>match c6 (Ck.eval f) (xs.toList.map Ck.eval) with
  | some (g,vs)=>ael P g vs st o.dst Q
  | none=>False
 | _=>match yO P tt o Ck with
  | some v=>Q (st.put o.dst v)
  | none=>False
theorem ze {P:Program} {tt:Table} {o:Oper} {Ck st:St} {Q:St→Prop}:oS P tt o Ck st Q=tD P tt o Ck fun v=>Q (st.put o.dst v):=by unfold oS tD;split <;> rfl
def gv (tt:Table) (o:Oper) (key:Nat) (st:St):Option (bf×V) :=
 match o.op with
 | .alloc T=>match tt T with
  | some i=>some (.box (i.zero.map V.sc),.ptr key 0)
  | none=>none
 | .box _ x=>match lr (st.eval x) with
  | some cs=>some (.box cs,.ptr key 0)
  | none=>none
 | .buildSlice T len parts=>match w6 tt T len parts.toList st.eval with
  | some (size,rs)=>some (.rows 0 size rs,.ms key 0 0 len)
  | none=>none
 | .makeMap _ none=>some (.map [] 0,.mp key)
 | .makeSlice T l c=>match x7 tt T (st.eval l) (st.eval c) with
  | some (size,rs,_)=>some (.rows 0 size rs,.ms key 0 0 rs.length)
  | none=>none
 | _=>none
def nY (P:Program) (tt:Table) (key:Nat) (o:Oper) (st:St):Option (List bf×V) :=
 match o.op with
 | .store T p x=>match mJ tt st.mem T (st.eval p) (st.eval x) with
  | some bI=>some (bI,.sc undef)
  | none=>none
 | .call { callee:=.builtin .append,args:=xs,argTypes:=ts }=>match xs.toList.map st.eval with
  | [s,x]=>match eM tt st.mem ts.toList s x with
   | some (size,rH,rows)=>some (ew st.mem key size rows rH)
   | none=>none
  | _=>none
 | .mapUpdate T m k x=>match dB P st.mem T (st.eval m) (st.eval k) (st.eval x) with
  | some bI=>some (bI,.sc undef)
  | none=>none
 | .insert T m k x=>match dB P st.mem T (st.eval m) (st.eval k) (st.eval x) with
  | some bI=>some (bI,.sc undef)
  | none=>none
 | _=>none
def rb (tt:Table) (key:Nat) (o:Oper) (st:St):Option (List bf) :=
 match o.op with
 | .store T p x=>match st.eval p with
  | .ptr b off=>if b=key then mJ tt st.mem T (.ptr key off) (st.eval x) else none
  | _=>none
 | _=>none
def isHole (mem:List bf) (k:Nat):Bool:=match mem[k]? with|some .hole=>true|_=>false
theorem fN {mem:List bf} {k:Nat}:isHole mem k=true↔mem[k]?=some .hole:=by
 unfold isHole;split;·rename_i h;simp [h]
 rename_i h;simp;exact fun e=>h e
def Ak (P:Program) (f:FuncId) (vs:List V) (e:Nat) (rs:List V):Prop:=∃ v,bo P f vs [] (.ms 0 v 0 rs.length) [.rows v e rs]
def my (P:Program) (o:Oper) (ev:Operand→V) (Q:Nat→List V→Prop):Prop :=
 match o.op with
 | .call { callee:=.value f,args:=xs,.. }=>match c6 (ev f) (xs.toList.map ev) with
  | some (g,vs)=>∃ vs' e rs,ij [] vs=some vs'∧Ak P g vs' e rs∧Q e rs
  | none=>False
 | _=>False
theorem nw {P:Program} {o:Oper} {ev:Operand→V} {Q:Nat→List V→Prop}:my P o ev Q↔∃ e rs,my P o ev (fun e' mv=>e'=e∧mv=rs)∧Q e rs:=by
 unfold my;split;·split;(·constructor;(·rintro⟨vs',e,rs,h1,h2,h3⟩;exact⟨e,rs,⟨vs',e,rs,h1,h2,rfl,rfl⟩,h3⟩);rintro⟨e,rs,⟨vs',e',mv,h1,h2,h3,h4⟩,h5⟩;subst h3;subst h4;exact⟨vs',_,_,h1,h2,h5⟩);exact⟨fun h=>h.elim,fun ⟨_,_,h,_⟩=>h⟩
 exact⟨fun h=>h.elim,fun ⟨_,_,h,_⟩=>h⟩
def Al (st:St) (key:Nat) (dst:Option Tmp) (e:Nat) (rs:List V):St := { st with mem:=st.mem.set key (.rows 0 e rs) }.put dst (.ms key 0 0 rs.length)
def aem (P:Program) (f:FuncId) (vs:List V) (st:St) (key:Nat) (dst:Option Tmp) (Q:St→Prop):Prop:=∃ vs' e rs,ij [] vs=some vs'∧Ak P f vs' e rs∧Q (Al st key dst e rs)
def uC (P:Program) (o:Oper) (key:Nat) (st:St) (Q:St→Prop):Prop :=
 match o.op with
 | .call { callee:=.value f,args:=xs,.. }=>match c6 (st.eval f) (xs.toList.map st.eval) with
  | some (g,vs)=>aem P g vs st key o.dst Q
  | none=>False
 | _=>False
theorem CO {P:Program} {o:Oper} {key:Nat} {st:St} {Q:St→Prop}:uC P o key st Q=my P o st.eval fun e rs=>Q (Al st key o.dst e rs):=by unfold uC my;split <;> rfl
def eK:bf→bf
 | .box cs=>.box cs
 | _=>.dead
def nJ (tt:Table) (o:Oper) (st:St):Option V :=
 match o.op with
 | .load T x=>pd tt (st.mem.map eK) T (st.eval x)
 | _=>none
def isApp (o:Oper):Bool:=match o.op with|.call { callee:=.builtin .append,.. }=>true|_=>false
def rU (o:Oper):Bool:=match o.op with|.alloc _=>false|.box _ _=>false|_=>true
theorem xg (c:Bool) (B:bf):eK (ly c B)=if c=true then .dead else eK B:=by unfold ly;cases c with|false=>simp|true =>rw [if_pos rfl];by_cases hv:B.dI=0;(·rw [if_pos ⟨rfl,hv⟩];rfl);rw [if_neg (fun h=>hv h.2)];cases B <;> first|rfl|exact absurd rfl hv
theorem D7 {tt:Table} {o:Oper} {st:St} {v:V} {ks:List Nat} (h:nJ tt o { st with mem:=eg ks st.mem }=some v):nJ tt o st=some v:=by
 unfold nJ at h ⊢;split at h;·rename_i T x ho;(try simp only [ho]);(have e:St.eval { st with mem:=eg ks st.mem } x=st.eval x:=by cases x <;> rfl);rw [e] at h;dsimp only at h;unfold pd at h ⊢;split;(·rename_i b off he;rw [he] at h;dsimp only at h;rw [aq,l8] at h;rw [aq];cases hb:st.mem[b]? with|none=>rw [hb] at h;simp at h|some B =>rw [hb] at h;simp only [b9] at h ⊢;rw [xg] at h;by_cases hc:ks.contains b=true;(·rw [if_pos hc] at h;cases h);rw [if_neg hc] at h;exact h);(·rename_i b dI i off he;rw [he] at h;dsimp only at h;(have:rowOf ((eg ks st.mem).map eK) b dI i=none:=by unfold rowOf;rw [aq];cases hb:(eg ks st.mem)[b]? with|none=>rfl|some B=>cases B <;> rfl);rw [this] at h;cases h);(·rename_i cs he;rw [he] at h;exact h);rename_i h1 h2 h3;split at h;(·rename_i he;exact absurd he (h1 _ _));(·rename_i he;exact absurd he (h2 _ _ _ _));(·rename_i he;exact absurd he (h3 _));cases h
 cases h
theorem CP {ks:List Nat} {m m':List bf} (h:m.map eK=m'.map eK):(eg ks m).map eK=(eg ks m').map eK:=by apply dC;intro q;have hq:=congrArg (fun l=>l[q]?) h;simp only [aq] at hq;rw [aq,aq,l8,l8];cases h1:m[q]? with|none =>(rw [h1] at hq;cases h2:m'[q]? with|none=>rfl|some B=>rw [h2] at hq;cases hq)|some A =>rw [h1] at hq;cases h2:m'[q]? with|none=>rw [h2] at hq;cases hq|some B =>rw [h2] at hq;simp only [b9,aB] at hq ⊢;rw [xg,xg,hq]
theorem MK {P:Program} {tt:Table} {o:Oper} {st:St} {v:V} (h:nJ tt o st=some v):iq P tt st o=some v:=by
 unfold nJ at h;split at h;·rename_i T x ho;unfold iq;rw [ho];dsimp only;unfold pd at h ⊢;split;(·rename_i b off he;rw [he] at h;dsimp only at h;rw [aq] at h;cases hb:st.mem[b]? with|none=>rw [hb] at h;simp at h|some B =>rw [hb] at h;cases B <;> simp [eK] at h <;> exact h);(·rename_i b dI i off he;rw [he] at h;dsimp only at h;(have:rowOf (st.mem.map eK) b dI i=none:=by unfold rowOf;rw [aq];cases hb:st.mem[b]? with|none=>rfl|some B=>cases B <;> rfl);rw [this] at h;cases h);(·rename_i cs he;rw [he] at h;exact h);rename_i h1 h2 h3;split at h;(·rename_i he;exact absurd he (h1 _ _));(·rename_i he;exact absurd he (h2 _ _ _ _));(·rename_i he;exact absurd he (h3 _));cases h
 cases h
theorem rV {tt:Table} {mem:List bf} {ts:List TypeId} {s x:V} {size b dI:Nat} {rows:List V} (h:eM tt mem ts s x=some (size,some (b,dI),rows)):∃ e rs,mem[b]?=some (.rows dI e rs):=by
 have hl:∀ {sz:Nat} {rs:List V},ix mem sz s=some (some (b,dI),rs)→∃ e rs,mem[b]?=some (.rows dI e rs):=fun {sz rs} h=>by unfold ix at h;split at h;(·cases h);(·split at h <;> cases h);(·split at h;(·rename_i v' e mv hb;split at h;(·rename_i hc;simp only [aB,dn] at h;obtain⟨⟨rfl,rfl⟩,rfl⟩:=h;exact⟨_,_,by rw [hb,hc.1]⟩);cases h);cases h);cases h
 unfold eM at h;split at h
 ·split at h
  ·split at h
   ·first
    |skip
     split at h
     ·split at h
      ·split at h
       ·rename_i rH rs hlr
        split at h
        ·split at h
         ·split at h
          case isFalse=>cases h
          simp only [aB,dn] at h
          obtain⟨-,rfl,-⟩:=h
          exact hl hlr
         cases h
        cases h
       cases h
      cases h
     cases h
   cases h
  cases h
 cases h
theorem PL {P:Program} {tt:Table} {key:Nat} {o:Oper} {st:St} {m:List bf} {v:V} (ha:isApp o=true) (hh:st.mem[key]?=some .hole) (h:nY P tt key o st=some (m,v)):m.map eK=st.mem.map eK:=by
 have F0:∀ (k:Nat) (B0 B:bf),st.mem[k]?=some B0→eK B=eK B0→(st.mem.set k B).map eK=st.mem.map eK:=fun k B0 B h0 hB=>by apply dC;intro q;rw [aq,aq,bR];split;(·rename_i hq;subst hq;rw [if_pos (aA.1 h0).1,h0,b9,b9,hB]);rfl
 unfold isApp at ha;split at ha;·rename_i ho;unfold nY at h;rw [ho] at h;dsimp only at h;split at h;(·split at h;(·rename_i size rH rows IH;simp only [aB] at h;cases rH with|none =>simp only [ew,dn] at h;obtain⟨rfl,-⟩:=h;unfold da;rw [if_pos (aA.1 hh).1];exact F0 _ _ _ hh rfl|some p =>obtain⟨b,dI⟩:=p;simp only [ew,dn] at h;obtain⟨rfl,-⟩:=h;(have hb:∃ e rs,st.mem[b]?=some (.rows dI e rs):=by exact rV IH);obtain⟨e,rs,hb⟩:=hb;exact F0 _ _ _ hb rfl);cases h);cases h
 cases ha
def oo (P:Program) (o:Oper) (st:St) (Q:St→Prop):Prop :=
 match o.op with
 | .call { callee:=.value f,args:=xs,.. }=>match c6 (st.eval f) (xs.toList.map st.eval) with
  | some (g,vs)=>(∃ vs' r,ij st.mem vs=some vs'∧bJ P g vs' r∧Q ({ st with mem:=gQ st.mem (vs.flatMap gq) r }.put o.dst r)) ∨
   ∃ r m',bo P g vs st.mem r m'∧Q ({ st with mem:=m' }.put o.dst r)
  | none=>False
 | _=>False
theorem Am {P:Program} {o:Oper} {st:St} {K K':St→Prop} (h:oo P o st K) (hk:∀ s,K s→K' s):oo P o st K':=by
 unfold oo at h ⊢;split at h;·split at h;(·(rcases h with ⟨vs',r,h1,h2,h3⟩|⟨r,m',h1,h2⟩);(·exact .inl ⟨vs',r,h1,h2,hk _ h3⟩);exact .inr ⟨r,m',h1,hk _ h2⟩);exact h.elim
 exact h.elim
def nh:bf→Bool
 | .hole=>false
 | _=>true
def PM (fl:Bool) (P:Program) (g:FuncId) (vs:List V) (k:Nat) (st:St) (dst:Option Tmp) (Q:St→Prop):Prop :=
 ∃ v B0 B,B0.dI=0∧B.dI=0∧st.mem[k]?=some B0∧(bo P g vs st.mem v (st.mem.set k B)∧(fl=true→nh B=true∧∀ mem:List bf,mem[k]?=some B0→bo P g vs mem v (mem.set k B)))∧Q ({ st with mem:=st.mem.set k B }.put dst v)
def vt (fl:Bool) (P:Program) (tt:Table) (o:Oper) (k:Nat) (st:St) (Q:St→Prop):Prop :=
 match o.op with
 | .call { callee:=.value f,args:=xs,.. }=>match c6 (st.eval f) (xs.toList.map st.eval) with
  | some (g,vs)=>PM fl P g vs k st o.dst Q
  | none=>False
 | _=>match rb tt k o st with
  | some m=>Q ({ st with mem:=m }.put o.dst (.sc undef))
  | none=>False
def An (fl:Bool) (P:Program) (tt:Table) (o:Oper) (k:Nat) (st:St) (v:V) (m:List bf):Prop :=
 match o.op with
 | .call { callee:=.value f,args:=xs,.. }=>match c6 (st.eval f) (xs.toList.map st.eval) with
  | some (g,vs)=>∃ B0 B,B0.dI=0∧B.dI=0∧st.mem[k]?=some B0∧(bo P g vs st.mem v (st.mem.set k B)∧(fl=true→nh B=true∧∀ mem:List bf,mem[k]?=some B0→bo P g vs mem v (mem.set k B)))∧m=st.mem.set k B
  | none=>False
 | _=>v = .sc undef∧rb tt k o st=some m
theorem ML {fl:Bool} {P:Program} {tt:Table} {o:Oper} {k:Nat} {st:St} {Q:St→Prop}:vt fl P tt o k st Q↔∃ v m,An fl P tt o k st v m∧Q ({ st with mem:=m }.put o.dst v):=by
 unfold vt An;split;·split;(·constructor;(·rintro⟨v,B0,B,h1,h2,h3,h4,h5⟩;exact⟨v,_,⟨B0,B,h1,h2,h3,h4,rfl⟩,h5⟩);rintro⟨v,m,⟨B0,B,h1,h2,h3,h4,rfl⟩,h5⟩;exact⟨v,B0,B,h1,h2,h3,h4,h5⟩);exact⟨fun h=>h.elim,fun ⟨_,_,h,_⟩=>h.elim⟩
 split;·rename_i m hb;exact⟨fun h=>⟨_,m,⟨rfl,hb⟩,h⟩,fun ⟨u,m',⟨h1,h2⟩,h4⟩=>by rw [hb] at h2;cases h2;subst h1;exact h4⟩
 rename_i hb;exact⟨fun h=>h.elim,fun ⟨_,_,⟨_,h⟩,_⟩=>by rw [hb] at h;cases h⟩
def fq (P:Program) (tt:Table) (all:Array Oper) (base:Nat) (o:Oper) (p:Pl) (st:St) (Q:St→Prop):Prop :=
 match fC all st.fr o with
 | some true=>match p.cls with
  | .n=>oS P tt o { st with mem:=[] } st Q
  | .r=>oS P tt o { st with mem:=eg (p.mask.map (base + ·)++p.abs) st.mem } st Q
  | .a=>isHole st.mem (base+p.key)=true∧match gv tt o (base+p.key) st with
   | some (B,v)=>Q ({ st with mem:=st.mem.set (base+p.key) B }.put o.dst v)
   | none=>uC P o (base+p.key) st Q
  | .w=>isHole st.mem (base+p.key)=true∧match nY P tt (base+p.key) o st with
   | some (m,v)=>Q ({ st with mem:=m }.put o.dst v)
   | none=>False
  | .s=>match rb tt (base+p.key) o st with
   | some m=>Q ({ st with mem:=m }.put o.dst (.sc undef))
   | none=>False
  | .b=>match nJ tt o { st with mem:=eg (p.mask.map (base + ·)) st.mem } with
   | some v=>Q (st.put o.dst v)
   | none=>False
  | .z=>oo P o st Q
  | .e=>vt (!p.mask.isEmpty) P tt o p.key st Q
 | some false=>Q (st.put o.dst (.sc undef))
 | none=>False
@[congr] theorem Ze {P:Program} {tt:Table} {o:Oper} {sv sv' st st':St} {Q:St→Prop} (hv:sv=sv') (h:st=st'):oS P tt o sv st Q=oS P tt o sv' st' Q:=by rw [hv,h]
def lO (P:Program) (tt:Table) (all:Array Oper) (base:Nat) (o:Oper) (p:Pl) (st:St) (v:V) (m:List bf):Prop :=
 match fC all st.fr o with
 | some true=>match p.cls with
  | .n=>tD P tt o { st with mem:=[] } (fun u=>u=v)∧m=st.mem
  | .r=>tD P tt o { st with mem:=eg (p.mask.map (base + ·)++p.abs) st.mem } (fun u=>u=v)∧m=st.mem
  | .a=>isHole st.mem (base+p.key)=true∧∃ B,(gv tt o (base+p.key) st=some (B,v)∨gv tt o (base+p.key) st=none∧my P o st.eval (fun e rs=>B = .rows 0 e rs∧v = .ms (base+p.key) 0 0 rs.length))∧m=st.mem.set (base+p.key) B
  | .w=>isHole st.mem (base+p.key)=true∧nY P tt (base+p.key) o st=some (m,v)
  | .s=>v = .sc undef∧rb tt (base+p.key) o st=some m
  | .b=>nJ tt o { st with mem:=eg (p.mask.map (base + ·)) st.mem }=some v∧m=st.mem
  | .z=>False
  | .e=>An (!p.mask.isEmpty) P tt o p.key st v m
 | some false=>v = .sc undef∧m=st.mem
 | none=>False
theorem F4 {P:Program} {tt:Table} {o:Oper} {st:St} {Q:V→Prop}:tD P tt o st Q↔∃ v,tD P tt o st (fun u=>u=v)∧Q v:=by
 unfold tD;split;·split;(·constructor;(·rintro⟨vs',r,h1,h2,h3⟩;exact⟨r,⟨vs',r,h1,h2,rfl⟩,h3⟩);rintro⟨v,⟨vs',r,h1,h2,rfl⟩,h3⟩;exact⟨vs',r,h1,h2,h3⟩);exact⟨fun h=>h.elim,fun ⟨_,h,_⟩=>h⟩
 split;·exact⟨fun h=>⟨_,rfl,h⟩,fun ⟨_,h,hq⟩=>by subst h;exact hq⟩
 exact⟨fun h=>h.elim,fun ⟨_,h,_⟩=>h⟩
theorem jm {P:Program} {tt:Table} {all:Array Oper} {base:Nat} {o:Oper} {p:Pl} {st:St} {Q:St→Prop} (hz:p.cls ≠ .z) :
  fq P tt all base o p st Q↔∃ v m,lO P tt all base o p st v m∧Q ({ st with mem:=m }.put o.dst v):=by
 unfold fq lO;split;·split;(·rw [ze,F4];exact⟨fun ⟨v,h1,h2⟩=>⟨v,st.mem,⟨h1,rfl⟩,h2⟩,fun ⟨v,m,⟨h1,h2⟩,h3⟩=>⟨v,h1,by subst h2;exact h3⟩⟩);(·rw [ze,F4];exact⟨fun ⟨v,h1,h2⟩=>⟨v,st.mem,⟨h1,rfl⟩,h2⟩,fun ⟨v,m,⟨h1,h2⟩,h3⟩=>⟨v,h1,by subst h2;exact h3⟩⟩);(·split;(·rename_i B v hb;refine⟨fun ⟨h1,h2⟩=>⟨v,_,⟨h1,B,.inl hb,rfl⟩,h2⟩,fun ⟨u,m,⟨h1,B',h2,h3⟩,h4⟩=>?_⟩;(rcases h2 with h2|⟨h2,-⟩);(·rw [hb] at h2;cases h2;subst h3;exact⟨h1,h4⟩);rw [hb] at h2;cases h2);rename_i hb;rw [CO];constructor;(·rintro⟨h1,h2⟩;obtain⟨e,rs,h3,h4⟩:=nw.1 h2;exact⟨_,_,⟨h1,.rows 0 e rs,.inr ⟨hb,nw.2 ⟨e,rs,h3,rfl,rfl⟩⟩,rfl⟩,h4⟩);rintro⟨u,m,⟨h1,B',h2,h3⟩,h4⟩;(rcases h2 with h2|⟨-,h2⟩);(·rw [hb] at h2;cases h2);obtain⟨e,rs,h5,h6,h7⟩:=nw.1 h2;subst h6;subst h7;subst h3;exact⟨h1,nw.2 ⟨e,rs,h5,h4⟩⟩);(·split;(·rename_i m v hb;exact⟨fun ⟨h1,h2⟩=>⟨v,m,⟨h1,hb⟩,h2⟩,fun ⟨u,m',⟨h1,h2⟩,h4⟩=>by rw [hb] at h2;cases h2;exact⟨h1,h4⟩⟩);rename_i hb;exact⟨fun h=>h.2.elim,fun ⟨_,_,⟨_,h⟩,_⟩=>by rw [hb] at h;cases h⟩);(·split;(·rename_i m hb;exact⟨fun h=>⟨_,m,⟨rfl,hb⟩,h⟩,fun ⟨u,m',⟨h1,h2⟩,h4⟩=>by rw [hb] at h2;cases h2;subst h1;exact h4⟩);rename_i hb;exact⟨fun h=>h.elim,fun ⟨_,_,⟨_,h⟩,_⟩=>by rw [hb] at h;cases h⟩);(·split;(·rename_i v hb;exact⟨fun h=>⟨v,st.mem,⟨hb,rfl⟩,h⟩,fun ⟨u,m',⟨h1,h2⟩,h4⟩=>by rw [hb] at h1;cases h1;subst h2;exact h4⟩);rename_i hb;exact⟨fun h=>h.elim,fun ⟨_,_,⟨h,_⟩,_⟩=>by rw [hb] at h;cases h⟩);(·rename_i hc;exact absurd hc hz);exact ML
 ·exact⟨fun h=>⟨_,_,⟨rfl,rfl⟩,h⟩,fun ⟨v,m,⟨h1,h2⟩,h3⟩=>by subst h1;subst h2;exact h3⟩
 exact⟨fun h=>h.elim,fun ⟨_,_,h,_⟩=>h⟩
theorem jo {ρ ρ':Operand→V} {xs:Array Operand} (h:∀ x∈xs,ρ x=ρ' x):xs.toList.map ρ=xs.toList.map ρ' :=
 lM fun x hx=>h x (by simpa using hx)
theorem yg {bA:List (Nat×Nat)} {ρ ρ':Operand→V}:∀ {ps:List (Nat×Operand)} {cs:List V},(∀ p∈ps,ρ p.2=ρ' p.2)→vl bA ρ ps cs=vl bA ρ' ps cs
 | [],cs,_=>rfl
 | (i,x) :: r,cs,h=>by
  simp only [vl,h (i,x) (by simp)]
  split
  ·split
   ·split
    ·exact yg fun p hp=>h p (by simp [hp])
    rfl
   rfl
  rfl
theorem rW {ρ ρ':Operand→V}:∀ {ps:List (Nat×Operand)},(∀ p∈ps,ρ p.2=ρ' p.2)→mw ρ ps=mw ρ' ps
 | [],_=>rfl
 | (i,x) :: r,h=>by
  simp only [mw,h (i,x) (by simp)]
  rw [rW fun p hp=>h p (by simp [hp])]
theorem D8 {P:Program} {tt:Table} {T:TypeId} {ρ ρ':Operand→V} {ps:List (Nat×Operand)} (h:∀ p∈ps,ρ p.2=ρ' p.2):mL P tt T ps ρ=mL P tt T ps ρ':=by
 unfold mL;split;·rw [yg h,rW h]
 rfl
theorem Ao {tt:Table} {T:TypeId} {len:Nat} {ρ ρ':Operand→V} {ps:List (Nat×Operand)} (h:∀ p∈ps,ρ p.2=ρ' p.2):w6 tt T len ps ρ=w6 tt T len ps ρ':=by unfold w6;have:(ps.map fun p=>ρ p.2)=ps.map fun p=>ρ' p.2:=lM h;rw [this]
theorem MM {P:Program} {tt:Table} {o:Oper} {st st':St} (h:∀ x∈o.op.operands,st.eval x=st'.eval x) (hm:st.mem=st'.mem):iq P tt st o=iq P tt st' o:=by
 obtain⟨dst,op,type,pos,after,guard⟩:=o;cases op <;> simp only [Op.operands] at h <;> try rfl
 case slice T x lo hi mx =>
  cases mx <;> cases lo <;> cases hi <;> try rfl
  all_goals (simp only [iq];simp_all)
 case makeFunc fn first captured =>
  simp only [iq]
  rw [jo (xs:=first) fun x hx=>h x (by simp [hx]),jo (xs:=captured) fun x hx=>h x (by simp [hx])]
 case call c =>
  obtain⟨callee,args,ts⟩:=c
  have oq:args.toList.map st.eval=args.toList.map st'.eval:=jo fun x hx=>h x (by simp [Call.operands,hx])
  cases callee with
  | builtin b=>cases b <;> simp only [iq,oq,hm]
  | _=>rfl
 all_goals (simp only [iq];simp_all)
theorem II {P:Program} {tt:Table} {o:Oper} {st st':St} (h:∀ x∈o.op.operands,st.eval x=st'.eval x) (hm:st.mem=st'.mem):yO P tt o st=yO P tt o st':=by
 have h0:=MM (P:=P) (tt:=tt) h hm;obtain⟨dst,op,type,pos,after,guard⟩:=o;cases op <;> try exact h0
 case build T ps=>exact D8 fun p hp=>h p.2 (by simp only [Op.operands];simpa using ⟨p.1,by simpa using hp⟩)
 case buildSlice T len ps =>
  simp only [yO]
  rw [Ao fun p hp=>h p.2 (by simp only [Op.operands];simpa using ⟨p.1,by simpa using hp⟩)]
theorem Ap {P:Program} {tt:Table} {o:Oper} {st st':St} {Q:V→Prop} (h:∀ x∈o.op.operands,st.eval x=st'.eval x) (hm:st.mem=st'.mem):tD P tt o st Q=tD P tt o st' Q:=by
 have h0:=II (P:=P) (tt:=tt) h hm;unfold tD;rw [h0];split;·rename_i f xs ts heq;rw [heq] at h;have oq:xs.toList.map st.eval=xs.toList.map st'.eval:=jo fun x hx=>h x (by simp [Op.operands,Call.operands,hx]);have hf:st.eval f=st'.eval f:=h f (by simp [Op.operands,Call.operands]);rw [oq,hf]
 rfl
theorem ni {tt:Table} {o:Oper} {key:Nat} {st st':St} (h:∀ x∈o.op.operands,st.eval x=st'.eval x):gv tt o key st=gv tt o key st':=by
 obtain⟨dst,op,type,pos,after,guard⟩:=o;cases op <;> try rfl
 case makeMap t r=>cases r <;> rfl
 case makeSlice t l c=>simp only [gv];rw [h l (by simp [Op.operands]),h c (by simp [Op.operands])]
 case box T x=>simp only [gv];rw [h x (by simp [Op.operands])]
 case buildSlice T len ps =>
  simp only [gv]
  rw [Ao fun p hp=>h p.2 (by simp only [Op.operands];simpa using ⟨p.1,by simpa using hp⟩)]
theorem ot {P:Program} {o:Oper} {ρ ρ':Operand→V} {Q:Nat→List V→Prop} (h:∀ x∈o.op.operands,ρ x=ρ' x):my P o ρ Q=my P o ρ' Q:=by
 unfold my;split;·rename_i f xs ts heq;rw [heq] at h;have oq:xs.toList.map ρ=xs.toList.map ρ':=jo fun x hx=>h x (by simp [Op.operands,Call.operands,hx]);have hf:ρ f=ρ' f:=h f (by simp [Op.operands,Call.operands]);rw [oq,hf]
 rfl
theorem IJ {P:Program} {tt:Table} {o:Oper} {key:Nat} {st st':St} (h:∀ x∈o.op.operands,st.eval x=st'.eval x) (hm:st.mem=st'.mem):nY P tt key o st=nY P tt key o st':=by
 obtain⟨dst,op,type,pos,after,guard⟩:=o;cases op <;> try rfl
 case store T p x=>simp only [nY,hm];rw [h p (by simp [Op.operands]),h x (by simp [Op.operands])]
 case mapUpdate T m k x=>simp only [nY,hm];rw [h m (by simp [Op.operands]),h k (by simp [Op.operands]),h x (by simp [Op.operands])]
 case insert T m k x=>simp only [nY,hm];rw [h m (by simp [Op.operands]),h k (by simp [Op.operands]),h x (by simp [Op.operands])]
 case call c =>
  obtain⟨callee,args,ts⟩:=c
  have oq:args.toList.map st.eval=args.toList.map st'.eval:=jo fun x hx=>h x (by simp [Op.operands,Call.operands,hx])
  cases callee with
  | builtin b=>cases b <;> simp only [nY,oq,hm]
  | _=>rfl
theorem Aq {tt:Table} {o:Oper} {key:Nat} {st st':St} (h:∀ x∈o.op.operands,st.eval x=st'.eval x) (hm:st.mem=st'.mem):rb tt key o st=rb tt key o st':=by
 obtain⟨dst,op,type,pos,after,guard⟩:=o;cases op <;> try rfl
 case store T p x=>simp only [rb,hm];rw [h p (by simp [Op.operands]),h x (by simp [Op.operands])]
theorem Ar {tt:Table} {o:Oper} {key:Nat} {st:St} {m:List bf} (h:rb tt key o st=some m) :
  ∃ B0 B:bf,(B0.dI=0∧nh B=true)∧B.dI=0∧st.mem[key]?=some B0∧m=st.mem.set key B∧∀ mem:List bf,mem[key]?=some B0→rb tt key o { st with mem:=mem }=some (mem.set key B):=by
 have ev:∀ (mem:List bf) (x:Operand),St.eval { st with mem:=mem } x=st.eval x:=fun mem x=>by cases x <;> rfl
 unfold rb at h ⊢;obtain⟨dst,op,type,pos,after,guard⟩:=o;cases op <;> try (cases h)
 case store T p x =>
  simp only [ev]
  dsimp only at h
  split at h
  ·rename_i b off hp
   split at h
   ·rename_i hb
    subst hb
    unfold mJ at h
    split at h
    ·cases h
    rename_i new hn
    split at h
    ·rename_i iw
     dsimp only at h
     split at h
     ·rename_i cs mc
      split at h
      ·rename_i hle
       cases h
       refine⟨.box cs,.box (j1 cs off new),⟨rfl,rfl⟩,rfl,mc,rfl,fun mem hm=>?_⟩
       simp only [hp,if_true]
       unfold mJ
       simp only [hn,iw,if_true,hm,hle]
      cases h
     cases h
    cases h
   cases h
  cases h
theorem eval_put {st:St} {dst:Option Tmp} {v:V} {x:Operand} (h:∀ d,dst=some d→x ≠ .tmp d):(st.put dst v).eval x=st.eval x:=by cases dst with|none=>rfl|some d =>cases x with|tmp t =>have dy:d≠t:=fun e=>h d rfl (e ▸ rfl);simp [St.eval,St.put,List.getD,cD dy]|_=>rfl
theorem UF (st:St) (dst:Option Tmp) (v:V):(st.put dst v).mem=st.mem:=by cases dst <;> rfl
theorem Cl {all:Array Oper} {o:Oper} {d:Tmp} (h:d ∉ o.looksAt all):∀ x∈o.op.operands,x ≠ .tmp d:=by rintro x hx rfl;exact h (by unfold Oper.looksAt;exact dD _ (List.mem_filterMap.2 ⟨.tmp d,by simpa using hx,rfl⟩))
theorem F5 {all:Array Oper} {o:Oper} {st:St} {dst:Option Tmp} {v:V} (h:∀ d,dst=some d→d ∉ o.looksAt all):fC all (st.put dst v).fr o=fC all st.fr o:=by cases dst with|none=>rfl|some d =>have hd:=h d rfl;unfold fC;split;(·rfl);rename_i j want hg;split;(·rfl);rename_i e he;(have dy:d≠e:=by rintro rfl;exact hd (by unfold Oper.looksAt;exact eP _ (by rw [hg];simp only [];rw [he];simp)));simp only [St.put,cD dy]
section
variable {P:Program} {tt:Table} {all:Array Oper} {base:Nat}
theorem F6 {o:Oper} {st st':St} (h:∀ x∈o.op.operands,st.eval x=st'.eval x) (hm:st.mem=st'.mem):nJ tt o st=nJ tt o st':=by
 unfold nJ;split;·rename_i T x ho;rw [hm,h x (by rw [ho];simp [Op.operands])]
 rfl
theorem IK {fl:Bool} {P:Program} {tt:Table} {o:Oper} {k:Nat} {st st':St} {v:V} {m:List bf} (h:∀ x∈o.op.operands,st.eval x=st'.eval x) (hm:st.mem=st'.mem):An fl P tt o k st v m=An fl P tt o k st' v m:=by
 have hs:=Aq (tt:=tt) (key:=k) h hm;unfold An;split;·rename_i f xs ts heq;rw [heq] at h;have oq:xs.toList.map st.eval=xs.toList.map st'.eval:=lM fun x hx=>h x (by simp [Op.operands,Call.operands];exact .inr (by simpa using hx));have hf:st.eval f=st'.eval f:=h f (by simp [Op.operands,Call.operands]);rw [oq,hf,hm]
 rw [hs]
theorem PN {fl:Bool} {P:Program} {tt:Table} {o:Oper} {k:Nat} {st:St} {v:V} {m:List bf} (h:An fl P tt o k st v m):∃ B0 B:bf,B0.dI=0∧B.dI=0∧st.mem[k]?=some B0∧m=st.mem.set k B:=by
 unfold An at h;split at h;·split at h;(·obtain⟨B0,B,h1,h2,h3,h4,h5⟩:=h;exact⟨B0,B,h1,h2,h3,h5⟩);exact h.elim
 obtain⟨B0,B,h1,h2,h3,h4,-⟩:=Ar h.2;exact⟨B0,B,h1.1,h2,h3,h4⟩
theorem MN {o:Oper} {p:Pl} {st st':St} {v:V} {m:List bf} (hw:fC all st.fr o=fC all st'.fr o) (h:∀ x∈o.op.operands,st.eval x=st'.eval x) (hm:st.mem=st'.mem) :
  lO P tt all base o p st v m=lO P tt all base o p st' v m:=by
 have e1:∀ (mem:List bf) (x:Operand),St.eval { st with mem:=mem } x=st.eval x:=fun mem x=>by cases x <;> rfl
 have e2:∀ (mem:List bf) (x:Operand),St.eval { st' with mem:=mem } x=st'.eval x:=fun mem x=>by cases x <;> rfl
 unfold lO;rw [hw,ni h,IJ h hm,Aq h hm,F6 (st := { st with mem:=eg (p.mask.map (base + ·)) st.mem }) (st' := { st' with mem:=eg (p.mask.map (base + ·)) st'.mem }) (fun x hx=>by rw [e1,e2];exact h x hx) (by rw [hm]),IK h hm,hm];simp only [ot h]
 rw [Ap (st := { st with mem:=[] }) (st' := { st' with mem:=[] }) (fun x hx=>by rw [e1,e2];exact h x hx) rfl,
  Ap (st := { st with mem:=eg (p.mask.map (base + ·)++p.abs) st'.mem }) (st' := { st' with mem:=eg (p.mask.map (base + ·)++p.abs) st'.mem }) (fun x hx=>by rw [e1,e2];exact h x hx) rfl]
theorem KW {o:Oper} {p:Pl} {st:St} {dst:Option Tmp} {u v:V} {m:List bf} (h:∀ d,dst=some d→d ∉ o.looksAt all):lO P tt all base o p (st.put dst u) v m=lO P tt all base o p st v m :=
 MN (F5 h) (fun x hx=>eval_put fun d hd=>Cl (h d hd) x hx) (UF _ _ _)
def xh (all:Array Oper) (x:Oper) (px:Pl) (y:Oper) (py:Pl):Bool :=
 px.cls != .z&&py.cls != .z&&x.apart all y&&(px.cls == .n||py.cls == .n||(px.cls == .r&&py.cls == .r)||((px.cls == .a||px.cls == .s)&&py.cls == .r&&py.mask.contains px.key)||(px.cls == .r&&(py.cls == .a||py.cls == .s)&&px.mask.contains py.key)||((px.cls == .a||px.cls == .s)&&(py.cls == .a||py.cls == .s)&&px.key != py.key)||(px.cls == .b&&(py.cls == .r||py.cls == .b||(py.cls == .w&&isApp y)||(py.cls == .a&&rU y)))||(py.cls == .b&&(px.cls == .r||(px.cls == .w&&isApp x)||(px.cls == .a&&rU x)))||(px.cls == .e&&py.cls == .r&&py.abs.contains px.key)||(px.cls == .r&&py.cls == .e&&px.abs.contains py.key)||(px.cls == .b&&(py.cls == .a||py.cls == .s)&&px.mask.contains py.key)||(py.cls == .b&&(px.cls == .a||px.cls == .s)&&py.mask.contains px.key)||(px.cls == .w&&isApp x&&py.cls == .a && !rU y&&px.key != py.key)||(py.cls == .w&&isApp y&&px.cls == .a && !rU x&&px.key != py.key)||(px.cls == .e && !px.mask.isEmpty&&py.cls == .a))
theorem IL {o:Oper} {key:Nat} {st:St} {B:bf} {v:V} (h:gv tt o key st=some (B,v)):B.dI=0:=by
 unfold gv at h;split at h;·split at h <;> cases h <;> rfl
 ·split at h <;> cases h <;> rfl
 ·split at h <;> cases h <;> rfl
 ·cases h;rfl
 ·split at h <;> cases h <;> rfl
 cases h
theorem xi {o:Oper} {p:Pl} (hp:p.cls = .n) {st:St} {v:V} {m:List bf} (h:lO P tt all base o p st v m) (mem:List bf):m=st.mem∧lO P tt all base o p { st with mem:=mem } v mem:=by
 unfold lO at h ⊢;dsimp only;split at h;·rename_i hw;rw [hp] at h;simp only [hw,hp];exact⟨h.2,h.1,trivial⟩
 ·rename_i hw;simp only [hw];exact⟨h.2,h.1,trivial⟩
 exact h.elim
theorem gN {o:Oper} {p:Pl} (hp:p.cls = .r) {st:St} {v:V} {m:List bf} (h:lO P tt all base o p st v m) {mem:List bf} (hm:eg (p.mask.map (base + ·)++p.abs) mem=eg (p.mask.map (base + ·)++p.abs) st.mem) :
  m=st.mem∧lO P tt all base o p { st with mem:=mem } v mem:=by
 unfold lO at h ⊢;dsimp only;split at h;·rename_i hw;rw [hp] at h;simp only [hw,hp];exact⟨h.2,by rw [hm];exact h.1,trivial⟩
 ·rename_i hw;simp only [hw];exact⟨h.2,h.1,trivial⟩
 exact h.elim
theorem nx {o:Oper} {p:Pl} (hp:p.cls = .a∨p.cls = .s) {st:St} {v:V} {m:List bf} (h:lO P tt all base o p st v m) :
  (m=st.mem∧∀ mem,lO P tt all base o p { st with mem:=mem } v mem) ∨
  ∃ B0 B:bf,B0.dI=0∧B.dI=0∧st.mem[base+p.key]?=some B0∧m=st.mem.set (base+p.key) B∧∀ mem:List bf,mem[base+p.key]?=some B0→lO P tt all base o p { st with mem:=mem } v (mem.set (base+p.key) B):=by
 unfold lO at h;split at h;·rename_i hw;(rcases hp with hp|hp);(·rw [hp] at h;obtain⟨h1,B,h2,h3⟩:=h;(have Ul:B.dI=0:=by (rcases h2 with h2|⟨-,h2⟩);(·exact IL h2);obtain⟨e,rs,-,h5,-⟩:=nw.1 h2;rw [h5];rfl);refine .inr ⟨.hole,B,rfl,Ul,fN.1 h1,h3,fun mem hm=>?_⟩;unfold lO;simp only [hw,hp];refine⟨fN.2 hm,B,?_,rfl⟩;(have e0:gv tt o (base+p.key) { st with mem:=mem }=gv tt o (base+p.key) st:=ni fun x _=>by cases x <;> rfl);rw [e0];(have e1:∀ Q,my P o (St.eval { st with mem:=mem }) Q=my P o st.eval Q:=fun Q=>ot fun x _=>by cases x <;> rfl);rw [e1];exact h2);rw [hp] at h;obtain⟨h1,h2⟩:=h;obtain⟨B0,B,h3,h4,h5,h6,h7⟩:=Ar h2;refine .inr ⟨B0,B,h3.1,h4,h5,h6,fun mem hm=>?_⟩;unfold lO;simp only [hw,hp];exact⟨h1,h7 mem hm⟩
 ·rename_i hw;refine .inl ⟨h.2,fun mem=>?_⟩;unfold lO;simp only [hw];exact⟨h.1,trivial⟩
 exact h.elim
theorem CQ {o:Oper} {p:Pl} (hp:p.cls = .e) {st:St} {v:V} {m:List bf} (h:lO P tt all base o p st v m) :
  m=st.mem∨∃ B0 B:bf,B0.dI=0∧B.dI=0∧st.mem[p.key]?=some B0∧m=st.mem.set p.key B:=by
 unfold lO at h;split at h;·rw [hp] at h;exact .inr (PN h)
 ·exact .inl h.2
 exact h.elim
theorem IN {o:Oper} {p:Pl} (hp:p.cls = .a) {st:St} {v:V} {m:List bf} (h:lO P tt all base o p st v m) :
  (m=st.mem∧∀ mem,lO P tt all base o p { st with mem:=mem } v mem) ∨
  ∃ B:bf,st.mem[base+p.key]?=some .hole∧m=st.mem.set (base+p.key) B∧∀ mem:List bf,mem[base+p.key]?=some .hole→lO P tt all base o p { st with mem:=mem } v (mem.set (base+p.key) B):=by
 unfold lO at h;split at h;·rename_i hw;rw [hp] at h;obtain⟨h1,B,h2,h3⟩:=h;refine .inr ⟨B,fN.1 h1,h3,fun mem hm=>?_⟩;unfold lO;simp only [hw,hp];refine⟨fN.2 hm,B,?_,rfl⟩;(have e0:gv tt o (base+p.key) { st with mem:=mem }=gv tt o (base+p.key) st:=ni fun x _=>by cases x <;> rfl);rw [e0];(have e1:∀ Q,my P o (St.eval { st with mem:=mem }) Q=my P o st.eval Q:=fun Q=>ot fun x _=>by cases x <;> rfl);rw [e1];exact h2
 ·rename_i hw;refine .inl ⟨h.2,fun mem=>?_⟩;unfold lO;simp only [hw];exact⟨h.1,trivial⟩
 exact h.elim
theorem IP {o:Oper} {p:Pl} (hp:p.cls = .e) (hf:(!p.mask.isEmpty)=true) {st:St} {v:V} {m:List bf} (h:lO P tt all base o p st v m) :
  (m=st.mem∧∀ mem,lO P tt all base o p { st with mem:=mem } v mem) ∨
  ∃ B0 B:bf,nh B=true∧st.mem[p.key]?=some B0∧m=st.mem.set p.key B∧∀ mem:List bf,mem[p.key]?=some B0→lO P tt all base o p { st with mem:=mem } v (mem.set p.key B):=by
 unfold lO at h;split at h;·rename_i hw;rw [hp] at h;dsimp only at h;(have ho:∀ mem:List bf,St.eval { st with mem:=mem }=st.eval:=fun mem=>funext fun x=>by cases x <;> rfl);unfold An at h;split at h;(·rename_i f xs ts heq;split at h;(·rename_i g vs hg;obtain⟨B0,B,h1,h2,h3,⟨h4,h5⟩,h6⟩:=h;obtain⟨h7,h8⟩:=h5 hf;refine .inr ⟨B0,B,h7,h3,h6,fun mem hm=>?_⟩;unfold lO;simp only [hw,hp];unfold An;rw [heq];dsimp only;rw [ho mem,hg];exact⟨B0,B,h1,h2,hm,⟨h8 mem hm,fun _=>⟨h7,h8⟩⟩,rfl⟩);exact h.elim);rename_i dy;obtain⟨h1,h2⟩:=h;obtain⟨B0,B,h3,h4,h5,h6,h7⟩:=Ar h2;refine .inr ⟨B0,B,h3.2,h5,h6,fun mem hm=>?_⟩;unfold lO;simp only [hw,hp];unfold An;split;(·rename_i f xs ts heq;exact (dy _ _ _ heq).elim);exact⟨h1,h7 mem hm⟩
 ·rename_i hw;refine .inl ⟨h.2,fun mem=>?_⟩;unfold lO;simp only [hw];exact⟨h.1,trivial⟩
 exact h.elim
theorem pA {o:Oper} {p:Pl} (hp:p.cls = .b) {st:St} {v:V} {m:List bf} (h:lO P tt all base o p st v m) :
  m=st.mem∧∀ mem:List bf,(eg (p.mask.map (base + ·)) mem).map eK=(eg (p.mask.map (base + ·)) st.mem).map eK→lO P tt all base o p { st with mem:=mem } v mem:=by
 unfold lO at h ⊢;dsimp only;split at h;·rename_i hw;rw [hp] at h;simp only [hw,hp];refine⟨h.2,fun mem hm=>⟨?_,trivial⟩⟩;have h1:=h.1;unfold nJ at h1 ⊢;split at h1;(·rename_i T x ho;(have e:St.eval { st with mem:=eg (p.mask.map (base + ·)) mem } x=St.eval { st with mem:=eg (p.mask.map (base + ·)) st.mem } x:=by cases x <;> rfl);show pd tt ((eg (p.mask.map (base + ·)) mem).map eK) T (St.eval { st with mem:=eg (p.mask.map (base + ·)) mem } x)=some v;rw [hm,e];exact h1);cases h1
 ·rename_i hw;simp only [hw];exact⟨h.2,fun _ _=>⟨h.1,trivial⟩⟩
 exact h.elim
theorem CR {o:Oper} {p:Pl} (hp:p.cls = .w) (ha:isApp o=true) {st:St} {v:V} {m:List bf} (h:lO P tt all base o p st v m):m.map eK=st.mem.map eK:=by
 unfold lO at h;split at h;·rw [hp] at h;exact PL ha (fN.1 h.1) h.2
 ·rw [h.2]
 exact h.elim
theorem As {o:Oper} {p:Pl} (hp:p.cls = .a) (ha:rU o=true) {st:St} {v:V} {m:List bf} (h:lO P tt all base o p st v m):m.map eK=st.mem.map eK:=by
 unfold lO at h;split at h;·rw [hp] at h;obtain⟨h1,B,h2,rfl⟩:=h;(have hB:eK B = .dead:=by (rcases h2 with h2|⟨-,h2⟩);(·unfold gv at h2;unfold rU at ha;split at h2;(·rename_i he;rw [he] at ha;cases ha);(·rename_i he;rw [he] at ha;cases ha);(·split at h2 <;> cases h2;rfl);(·cases h2;rfl);(·split at h2 <;> cases h2;rfl);cases h2);obtain⟨e,rs,-,h5,-⟩:=nw.1 h2;rw [h5];rfl);have hh:=fN.1 h1;apply dC;intro q;rw [aq,aq,bR];split;(·rename_i hq;subst hq;rw [if_pos (aA.1 hh).1,hh,b9,b9,hB];rfl);rfl
 ·rw [h.2]
 exact h.elim
theorem IQ {mem:List bf} {q:Nat} {cs:List V} (hq:mem[q]?=some .hole) (n:Nat) (v:V):rowsOf (mem.set q (.box cs)) n v=rowsOf mem n v:=by cases v with|ms b dI s l =>simp only [rowsOf];by_cases hb:q=b;(·subst hb;rw [hq,eJ (aA.1 hq).1]);rw [cD hb]|sc w=>unfold rowsOf;split <;> (try split) <;> simp_all|_=>rfl
theorem D9 {mem:List bf} {q:Nat} {cs:List V} (hq:mem[q]?=some .hole) (n:Nat) (v:V):ix (mem.set q (.box cs)) n v=ix mem n v:=by cases v with|ms b dI s l =>(cases s with|zero =>simp only [ix];by_cases hb:q=b;(·subst hb;rw [hq,eJ (aA.1 hq).1]);rw [cD hb]|succ s=>rfl)|sc w=>unfold ix;split <;> (try split) <;> simp_all|_=>rfl
theorem MO {tt:Table} {mem:List bf} {q:Nat} {cs:List V} (hq:mem[q]?=some .hole) (u:TypeId) (n:Nat) (x:V):rG tt (mem.set q (.box cs)) u n x=rG tt mem u n x:=by unfold rG;simp only [IQ hq]
theorem F7 {tt:Table} {mem:List bf} {q:Nat} {cs:List V} (hq:mem[q]?=some .hole) (ts:List TypeId) (s x:V):eM tt (mem.set q (.box cs)) ts s x=eM tt mem ts s x:=by unfold eM;simp only [MO hq,D9 hq]
theorem F8 {P:Program} {tt:Table} {key q:Nat} {cs:List V} {o:Oper} {st:St} (ha:isApp o=true) (hk:st.mem[key]?=some .hole) (hq:st.mem[q]?=some .hole) (dy:key≠q) :
  nY P tt key o { st with mem:=st.mem.set q (.box cs) }=(nY P tt key o st).map fun p=>(p.1.set q (.box cs),p.2):=by
 unfold isApp at ha;split at ha;·rename_i xs ts ho;unfold nY;simp only [ho];(have em:xs.toList.map (St.eval { st with mem:=st.mem.set q (.box cs) })=xs.toList.map st.eval:=lM fun x _=>by cases x <;> rfl);rw [em];split;(·rename_i s x hl;rw [F7 hq];cases IH:eM tt st.mem ts.toList s x with|none=>rfl|some r =>obtain⟨size,rH,rows⟩:=r;cases rH with|none =>simp only [ew,b9];unfold da;rw [atI,if_pos (aA.1 hk).1,if_pos (aA.1 hk).1,apr _ _ dy]|some p =>obtain⟨b,dI⟩:=p;obtain⟨e,rs,hb⟩:=rV IH;(have hbq:b≠q:=fun e=>by subst e;rw [hq] at hb;cases hb);simp only [ew,b9];rw [apr _ _ hbq]);rfl
 cases ha
theorem CS {P:Program} {tt:Table} {key q:Nat} {o:Oper} {st:St} {m:List bf} {v:V} (ha:isApp o=true) (hk:st.mem[key]?=some .hole) (dy:key≠q) (h:nY P tt key o st=some (m,v)):m[q]?=some .hole↔st.mem[q]?=some .hole:=by
 unfold isApp at ha;split at ha;·rename_i xs ts ho;unfold nY at h;simp only [ho] at h;split at h;(·split at h;(·rename_i size rH rows IH;simp only [aB] at h;cases rH with|none =>simp only [ew,dn] at h;obtain⟨rfl,-⟩:=h;unfold da;rw [if_pos (aA.1 hk).1,cD dy]|some p =>obtain⟨b,dI⟩:=p;obtain⟨e,rs,hb⟩:=rV IH;simp only [ew,dn] at h;obtain⟨rfl,-⟩:=h;by_cases hbq:b=q;(·subst hbq;rw [eJ (aA.1 hb).1,hb];exact⟨fun h=>(by cases h),fun h=>(by cases h)⟩);rw [cD hbq]);cases h);cases h
 cases ha
theorem At {o:Oper} {p:Pl} (hp:p.cls = .a) (hb:rU o=false) {st:St} {v:V} {m:List bf} (h:lO P tt all base o p st v m) :
  (m=st.mem∧∀ mem,lO P tt all base o p { st with mem:=mem } v mem) ∨
  (st.mem[base+p.key]?=some .hole∧∃ cs,m=st.mem.set (base+p.key) (.box cs)∧∀ mem:List bf,mem[base+p.key]?=some .hole→lO P tt all base o p { st with mem:=mem } v (mem.set (base+p.key) (.box cs))):=by
 unfold lO at h;split at h;·rename_i hw;rw [hp] at h;obtain⟨h1,B,h2,h3⟩:=h;(have hB:∃ cs,B = .box cs:=by (rcases h2 with h2|⟨-,h2⟩);(·unfold gv at h2;unfold rU at hb;split at hb;(·rename_i he;rw [he] at h2;dsimp only at h2;split at h2 <;> cases h2;exact⟨_,rfl⟩);(·rename_i he;rw [he] at h2;dsimp only at h2;split at h2 <;> cases h2;exact⟨_,rfl⟩);cases hb);unfold rU at hb;unfold my at h2;split at hb;(·rename_i he;rw [he] at h2;exact h2.elim);(·rename_i he;rw [he] at h2;exact h2.elim);cases hb);obtain⟨cs,rfl⟩:=hB;refine .inr ⟨fN.1 h1,cs,h3,fun mem hm=>?_⟩;unfold lO;simp only [hw,hp];refine⟨fN.2 hm,_,?_,rfl⟩;(have e0:gv tt o (base+p.key) { st with mem:=mem }=gv tt o (base+p.key) st:=ni fun x _=>by cases x <;> rfl);rw [e0];(have e1:∀ Q,my P o (St.eval { st with mem:=mem }) Q=my P o st.eval Q:=fun Q=>ot fun x _=>by cases x <;> rfl);rw [e1];exact h2
 ·rename_i hw;refine .inl ⟨h.2,fun mem=>?_⟩;unfold lO;simp only [hw];exact⟨h.1,trivial⟩
 exact h.elim
theorem Au {o:Oper} {p:Pl} (hp:p.cls = .w) {st:St} {v:V} {m:List bf} (h:lO P tt all base o p st v m) :
  (m=st.mem∧∀ mem,lO P tt all base o p { st with mem:=mem } v mem) ∨
  (st.mem[base+p.key]?=some .hole∧nY P tt (base+p.key) o st=some (m,v)∧∀ mem m',mem[base+p.key]?=some .hole→nY P tt (base+p.key) o { st with mem:=mem }=some (m',v)→lO P tt all base o p { st with mem:=mem } v m'):=by
 unfold lO at h;split at h;·rename_i hw;rw [hp] at h;refine .inr ⟨fN.1 h.1,h.2,fun mem m' h1 h2=>?_⟩;unfold lO;simp only [hw,hp];exact⟨fN.2 h1,h2⟩
 ·rename_i hw;refine .inl ⟨h.2,fun mem=>?_⟩;unfold lO;simp only [hw];exact⟨h.1,trivial⟩
 exact h.elim
theorem St.put_comm (st:St) {x y:Option Tmp} (v u:V) (h:∀ d,x=some d→y≠some d):(st.put x v).put y u=(st.put y u).put x v:=by cases x with|none=>rfl|some d =>cases y with|none=>rfl|some e =>have dy:d≠e:=fun he=>h d rfl (he ▸ rfl);simp [St.put,apr _ _ dy]
theorem F9 (st:St) (x:Option Tmp) (v:V) (m:List bf) : { st.put x v with mem:=m }=St.put { st with mem:=m } x v:=by cases x <;> rfl
theorem IS {x y:Oper} {px py:Pl} (jH:xh all x px y py=true) {st:St} {Q:St→Prop} (h:fq P tt all base x px st fun st'=>fq P tt all base y py st' Q) :
  fq P tt all base y py st fun st'=>fq P tt all base x px st' Q:=by
 unfold xh at jH;rw [aJ,aJ,aJ] at jH;obtain⟨⟨⟨W1,hzy⟩,IH⟩,mf⟩:=jH;have W1:px.cls ≠ .z:=by simpa using W1
 have hzy:py.cls ≠ .z:=by simpa using hzy
 obtain⟨hxy,PO,hyx⟩:=Oper.apart_spec IH;obtain⟨v,m1,h1,h2⟩:=(jm W1).1 h;obtain⟨u,m2,h3,h4⟩:=(jm hzy).1 h2;rw [KW hxy] at h3;have fin:∀ m1' , lO P tt all base y py st u m1'→lO P tt all base x px { st with mem:=m1' } v m2→fq P tt all base y py st fun st'=>fq P tt all base x px st' Q:=fun m1' h5 h6=>by refine (jm hzy).2 ⟨u,m1',h5,(jm W1).2 ⟨v,m2,by rw [KW hyx];exact h6,?_⟩⟩;(have e1:({ (St.put { st with mem:=m1 } x.dst v) with mem:=m2 }:St).put y.dst u=({ (St.put { st with mem:=m1' } y.dst u) with mem:=m2 }:St).put x.dst v:=by rw [F9,F9];exact St.put_comm _ _ _ PO);rw [← e1];exact h4
 have back:∀ (m:List bf) (z:Oper) (pz:Pl) (c:V) (m':List bf),lO P tt all base z pz { ({ st with mem:=m }:St) with mem:=st.mem } c m'=lO P tt all base z pz st c m':=fun _ _ _ _ _=>rfl;simp only [dN,aJ,beq_iff_eq,bne_iff_ne] at mf;rcases mf with (((((((((((((hn|hn)|⟨hr,za⟩)|⟨⟨ha,hr⟩,hm⟩)|⟨⟨hr,ha⟩,hm⟩)|⟨⟨ha,ha'⟩,dy⟩)|⟨hb,hy⟩)|⟨hb,hx⟩)|⟨⟨he,hr⟩,hm⟩)|⟨⟨hr,he⟩,hm⟩)|⟨⟨hb,ha⟩,hm⟩)|⟨⟨hb,ha⟩,hm⟩)|⟨⟨⟨⟨hw,IH⟩,ha⟩,rl⟩,dy⟩)|⟨⟨⟨⟨hw,IH⟩,ha⟩,rl⟩,dy⟩)|⟨⟨he,hm⟩,ha⟩
 ·obtain⟨rfl,-⟩:=xi hn h1 [];exact fin m2 h3 (xi hn h1 m2).2
 ·obtain⟨h5,h6⟩:=xi hn h3 st.mem;dsimp only at h5;subst h5;exact fin st.mem h6 h1
 ·obtain⟨rfl,-⟩:=gN hr h1 rfl;obtain⟨h5,h6⟩:=gN za h3 (mem:=st.mem) rfl;dsimp only at h5;subst h5;exact fin st.mem h6 h1
 ·(rcases nx ha h1 with ⟨rfl,-⟩|⟨B0,B,Iv,hv,hh,rfl,-⟩);(·obtain⟨h5,h6⟩:=gN hr h3 (mem:=st.mem) rfl;dsimp only at h5;subst h5;exact fin st.mem h6 h1);have oP:eg (py.mask.map (base + ·)++py.abs) (st.mem.set (base+px.key) B)=eg (py.mask.map (base + ·)++py.abs) st.mem:=nv (dD _ (cQ.2 ⟨_,by simpa using hm,rfl⟩)) hh Iv hv;obtain⟨h5,h6⟩:=gN hr h3 (mem:=st.mem) oP.symm;dsimp only at h5;subst h5;exact fin st.mem h6 h1
 ·obtain⟨rfl,-⟩:=gN hr h1 rfl;(rcases nx ha h3 with ⟨h5,h6⟩|⟨B0,B,Iv,hv,hh,h5,h6⟩);(·dsimp only at h5;subst h5;exact fin st.mem h3 h1);dsimp only at h5 hh;subst h5;have oP:eg (px.mask.map (base + ·)++px.abs) (st.mem.set (base+py.key) B)=eg (px.mask.map (base + ·)++px.abs) st.mem:=nv (dD _ (cQ.2 ⟨_,by simpa using hm,rfl⟩)) hh Iv hv;exact fin _ h3 (gN hr h1 oP).2
 ·(rcases nx ha h1 with ⟨rfl,hx⟩|⟨B0,B,Iv,hv,hh,rfl,hx⟩);(·exact fin m2 h3 (hx m2));(rcases nx ha' h3 with ⟨h5,h6⟩|⟨B0',B',ap3,zO,Ia,h5,h6⟩);(·dsimp only at h5;subst h5;exact fin st.mem (h6 st.mem) h1);dsimp only at h5 Ia;subst h5;(have DB:base+px.key≠base+py.key:=by omega);rw [cD DB] at Ia;have h7:=h6 st.mem Ia;have h8:=hx (st.mem.set (base+py.key) B') (by rw [cD (fun e=>DB e.symm)];exact hh);refine fin _ h7 ?_;rw [apr _ _ DB];exact h8
 ·obtain⟨rfl,h5⟩:=pA hb h1;refine fin m2 h3 (h5 m2 (CP ?_));(rcases hy with ((hy|hy)|⟨hy,ha⟩)|⟨hy,ha⟩);(·rw [(gN hy h3 rfl).1]);(·rw [(pA hy h3).1]);(·exact CR hy ha h3);exact As hy ha h3
 ·obtain⟨h5,h6⟩:=pA hb h3;dsimp only at h5;subst h5;refine fin st.mem (h6 st.mem (CP ?_)) h1;(rcases hx with (hx|⟨hx,ha⟩)|⟨hx,ha⟩);(·rw [(gN hx h1 rfl).1]);(·exact (CR hx ha h1).symm);exact (As hx ha h1).symm
 ·(rcases CQ he h1 with rfl|⟨B0,B,Iv,hv,hh,rfl⟩);(·obtain⟨h5,h6⟩:=gN hr h3 (mem:=st.mem) rfl;dsimp only at h5;subst h5;exact fin st.mem h6 h1);have oP:eg (py.mask.map (base + ·)++py.abs) (st.mem.set px.key B)=eg (py.mask.map (base + ·)++py.abs) st.mem:=nv (eP _ (by simpa using hm)) hh Iv hv;obtain⟨h5,h6⟩:=gN hr h3 (mem:=st.mem) oP.symm;dsimp only at h5;subst h5;exact fin st.mem h6 h1
 ·obtain⟨rfl,-⟩:=gN hr h1 rfl;(rcases CQ he h3 with h5|⟨B0,B,Iv,hv,hh,h5⟩);(·dsimp only at h5;subst h5;exact fin st.mem h3 h1);dsimp only at h5 hh;subst h5;have oP:eg (px.mask.map (base + ·)++px.abs) (st.mem.set py.key B)=eg (px.mask.map (base + ·)++px.abs) st.mem:=nv (eP _ (by simpa using hm)) hh Iv hv;exact fin _ h3 (gN hr h1 oP).2
 ·obtain⟨rfl,h5⟩:=pA hb h1;(rcases nx ha h3 with ⟨h6,-⟩|⟨B0,B,Iv,hv,hh,h6,-⟩);(·dsimp only at h6;subst h6;exact fin st.mem h3 h1);dsimp only at h6 hh;subst h6;refine fin _ h3 (h5 _ ?_);rw [nv (cQ.2 ⟨_,by simpa using hm,rfl⟩) hh Iv hv]
 ·obtain⟨h5,h6⟩:=pA hb h3;dsimp only at h5;subst h5;(rcases nx ha h1 with ⟨rfl,-⟩|⟨B0,B,Iv,hv,hh,rfl,-⟩);(·exact fin st.mem h3 h1);refine fin st.mem (h6 st.mem ?_) h1;dsimp only;rw [nv (cQ.2 ⟨_,by simpa using hm,rfl⟩) hh Iv hv]
 ·(have rl:rU y=false:=by simpa using rl);(have hk:base+px.key≠base+py.key:=by omega);(rcases At ha rl h3 with ⟨h5,h6⟩|⟨hq,cs,h5,h6⟩);(·dsimp only at h5;subst h5;exact fin st.mem (h6 st.mem) h1);dsimp only at h5 hq;subst h5;(rcases Au hw h1 with ⟨rfl,h7⟩|⟨hh,h7,h8⟩);(·exact fin _ (h6 _ hq) (h7 _));have hq0:=(CS IH hh hk h7).1 hq;refine fin _ (h6 st.mem hq0) (h8 _ _ (by rw [cD (fun e=>hk e.symm)];exact hh) ?_);rw [F8 IH hh hq0 hk,h7];rfl
 ·(have rl:rU x=false:=by simpa using rl);(have hk:base+py.key≠base+px.key:=by omega);(rcases At ha rl h1 with ⟨rfl,h6⟩|⟨hq,cs,rfl,h6⟩);(·exact fin m2 h3 (h6 m2));(rcases Au hw h3 with ⟨h5,h7⟩|⟨hh,h7,h8⟩);(·dsimp only at h5;subst h5;exact fin st.mem (h7 st.mem) h1);dsimp only at hh h7;rw [cD (fun e=>hk e.symm)] at hh;rw [F8 IH hh hq hk] at h7;cases h9:nY P tt (base+py.key) y st with|none=>rw [h9] at h7;cases h7|some r =>obtain⟨m',u'⟩:=r;rw [h9] at h7;simp only [b9,aB,dn] at h7;obtain⟨rfl,rfl⟩:=h7;refine fin m' (h8 st.mem m' hh h9) (h6 m' ((CS IH hh hk h9).2 hq))
 rcases IP he hm h1 with ⟨rfl,hx⟩|⟨B0,B,hnB,hh,rfl,hx⟩
 ·exact fin m2 h3 (hx m2)
 rcases IN ha h3 with ⟨h5,h6⟩|⟨B',Ia,h5,h6⟩
 ·dsimp only at h5;subst h5;exact fin st.mem (h6 st.mem) h1
 dsimp only at h5 Ia;subst h5;have DB:px.key≠base+py.key:=fun e=>by rw [← e,eJ (aA.1 hh).1] at Ia;cases Ia;cases hnB
 rw [cD DB] at Ia;have h7:=h6 st.mem Ia;have h8:=hx (st.mem.set (base+py.key) B') (by rw [cD (fun e=>DB e.symm)];exact hh);refine fin _ h7 ?_;rw [apr _ _ DB];exact h8
end
end Go.Eng
end
section
namespace Go.Eng
variable [ba]
open Go.RowKit (Below)
theorem te {mem:List bf} {size:Nat} {l:Int} {h:Option Int} {x v:V} (hc:cutAt [] size l h x=some v):cutAt mem size l h x=some v:=by
 unfold cutAt at hc ⊢;split at hc;·exact hc
 ·simp [lZ] at hc
 cases hc
theorem PQ {P:Program} {tt:Table} {mem:List bf} {T:TypeId} {x v:V} {lo hi:Option V} (hc:DA P tt [] T x lo hi=some v):DA P tt mem T x lo hi=some v:=by
 unfold DA at hc ⊢;split;·exact hc
 rename_i dy;split at hc;·exact absurd rfl (dy _)
 split at hc;·cases hc
 split at hc;·cases hc
 split at hc;·split at hc;(·exact te hc);split at hc;(·exact te hc);cases hc
 split at hc;·cases hc
 split at hc;·exact te hc
 split at hc;·exact te hc
 cases hc
theorem MQ {tt:Table} {mem:List bf} {T:TypeId} {p v:V} (h:pd tt [] T p=some v):pd tt mem T p=some v:=by cases p <;> simp [pd,rowOf] at h ⊢;exact h
theorem IT {tt:Table} {mem:List bf} {T:TypeId} {p i v:V} (h:nD tt [] T p i=some v):nD tt mem T p i=some v:=by
 unfold nD at h ⊢;split at h;·split at h;(·split at h;(·cases p <;> simp [indexAt,lZ] at h ⊢;exact h);cases h);cases h
 cases h
theorem IU {tt:Table} {mem:List bf} {T:TypeId} {b o:Nat} {i:V}:nD tt mem T (.ptr b o) i=none:=by
 unfold nD;split;·split;(·split <;> rfl);rfl
 rfl
theorem IV {P:Program} {tt:Table} {mem:List bf} {T:TypeId} {p i v:V} (h:(match nD tt [] T p i with|some v=>some v|none=>zS P tt T p i)=some v):(match nD tt mem T p i with|some v=>some v|none=>zS P tt T p i)=some v:=by
 split at h;·rename_i u hu;cases h;rw [IT hu]
 have hp:∃ b o,p = .ptr b o:=by unfold zS at h;split at h;(·exact⟨_,_,rfl⟩);cases h
 obtain⟨b,o,rfl⟩:=hp;rw [IU];exact h
theorem Ga {P:Program} {mem:List bf} {T:TypeId} {m i v:V} {ok:Bool} (h:j0 P [] T m i ok=some v):j0 P mem T m i ok=some v:=by
 unfold j0 at h ⊢;split at h;·split at h;(·split at h;(·rename_i hk;rw [if_pos hk];unfold pf at h ⊢;split at h;(·simp at h);(·exact h);cases h);cases h);cases h
 cases h
theorem PR {mem:List bf} {it v:V} (h:Mv [] it=some v):Mv mem it=some v:=by
 unfold Mv at h;split at h;·simp at h
 cases h
theorem PS {P:Program} {tt:Table} {mem:List bf} {ts:Array TypeId} {ty:TypeId} {xs:List V} {v:V} (h:(match wZ [] ts P xs with|some v=>some v|none=>DD P tt ts ty xs)=some v) :
  (match wZ mem ts P xs with|some v=>some v|none=>DD P tt ts ty xs)=some v:=by
 by_cases hx:∃ b,xs=[.mp b];·obtain⟨b,rfl⟩:=hx;simp [wZ,DD,ko,oK,fa] at h
 have hn:∀ m,wZ m ts P xs=none:=fun m=>by unfold wZ;split;(·exact absurd ⟨_,rfl⟩ hx);rfl
 rw [hn] at h ⊢;exact h
theorem MR (st:St) (mem:List bf) (x:Operand):St.eval { st with mem:=mem } x=st.eval x:=by cases x <;> rfl
theorem fj (st:St) (mem:List bf):St.eval { st with mem:=mem }=st.eval:=funext fun x=>MR st mem x
theorem MS {P:Program} {mem:List bf} {s d:TypeId} {x v:V} (h:zR P [] s d x=some v):zR P mem s d x=some v:=by cases x <;> first|exact h|(simp [zR] at h)
theorem UG {P:Program} {tt:Table} {st:St} {o:Oper} {v:V} (h:iq P tt { st with mem:=[] } o=some v):iq P tt st o=some v:=by
 obtain⟨dst,op,type,pos,after,guard⟩:=o;cases op;case load T x=>simp only [iq,fj] at h ⊢;exact MQ h
 case indexAddr T x i=>simp only [iq,fj] at h ⊢;exact IV h
 case entry it=>simp only [iq,fj] at h ⊢;exact PR h
 case convert s d x=>simp only [iq,fj] at h ⊢;exact MS h
 case lookup T x i ok=>simp only [iq,fj] at h ⊢;exact Ga h
 case slice T x lo hi mx =>
  cases mx
  ·simp only [iq,fj] at h ⊢;exact PQ h
  cases lo <;> cases hi <;> simp only [iq,fj,reduceCtorEq] at h ⊢
  exact h
 case call c =>
  obtain⟨callee,args,ts⟩:=c
  cases callee with
  | builtin b=>cases b <;> first|(simp only [iq,fj] at h ⊢;exact h)|(simp only [iq,fj] at h ⊢;exact PS h)|(simp [iq] at h)
  | _=>simp [iq] at h
 all_goals first|(simp only [iq,fj] at h ⊢;exact h)|(simp [iq] at h)
theorem yh {mem:List bf} {v v':V} (h:eN [] v=some v'):eN mem v=some v'∧j5 v=[]:=by
 unfold eN at h;split at h;·exact⟨h,rfl⟩
 ·exact⟨h,rfl⟩
 ·exact⟨h,rfl⟩
 ·exact⟨h,rfl⟩
 ·exact⟨h,rfl⟩
 ·exact⟨h,rfl⟩
 ·simp at h
 ·exact⟨h,rfl⟩
 cases h
theorem vu {mem:List bf}:∀ {vs vs':List V},gP [] vs=some vs'→gP mem vs=some vs'∧vs.flatMap j5=[]
 | [],vs',h=>⟨h,rfl⟩
 | c :: r,vs',h=>by
  simp only [gP] at h ⊢
  split at h
  ·rename_i c' hc
   split at h
   ·rename_i r' hr
    obtain⟨h1,h2⟩:=yh (mem:=mem) hc
    obtain⟨h3,h4⟩:=vu (mem:=mem) hr
    rw [h1,h3]
    exact⟨h,by simp [ab,h2,h4]⟩
   cases h
  cases h
theorem PU {mem:List bf} {v v':V} (h:l0 [] v=some v'):l0 mem v=some v'∧gq v=[]:=by
 unfold l0 at h;split at h;·rename_i cs;split at h;(·rename_i l hl;obtain⟨h1,h2⟩:=vu (mem:=mem) hl;exact⟨by simp only [l0,h1];exact h,h2⟩);cases h
 rename_i dy;obtain⟨h1,h2⟩:=yh (mem:=mem) h;exact⟨by cases v <;> first|exact h1|exact absurd rfl (dy _),by cases v <;> first|exact h2|exact absurd rfl (dy _)⟩
theorem vw {mem:List bf}:∀ {vs vs':List V},ij [] vs=some vs'→ij mem vs=some vs'∧vs.flatMap gq=[]
 | [],vs',h=>⟨h,rfl⟩
 | c :: r,vs',h=>by
  simp only [ij] at h ⊢
  split at h
  ·rename_i c' hc
   split at h
   ·rename_i r' hr
    obtain⟨h1,h2⟩:=PU (mem:=mem) hc
    obtain⟨h3,h4⟩:=vw (mem:=mem) hr
    rw [h1,h3]
    exact⟨h,by simp [ab,h2,h4]⟩
   cases h
  cases h
theorem qQ {v v':V} (h:eN [] v=some v') {E:Env} {x:Value} (hr:cT E v x):cT E v' x:=by
 unfold eN at h;split at h;·cases h;exact hr
 ·cases h;exact vf hr
 ·cases h;exact hr
 ·cases h;cases hr with|full _ _ _ h=>exact h
 ·cases h;exact hr
 ·cases h;exact hr
 ·simp at h
 ·cases h;cases hr with|ia _ f _ _ xs ys hx hy h1 h2 =>(have e1:xs = #[]:=by simpa using hx.symm);(have e2:ys = #[]:=by simpa using hy.symm);subst e1;subst e2;exact .sc _ _
 cases h
theorem pB {E:Env}:∀ {vs vs':List V} {xs:List Value},gP [] vs=some vs'→cU E vs xs→cU E vs' xs
 | [],vs',xs,h,hr=>by cases h;exact hr
 | c :: r,vs',xs,h,hr=>by
  obtain⟨x,ys,rfl,h1,h2⟩:=hr.of_cons
  simp only [gP] at h
  split at h
  ·rename_i c' hc
   split at h
   ·rename_i r' za
    cases h
    exact .cons (qQ hc h1) (pB za h2)
   cases h
  cases h
theorem Ea {v v':V} (h:l0 [] v=some v') {E:Env} {x:Value} (hr:cT E v x):cT E v' x:=by
 unfold l0 at h;split at h;·rename_i cs;split at h;(·rename_i l hl;cases h;cases hr with|agg _ _ xs hlen hh =>have:=pB hl (E:=E) (xs:=xs.toList) ⟨by simpa using hlen,fun i c x hc hx=>hh i c x hc (by simpa using hx)⟩;exact .agg _ _ _ (by simpa using this.1) fun i c x hc hx=>this.2 i c x hc (by simpa using hx));cases h
 exact qQ h hr
theorem vz {E:Env}:∀ {vs vs':List V} {xs:List Value},ij [] vs=some vs'→cU E vs xs→cU E vs' xs
 | [],vs',xs,h,hr=>by cases h;exact hr
 | c :: r,vs',xs,h,hr=>by
  obtain⟨x,ys,rfl,h1,h2⟩:=hr.of_cons
  simp only [ij] at h
  split at h
  ·rename_i c' hc
   split at h
   ·rename_i r' za
    cases h
    exact .cons (Ea hc h1) (vz za h2)
   cases h
  cases h
theorem vF (mem:List bf) (r:V):gQ mem [] r=mem:=by unfold gQ;split <;> rfl
theorem Ak.hole {P:Program} {f:FuncId} {vs vs':List V} {e:Nat} {rs:List V} (hp:ij [] vs=some vs') (h:Ak P f vs' e rs) {mem:List bf} {key:Nat} (eS:mem[key]?=some .hole) :
  bo P f vs mem (.ms key 0 0 rs.length) (mem.set key (.rows 0 e rs)):=by
 obtain⟨v0,h⟩:=h;refine⟨h.1,fun E w xs hs hx=>?_⟩;obtain⟨WV,hk⟩:=vw (mem:=mem) hp;have h1:=l6 hs (keys:=[]) hx WV (by rw [hk];simp);have hE:(E.pX w []).pure=⟨E.F,fun _ _=>none,E.gl⟩:=by refine Env.Mt (funext fun ad=>?_) rfl;simp only [Env.pure,Env.pX];cases hh:E.F ad <;> simp
 rw [hE] at h1;have zf:key<mem.length:=(aA.1 eS).1;have gM:∀ v,E.cn key v=none:=hs.mem key _ eS;have nV:c5 ⟨E.F,fun _ _=>none,E.gl⟩ w { tmps := #[],defers:=[] } { fr:=[],mem:=[] } := ⟨hs.F,(fun k v g e c h=>by cases h),(fun k B h=>by simp at h),(fun k _ v=>rfl),(fun k B h=>by simp at h),(fun k k' v v' g e c e' c' h=>by cases h),.nil _⟩;refine (h.2 _ w xs nV h1).mono ?_;rintro en w' ⟨E',x,rfl,fK,pY,hr⟩;have oL:∀ k v g e c,E'.cn k v=some (g,e,c)→w.heap.size≤g:=fun k v g e c hb=>by (rcases fK.cn _ _ _ _ _ hb with ⟨_,_,_,_,h⟩|h);(·cases h);exact h
 have hold:∀ b,b<w.heap.size→w'.heap[b]?=w.heap[b]?:=fun b hb=>fK.heap b hb fun _ _ _ _ h=>by cases h
 have W2:∀ ad y,E'.F ad=some y→E.F ad=some y∨w.heap.size≤ad.block:=fun ad y hy=>by (rcases fK.F _ _ hy with h|h|⟨_,_,_,_,h⟩);(·exact .inl h);(·exact .inr h);cases h
 have PV:(⟨E'.F,fun k v=>if k=key then (if v=0 then E'.cn 0 v0 else none) else E.cn k v,E'.gl⟩:Env).cn key 0=E'.cn 0 v0:=by simp
 have Zf:∀ v,v≠0→(⟨E'.F,fun k v=>if k=key then (if v=0 then E'.cn 0 v0 else none) else E.cn k v,E'.gl⟩:Env).cn key v=none:=fun v hv=>by simp [hv]
 have qb:∀ k v,k≠key→(⟨E'.F,fun k v=>if k=key then (if v=0 then E'.cn 0 v0 else none) else E.cn k v,E'.gl⟩:Env).cn k v=E.cn k v:=fun k v hk=>if_neg hk;generalize W3:(⟨E'.F,fun k v=>if k=key then (if v=0 then E'.cn 0 v0 else none) else E.cn k v,E'.gl⟩:Env)=E2 at PV Zf qb;have ju:E2.F=E'.F:=by rw [← W3]
 have CE:E2.pure=E'.pure:=Env.Mt ju rfl;have KY:∀ v t,E2.cn key v=some t→v=0∧E'.cn 0 v0=some t:=fun v t ht=>by by_cases hv:v=0;(·subst hv;exact⟨rfl,PV ▸ ht⟩);rw [Zf v hv] at ht;cases ht
 have hle:E.le E2:=⟨fun ad y hy=>by rw [ju];exact fK.le.F _ _ hy,fun k v t hk=>by by_cases fe:k=key;(·subst fe;rw [gM v] at hk;cases hk);rw [qb k v fe];exact hk⟩;refine⟨E2,x,rfl,⟨hle,fun k v g e c hk=>?_,fun ad y hy=>?_,fK.os,fK.tape,fK.output,fK.size,fun b hb _=>hold b hb⟩,⟨fun ad y hy=>pY.F _ _ (by rw [← ju];exact hy),fun k v g e c hk=>?_,fun k B hk=>?_,fun k hk v=>?_,fun k B hk v hv=>?_,fun k k' v v' g e1 c1 e2 c2 h5 h6=>?_,.nil _⟩,?_⟩;·by_cases fe:k=key;(·subst fe;obtain⟨-,h⟩:=KY _ _ hk;exact .inr (oL _ _ _ _ _ h));rw [qb k v fe] at hk;exact .inl ⟨k,v,e,c,hk⟩
 ·rw [ju] at hy;(rcases W2 ad y hy with h|h);(·exact .inl h);exact .inr (.inl h)
 ·by_cases fe:k=key;(·subst fe;obtain⟨-,h⟩:=KY _ _ hk;exact pY.lt _ _ _ _ _ h);rw [qb k v fe] at hk;have:=hs.lt _ _ _ _ _ hk;have:=fK.size;omega
 ·rw [bR] at hk;by_cases fe:key=k;(·subst fe;simp only [if_true,zf] at hk;cases hk;have h0:=pY.mem 0 _ rfl;(rcases h0 with ⟨h1,h2⟩|⟨g,T,ys,c,h1,h2,h3,h4,h5,h6⟩);(·exact .inl ⟨h1,by rw [PV];exact h2⟩);exact .inr ⟨g,T,ys,c,by rw [PV];exact h1,h2,h3,h4,by rw [CE];exact h5,fun o=>by rw [ju];exact h6 o⟩);rw [if_neg fe] at hk;refine (hs.mem k B hk).mono hle (fun v hv=>by rw [qb k v (fun e=>fe e.symm)];exact hv) (fun g e c hb=>hold g (hs.lt _ _ _ _ _ hb)) fun g e c o hb hn=>?_;rw [ju];cases hy:E'.F ⟨g,o,none⟩ with|none=>rfl|some y =>(rcases W2 _ y hy with h|h);(·rw [hn] at h;cases h);have:=hs.lt _ _ _ _ _ hb;simp at h;omega
 ·dsimp only at hk;rw [atI] at hk;rw [qb k v (by omega)];exact hs.top k (by dsimp only;omega) v
 ·rw [bR] at hk;by_cases fe:key=k;(·subst fe;simp only [if_true,zf] at hk;cases hk;exact Zf v (by simp [bf.dI] at hv;omega));rw [if_neg fe] at hk;rw [qb k v (fun e=>fe e.symm)];exact hs.dI k B hk v hv
 ·by_cases ib:k=key <;> by_cases jI:k'=key;(·rw [ib,jI]);(·subst ib;obtain⟨-,h⟩:=KY _ _ h5;rw [qb k' _ jI] at h6;have:=hs.lt _ _ _ _ _ h6;have:=oL _ _ _ _ _ h;omega);(·subst jI;obtain⟨-,h⟩:=KY _ _ h6;rw [qb k _ ib] at h5;have:=hs.lt _ _ _ _ _ h5;have:=oL _ _ _ _ _ h;omega);rw [qb k _ ib] at h5;rw [qb k' _ jI] at h6;exact hs.apart _ _ _ _ _ _ _ _ _ h5 h6
 rcases DS hr with ⟨h0,rfl⟩|⟨g,e,c,aa,cap,rfl,hb,hl,h0,hc⟩
 ·rw [h0];exact .iv _ _ _ _
 exact .ms _ _ _ _ _ g e c _ _ (by rw [PV];exact hb) hl h0 hc
theorem c5.Gb {E:Env} {w:World} {a:Act} {st:St} (hs:c5 E w a st) {xs:Array Value} {rs:List V} {e c:Nat} (T:TypeId) (hl:rs.length≤c) (hr:lY E.pure e rs (fun o=>xs[o]?)) :
  ∃ E',c5 E' (w.alloc (.cells xs T (0,0))) a st∧gK E w E' (w.alloc (.cells xs T (0,0)))∧cT E' (.slice rs) (.slice (some ⟨w.heap.size,0,none⟩) rs.length c):=by
 have pj:∀ o,(w.alloc (.cells xs T (0,0))).cell? ⟨w.heap.size,o,none⟩=xs[o]?:=fun o=>nd (heap_alloc_new w _) o;have hle:E.le ⟨fun ad=>match E.F ad with|some x=>some x|none=>if ad.block=w.heap.size∧ad.spot=none then xs[ad.off]? else none,E.cn,E.gl.mono fun ad x h=>by simp only [h]⟩:=⟨fun ad x h=>by dsimp only;rw [h],fun _ _ _ h=>h⟩;refine⟨⟨fun ad=>match E.F ad with|some x=>some x|none=>if ad.block=w.heap.size∧ad.spot=none then xs[ad.off]? else none,E.cn,E.gl.mono fun ad x h=>by simp only [h]⟩,⟨fun ad x hx=>?_,fun k v g e c h=>?_,fun k B hB=>?_,hs.top,hs.dI,hs.apart,hs.fr.mono hle⟩,⟨hle,fun k v g e c h=>.inl ⟨k,v,e,c,h⟩,fun ad x hx=>?_,rfl,rfl,rfl,by simp,fun b hb _=>dP w _ b hb⟩,?_⟩;·dsimp only at hx;split at hx;(·rename_i y hy;cases hx;rw [World.cell?_alloc_lt w _ ad (World.block_lt_of_cell? w ad (hs.F ad _ hy))];exact hs.F ad _ hy);split at hx;(·rename_i hc;obtain⟨b,o,el⟩:=ad;obtain⟨rfl,rfl⟩:=hc;rw [pj];exact hx);cases hx
 ·have:=hs.lt _ _ _ _ _ h;simp;omega
 ·refine (hs.mem k B hB).mono hle (fun v h=>h) (fun g e' c' hb=>dP w _ g (hs.lt _ _ _ _ _ hb)) fun g e c o hb hn=>?_;dsimp only;rw [hn];have:=hs.lt _ _ _ _ _ hb;simp;intro h;omega
 ·dsimp only at hx;split at hx;(·rename_i y hy;cases hx;exact .inl hy);split at hx;(·rename_i hc;exact .inr (.inl (by rw [hc.1];exact ay _)));cases hx
 have hn:∀ o,E.F ⟨w.heap.size,o,none⟩=none:=fun o=>by cases hx:E.F ⟨w.heap.size,o,none⟩ with|none=>rfl|some x=>have:=World.block_lt_of_cell? w _ (hs.F _ _ hx);simp at this
 refine .slice _ rs _ c e ⟨w.heap.size,0,none⟩ (fun i j=>(xs[i*e+j]?).getD undef) (fun _=>rfl) hl (fun i row hi=>(hr i row hi).1) (fun i row j cc hi hj=>?_) (fun i row j cc hi hj=>?_) fun i row j cc hi hj=>?_;·obtain⟨x,hx,h1,h2⟩:=(hr i row hi).2 j cc hj;rw [add_lit,dL];simp only [hn,true_and,if_true,and_self];dsimp only at hx;rw [hx];rfl
 ·obtain⟨x,hx,h1,h2⟩:=(hr i row hi).2 j cc hj;dsimp only at hx ⊢;rw [hx];exact h1
 obtain⟨x,hx,h1,h2⟩:=(hr i row hi).2 j cc hj;dsimp only at hx ⊢;rw [hx];exact h2.mono (Env.kC hle)
section
variable {P:Program} {tt:Table} (ht:TT P tt)
include ht
theorem Av {E:Env} {w:World} {a:Act} {st:St} (hs:c5 E w a st) {o:Oper} {mem:List bf} {Q:V→Prop} {R:St→Prop} (h:tD P tt o { st with mem:=mem } Q) (hQ:∀ v,Q v→R (st.put o.dst v))
  (jv:∀ v,iq P tt { st with mem:=mem } o=some v→∃ x,(execOp a.eval o).run P w = .ok (.value x) w∧cT E v x)
  {ρ:Option Nat} {n:Nat} {next:Act→World→Prop} {Q':Exit→Act→World→Prop} (hn:∀ v w',FX E w a o.dst R v w'→next (a.put o.dst v) w'):o.wpIn (WF ρ) n P a w next Q':=by
 obtain⟨dst,op,type,pos,after,guard⟩:=o;have gen:∀ (qi:∀ c,op ≠ .defer c),(∀ f xs ts,op ≠ .call { callee:=.value f,args:=xs,argTypes:=ts })→(∀ T ps,op ≠ .build T ps)→(∀ T l ps,op ≠ .buildSlice T l ps)→Oper.wpIn (WF ρ) n P { dst:=dst,op:=op,type:=type,pos:=pos,after:=after,guard:=guard } a w next Q':=by intro qi h1 h2 h3;(have hv:∃ v,iq P tt { st with mem:=mem } { dst:=dst,op:=op,type:=type,pos:=pos,after:=after,guard:=guard }=some v∧Q v:=by unfold tD at h;split at h;(·rename_i heq;exact absurd heq (h1 _ _ _));unfold yO at h;dsimp only at h;split at h;(·rename_i v hv;split at hv;(·exact absurd rfl (h2 _ _));(·exact absurd rfl (h3 _ _ _));exact⟨v,hv,h⟩);exact h.elim);obtain⟨v,hv,hq⟩:=hv;obtain⟨x,h4,h5⟩:=jv v hv;exact df qi h4 (hn _ _ ⟨E,_,hs.put dst h5,gK.refl E w,hQ _ hq⟩)
 cases op;case defer c=>simp [tD,yO,iq] at h
 case build T ps =>
  simp only [tD,yO,fj] at h
  split at h
  ·rename_i v hv
   obtain⟨x,h1,h2⟩:=vm ht hs hv
   exact df (by simp) (dp h1) (hn _ _ ⟨E,_,hs.put dst h2,gK.refl E w,hQ _ h⟩)
  exact h.elim
 case buildSlice T len ps =>
  simp only [tD,yO,fj] at h
  split at h
  ·rename_i v hv
   split at hv
   ·rename_i size rs hl
    cases hv
    obtain⟨Z,e,h1,h2,h3,h4⟩:=DQ ht (fun p _=>hs.eval p.2) hl
    obtain⟨E',h5,h6,h7⟩:=hs.Gb (xs:=Z) (rs:=rs) (c:=len) e (by omega) h4
    rw [h3] at h7
    exact df (by simp) (iM h1) (hn _ _ ⟨E',_,h5.put dst h7,h6,hQ _ h⟩)
   cases hv
  exact h.elim
 case call c =>
  obtain⟨callee,args,ts⟩:=c
  cases callee with
  | value f =>
   simp only [tD,fj] at h
   split at h
   ·rename_i g vs hg
    obtain⟨vs',r,h1,h2,h3⟩:=h
    obtain⟨h4,h5⟩:=vw (mem:=st.mem) h1
    obtain⟨ys,h6,h7⟩:=rO (P:=P) (w:=w) (hs.eval f) (hs.pg args) hg
    have hc:x8 P g vs st dst R:=by
     rcases h2 with h2|h2
     ·exact .inl ⟨vs',r,h4,h2,by rw [h5,vF];exact hQ _ h3⟩
     refine .inr (.inr (.inr ⟨r,fun E1 w1 xs1 FU qO=>?_,hQ _ h3⟩))
     obtain⟨x,g1,g2⟩:=h2 E1 w1 xs1 FU (vz h1 qO)
     exact⟨x,g1,g2⟩
    rcases yc hs hc h6 with ⟨h8,h9⟩|⟨v,h8,h9⟩
    ·refine ya (by simp) (f:=g) (xs:=ys) ?_ h9 fun e w' ⟨v,hv,ha⟩=>⟨v,hv,hn _ _ ha⟩
     rw [← h8,← h7]
     simp only [execOp,resolve]
    refine df (by simp) (v:=v) ?_ (hn _ _ h9)
    rw [← h8,← h7]
    simp only [execOp,resolve]
   exact h.elim
  | _=>exact gen (by simp) (by simp) (by simp) (by simp)
 all_goals exact gen (by simp) (by simp) (by simp) (by simp)
omit ht in
theorem vG {mem:List bf} {k:Nat} (h:mem[k]?=some .hole) (B:bf):da mem k B=mem.set k B:=by unfold da;rw [if_pos (aA.1 h).1]
theorem Gc {all:Array Oper} {base:Nat} {E:Env} {w:World} {a:Act} {st:St} (hs:c5 E w a st) {i:Nat} {o:Oper} {p:Pl} {Q:St→Prop} (hi:all[i]?=some o) (h:fq P tt all base o p st Q)
  {ρ:Option Nat} {n:Nat} {next:Act→World→Prop} {Q':Exit→Act→World→Prop} (hn:∀ v w',FX E w a o.dst Q v w'→next (a.put o.dst v) w'):wpOpIn (WF ρ) n P all Q' i next a w:=by
 unfold wpOpIn;rw [hi];dsimp only;unfold fq at h;split at h;·rename_i hw;rw [if_pos (kq hs hw)];split at h;(·rw [ze] at h;exact Av ht hs h (fun _ h=>h) (fun v hv=>s8 ht hs (UG hv)) hn);(·rw [ze] at h;exact Av ht hs h (fun _ h=>h) (fun v hv=>s8 ht (hs.eg _) hv) hn);(·obtain⟨hh,h⟩:=h;rw [fN] at hh;split at h;(·rename_i B v hb;refine gR ht hs (key:=base+p.key) (.inl hh) ?_ hn;unfold gv at hb;unfold cY;split at hb;(·rename_i T heq;rw [heq];dsimp only;split at hb;(·rename_i i hi;cases hb;rw [hi];dsimp only;rw [vG hh];exact h);cases hb);(·rename_i heq;rw [heq];dsimp only;split at hb;(·rename_i i hi;cases hb;rw [hi];dsimp only;rw [vG hh];exact h);cases hb);(·rename_i heq;rw [heq];dsimp only;split at hb;(·rename_i i hi;cases hb;rw [hi];dsimp only;rw [vG hh];exact h);cases hb);(·rename_i heq;rw [heq];dsimp only;cases hb;rw [vG hh];exact h);(·rename_i heq;rw [heq];dsimp only;split at hb;(·rename_i i hi;cases hb;rw [hi];dsimp only;rw [vG hh];exact h);cases hb);cases hb);rw [CO] at h;unfold my at h;split at h;(·rename_i f xs ts heq;split at h;(·rename_i g vs hg;obtain⟨vs',e,rs,h1,h2,h3⟩:=h;refine gR ht hs (key:=base+p.key) (.inl hh) ?_ hn;unfold cY;rw [heq];dsimp only;split;(·rename_i k hk;rw [hk] at hg;simp [c6] at hg);rw [hg];exact .inr (.inl ⟨_,_,h2.hole h1 hh,h3⟩));exact h.elim);exact h.elim);(·obtain⟨hh,h⟩:=h;rw [fN] at hh;split at h;(·rename_i m v hb;refine gR ht hs (key:=base+p.key) (.inl hh) ?_ hn;unfold nY at hb;unfold cY;split at hb;(·rename_i heq;rw [heq];dsimp only;split at hb;(·rename_i i hi;cases hb;rw [hi];exact h);cases hb);(·rename_i xs ts heq;rw [heq];dsimp only;split at hb;(·rename_i s x Uu;rw [Uu];dsimp only;split at hb;(·rename_i size rH rows ha;rw [ha];simp only [aB] at hb;dsimp only;rw [hb];exact h);cases hb);cases hb);(·rename_i heq;rw [heq];dsimp only;split at hb;(·rename_i i hi;cases hb;rw [hi];exact h);cases hb);(·rename_i heq;rw [heq];dsimp only;split at hb;(·rename_i i hi;cases hb;rw [hi];exact h);cases hb);cases hb);exact h.elim);(·split at h;(·rename_i m hb;refine gR ht hs (key:=st.mem.length) (.inr rfl) ?_ hn;unfold rb at hb;unfold cY;split at hb;(·rename_i heq;rw [heq];dsimp only;split at hb;(·rename_i b off hp;split at hb;(·rename_i hk;subst hk;rw [hp,hb];exact h);cases hb);cases hb);cases hb);exact h.elim);(·split at h;(·rename_i v hb;refine gR ht hs (key:=st.mem.length) (.inr rfl) ?_ hn;replace hb:=D7 hb;have ho:=MK (P:=P) hb;unfold nJ at hb;unfold cY;split at hb;(·rename_i heq;rw [heq];dsimp only;rw [ho];exact h);cases hb);exact h.elim);(·refine gR ht hs (key:=st.mem.length) (.inr rfl) ?_ hn;unfold oo at h;unfold cY;split at h;(·rename_i f xs ts heq;split at h;(·rename_i g vs hg;rw [heq];dsimp only;split;(·rename_i k hk;rw [hk] at hg;simp [c6] at hg);rw [hg];(rcases h with ⟨vs',r,h1,h2,h3⟩|⟨r,m',h1,h2⟩);(·exact .inl ⟨vs',r,h1,h2,h3⟩);exact .inr (.inl ⟨r,m',h1,h2⟩));exact h.elim);exact h.elim);refine gR ht hs (key:=st.mem.length) (.inr rfl) ?_ hn;unfold vt at h;unfold cY;split at h;(·rename_i f xs ts heq;split at h;(·rename_i g vs hg;obtain⟨v,B0,B,-,-,h1,⟨h2,-⟩,h3⟩:=h;rw [heq];dsimp only;split;(·rename_i k hk;rw [hk] at hg;simp [c6] at hg);rw [hg];exact .inr (.inl ⟨_,_,h2,h3⟩));exact h.elim);split at h;(·rename_i m hb;unfold rb at hb;split at hb;(·rename_i heq;rw [heq];dsimp only;split at hb;(·rename_i b off hp;split at hb;(·rename_i hk;subst hk;rw [hp,hb];exact h);cases hb);cases hb);cases hb);exact h.elim
 ·rename_i hw;rw [if_neg (by rw [kq hs hw];simp)];exact⟨fun _ _=>trivial,hn _ _ ⟨E,_,hs.put o.dst (.sc _ _),gK.refl E w,h⟩⟩
 exact h.elim
end
end Go.Eng
end
section
namespace Go.Eng
variable [ba]
def pl0:Pl:=⟨.n,0,[],[],[]⟩
def nK (o:Oper) (k:Nat):Bool:=o.after.any fun e=>Region.binds .any e&&e.on==k
def rX (all:Array Oper) (y:Oper) (py:Pl):Nat→List Oper→List Pl→Bool
 | _,[],_=>true
 | k,x :: r,px=>(nK y k||py.W0.contains k||xh all x (px.headD pl0) y py)&&rX all y py (k+1) r px.tail
def IW (o:Oper) (i:Nat):Bool:=o.after.all fun e=>!Region.binds .any e||decide (e.on<i)
def rY (plan:List Pl) (i:Nat):Pl:=(plan[i]?).getD pl0
def PW (plan:List Pl) (y:Oper) (py:Pl):Bool:=py.W0.all fun k=>nK y k||y.after.any fun e=>Region.binds .any e&&(rY plan e.on).W0.contains k
def zh (all:Array Oper) (plan:List Pl):Nat→List Oper→List Pl→Bool
 | _,[],_=>true
 | i,y :: r,py=>IW y i&&PW plan y (py.headD pl0)&&rX all y (py.headD pl0) 0 (all.toList.take i) plan&&zh all plan (i+1) r py.tail
def yi (all:Array Oper) (plan:List Pl):Bool:=zh all plan 0 all.toList plan
theorem uD {α:Type} (l:List α) (i:Nat) (d:α):(l.drop i).headD d=(l[i]?).getD d:=by rw [List.headD_eq_head?_getD,List.head?_drop]
theorem vH {all:Array Oper} {y:Oper} {py:Pl} {plan:List Pl}:∀ {l:List Oper} {n:Nat},rX all y py n l (plan.drop n)=true→∀ k x,l[k]?=some x→(nK y (n+k)=true∨(n+k)∈py.W0)∨xh all x (rY plan (n+k)) y py=true
 | [],n,_,k,x,h=>by simp at h
 | z :: r,n,h,k,x,hk=>by
  simp only [rX,aJ,dN,uD] at h
  cases k with
  | zero=>simp at hk;subst hk;simpa [rY] using h.1
  | succ k =>
   have h2:=h.2
   rw [atV] at h2
   have:=vH h2 k x (by simpa using hk)
   rw [lT,atG 1 k] at this
   exact this
theorem yj {all:Array Oper} {plan:List Pl}:∀ {l:List Oper} {n:Nat},zh all plan n l (plan.drop n)=true→∀ k y,l[k]?=some y→(IW y (n+k)=true∧PW plan y (rY plan (n+k))=true)∧rX all y (rY plan (n+k)) 0 (all.toList.take (n+k)) plan=true
 | [],n,_,k,x,h=>by simp at h
 | z :: r,n,h,k,x,hk=>by
  simp only [zh,aJ,uD] at h
  cases k with
  | zero=>simp at hk;subst hk;exact h.1
  | succ k =>
   have h2:=h.2
   rw [atV] at h2
   have:=yj h2 k x (by simpa using hk)
   rw [lT,atG 1 k] at this
   exact this
theorem pC {all:Array Oper} {plan:List Pl} (h:yi all plan=true) {i:Nat} {y:Oper} (hi:all[i]?=some y) :
  (∀ e∈y.after,Region.binds .any e=true→e.on<i)∧(∀ k∈(rY plan i).W0,nK y k=true∨∃ e∈y.after,Region.binds .any e=true∧k∈(rY plan e.on).W0)∧∀ k x,k<i→all[k]?=some x→(nK y k=true∨k∈(rY plan i).W0)∨xh all x (rY plan k) y (rY plan i)=true:=by
 have:=yj (n:=0) h i y (by simpa using hi);rw [dL] at this;obtain⟨⟨h1,h3⟩,h2⟩:=this;refine⟨fun e he hb=>?_,fun k hk=>?_,fun k x hk hx=>?_⟩;·unfold IW at h1;have:=Array.all_eq_true_iff_forall_mem.1 h1 e he;simpa [hb] using this
 ·unfold PW at h3;have:=aN.1 h3 k hk;rw [dN] at this;refine this.imp id fun h=>?_;rw [auK] at h;obtain⟨e,he,h⟩:=h;rw [aJ] at h;exact⟨e,he,h.1,by simpa using h.2⟩
 have:=vH (n:=0) h2 k x (by rw [jf hk];simpa using hx);rwa [dL] at this
section
variable {P:Program} {tt:Table} {all:Array Oper} {plan:List Pl} {base:Nat}
def Gd (P:Program) (tt:Table) (all:Array Oper) (plan:List Pl) (base:Nat):List Nat→St→(St→Prop)→Prop
 | [],st,K=>K st
 | i :: r,st,K=>match all[i]? with
  | some o=>fq P tt all base o (rY plan i) st fun st'=>Gd P tt all plan base r st' K
  | none=>False
theorem qm {o:Oper} {p:Pl} {st:St} {K K':St→Prop} (h:∀ s,K s→K' s) (hh:fq P tt all base o p st K):fq P tt all base o p st K':=by
 by_cases hz:p.cls = .z;·unfold fq at hh ⊢;split at hh;(·rw [hz] at hh ⊢;exact Am hh h);(·exact h _ hh);exact hh.elim
 obtain⟨v,m,h1,h2⟩:=(jm hz).1 hh;exact (jm hz).2 ⟨v,m,h1,h _ h2⟩
theorem Aw {i:Nat} {o:Oper} (hi:all[i]?=some o) {K:St→Prop} {σ2:List Nat}:∀ {σ1:List Nat} {st:St},(∀ k∈σ1,∀ x,all[k]?=some x→xh all x (rY plan k) o (rY plan i)=true) →
  Gd P tt all plan base (σ1++i :: σ2) st K→fq P tt all base o (rY plan i) st fun st'=>Gd P tt all plan base (σ1++σ2) st' K
 | [],st,_,h=>by simpa [Gd,hi] using h
 | k :: r,st,hp,h=>by
  simp only [aw,Gd] at h ⊢
  cases hk:all[k]? with
  | none=>rw [hk] at h;exact h.elim
  | some x =>
   rw [hk] at h
   dsimp only at h ⊢
   exact IS (hp k (by simp) x hk) (qm (fun s hs=>Aw hi (fun k' lj=>hp k' (by simp [lj])) hs) h)
theorem vI {y:Oper} {k:Nat} {listed:Array Bool} (h:nK y k=true) (hl:∀ e∈y.after,Region.binds .any e=true→listed.getD e.on false=true):listed.getD k false=true:=by unfold nK at h;rw [auK] at h;obtain⟨e,he,h⟩:=h;rw [aJ,beq_iff_eq] at h;rw [← h.2];exact hl e he h.1
def PX (all:Array Oper) (listed:Array Bool):Prop:=∀ (i:Nat) (o:Oper),listed.getD i false=true→all[i]?=some o→∀ e∈o.after,Region.binds .any e=true→listed.getD e.on false=true
theorem IX (jH:yi all plan=true) {listed:Array Bool} (hc:PX all listed) (iw:listed.size=all.size):∀ (i:Nat) (y:Oper),all[i]?=some y→(∀ e∈y.after,Region.binds .any e=true→listed.getD e.on false=true)→∀ k∈(rY plan i).W0,listed.getD k false=true:=by intro i;induction i using Nat.strongRecOn with|_ i ih =>intro y hy hl k hk;(rcases (pC jH hy).2.1 k hk with h|⟨e,he,hb,h⟩);(·exact vI h hl);have h1:=hl e he hb;(have bQ:e.on<all.size:=by have:e.on<i:=(pC jH hy).1 e he hb;have:=(dw.1 hy).1;omega);have hz:=bP bQ;exact ih e.on ((pC jH hy).1 e he hb) _ hz (hc e.on _ h1 hz) k h
theorem Ge (ht:TT P tt) (jH:yi all plan=true) {ρ:Option Nat} {n:Nat} {K:St→Prop} {Q':Exit→Act→World→Prop}:∀ (fuel:Nat) (listed:Array Bool) (σ:List Nat),listed.size=all.size→PX all listed→σ.length≤fuel→σ.Pairwise (· < ·)→(∀ i,i∈σ↔listed[i]?=some false) →
  ∀ {E:Env} {w:World} {a:Act} {st:St},c5 E w a st→Gd P tt all plan base σ st K→(∀ a' w',a'.defers=a.defers→(∃ E' st',c5 E' w' a' st'∧gK E w E' w'∧K st')→Q' .normal a' w')→wpAnyIn (WF ρ) n P .any all Q' fuel listed a w:=by
 intro fuel;have done:∀ (listed:Array Bool) (σ:List Nat),listed.size=all.size→σ.Pairwise (· < ·)→(∀ i,i∈σ↔listed[i]?=some false)→Region.ready .any all listed=[]→σ=[]:=by intro listed σ iw CT mz hr;cases σ with|nil=>rfl|cons i r =>exfalso;have hif:=(mz i).1 (by simp);(have bQ:i<all.size:=by rw [← iw];exact (dw.1 hif).1);(have:i∈Region.ready .any all listed:=by refine mem_ready.2 ⟨by simp [kl,hif],all[i],bP bQ,fun e he hb=>?_⟩;have YL:=(pC jH (bP bQ)).1 e he hb;(have hs:e.on<listed.size:=by omega);cases hv:listed[e.on] with|true=>simp [kl,bP hs,hv]|false =>have:e.on∈i :: r:=(mz e.on).2 (by rw [bP hs,hv]);(rcases b8.1 this with h|h);(·omega);have:=List.rel_of_pairwise_cons CT h;omega);rw [hr] at this;cases this
 induction fuel with|zero =>(intro listed σ iw mf hlen CT mz E w a st hs h hq;have hσ:σ=[]:=cb.1 (by omega);subst hσ;refine⟨?_,hq _ _ rfl ⟨E,st,hs,gK.refl E w,h⟩⟩;cases hr:Region.ready .any all listed with|nil=>rfl|cons j l =>(have hj:j∈Region.ready .any all listed:=by rw [hr];simp);obtain⟨h0,o,ho,-⟩:=mem_ready.1 hj;(have bQ:j<listed.size:=by rw [iw];exact (dw.1 ho).1);have:j∈([]:List Nat):=(mz j).2 (by rw [bP bQ];congr 1;simpa [kl,bP bQ] using h0);cases this)|succ fuel ih =>intro listed σ iw mf hlen CT mz E w a st hs h hq;refine⟨fun hr=>?_,fun i hi=>?_⟩;(·have:=done listed σ iw CT mz hr;subst this;exact hq _ _ rfl ⟨E,st,hs,gK.refl E w,h⟩);obtain⟨h0,o,ho,Zg⟩:=mem_ready.1 hi;(have bQ:i<listed.size:=by rw [iw];exact (dw.1 ho).1);(have hif:listed[i]?=some false:=by rw [bP bQ];congr 1;simpa [kl,bP bQ] using h0);obtain⟨σ1,σ2,rfl⟩:=List.append_of_mem ((mz i).2 hif);rw [kM] at CT;obtain⟨nV,sZ,Zh⟩:=CT;rw [aua] at sZ;have kN:=Aw ho (σ1:=σ1) (fun k hk x hx=>by have hki:k<i:=Zh k hk i (by simp);(rcases (pC jH ho).2.2 k x hki hx with hw|hw);(·exfalso;have h1:=hw.elim (fun hw=>vI hw Zg) fun hw=>IX jH mf iw i o ho Zg k hw;have h2:=(mz k).1 (by simp [hk]);rw [kl,h2] at h1;cases h1);exact hw) h;refine Gc ht hs ho kN ?_;rintro v w' ⟨E',st',h1,h2,h3⟩;refine ih (listed.setIfInBounds i true) (σ1++σ2) (by simpa using iw) ?_ ?_ ?_ ?_ h1 h3 fun a' w'' hd ⟨Fj,Y1,h4,h5,h6⟩=>hq _ _ (hd.trans (put_defers _ _ _)) ⟨Fj,Y1,h4,h2.trans h5,h6⟩;(·intro j z hj hz e he hb;by_cases hji:j=i;(·subst hji;rw [ho] at hz;cases hz;exact getD_set_true (Zg e he hb));rw [getD_set_ne false (fun e=>hji e.symm)] at hj;exact getD_set_true (mf j z hj hz e he hb));(·simp at hlen ⊢;omega);(·rw [kM];exact⟨nV,sZ.2,fun x hx y hy=>Zh x hx y (by simp [hy])⟩);intro j;rw [Array.getElem?_setIfInBounds];by_cases hji:i=j;(·subst hji;rw [if_pos rfl];constructor;(·intro hj;(rcases eA.1 hj with h|h);(·have:=Zh i h i (by simp);omega);have:=sZ.1 i h;omega);split;(·intro h;cases h);intro h;cases h);rw [if_neg hji,← mz j];simp only [eA,b8];constructor;(·rintro (h|h);(·exact .inl h);exact .inr (.inr h));rintro (h|h|h);(·exact .inl h);(·exact absurd h.symm hji);exact .inr h
def runM (P:Program) (tt:Table) (all:Array Oper) (base:Nat):List Oper→List Pl→St→(St→Prop)→Prop
 | [],_,st,K=>K st
 | o :: r,p :: ps,st,K=>fq P tt all base o p st fun st'=>runM P tt all base r ps st' K
 | _ :: _,[],_,_=>False
@[congr] theorem Zi {base W4:Nat} {l:List Oper} {ps:List Pl} {st st':St} {K:St→Prop} (hb:base=W4) (h:st=st'):runM P tt all base l ps st K=runM P tt all W4 l ps st' K:=by rw [hb,h]
theorem PY {K:St→Prop}:∀ {l:List Oper} {n:Nat} {st:St},(∀ k x,l[k]?=some x→all[n+k]?=some x)→runM P tt all base l (plan.drop n) st K→Gd P tt all plan base (List.range' n l.length) st K
 | [],n,st,_,h=>h
 | o :: r,n,st,ff,h=>by
  have ho:all[n]?=some o:=ff 0 o rfl
  rw [af,at3,Gd,ho]
  dsimp only
  cases hd:plan.drop n with
  | nil=>rw [hd] at h;exact h.elim
  | cons p ps =>
   rw [hd] at h
   have hp:rY plan n=p:=by rw [rY,← uD,hd];rfl
   have OS:ps=plan.drop (n+1):=by rw [← atV,hd];rfl
   rw [hp]
   subst OS
   exact qm (fun s hs=>PY (fun k x hk=>by have:=ff (k+1) x (by simpa using hk);rwa [show n+(k+1)=n+1+k by omega] at this) hs) h
theorem c5.aep {E:Env} {w:World} {a:Act} {st:St} (hs:c5 E w a st) (m:Nat):c5 E w a { st with mem:=st.mem++List.replicate m .hole }:=by
 have get:∀ {k:Nat} {B:bf},(st.mem++List.replicate m .hole)[k]?=some B→st.mem[k]?=some B∨(B=bf.hole∧st.mem.length≤k):=fun {k B} h=>by (rcases bS k st.mem.length with hk|hk);(·rw [bh hk] at h;exact .inl h);rw [aX hk,aui] at h;split at h;(·cases h;exact .inr ⟨rfl,hk⟩);cases h
 refine⟨hs.F,hs.lt,fun k B hk=>?_,fun k hk=>hs.top k (by simp at hk;omega),fun k B hk v hv=>?_,hs.apart,hs.fr⟩;·(rcases get hk with h|⟨rfl,fe⟩);(·exact hs.mem k B h);exact fun v=>hs.top k fe v
 rcases get hk with h|⟨rfl,fe⟩
 ·exact hs.dI k B h v hv
 exact hs.top k fe v
theorem pD (ht:TT P tt) (hm:P.follows .mixedOrders=true) {ρ:Option Nat} {n0:Nat} {st:St} {Q:Exit→St→Prop} (plan:List Pl) (m:Nat) {id:Nat} {ops:Array Oper} (jH:yi ops plan=true)
  (h:runM P tt ops st.mem.length ops.toList plan { st with mem:=st.mem++List.replicate m .hole } (Q .normal)):dS P ρ n0 (.region id ops true) st Q:=fun E0 w0 h0 E w a he hs oP=>by
 refine wpIn_region_any hm ?_
 have hd:c5 E { w with drawn:=w.drawn+1 } a { st with mem:=st.mem++List.replicate m .hole }:=(hs.drew (w:=w)).aep m
 have hI:=PY (all:=ops) (plan:=plan) (n:=0) (l:=ops.toList) (fun k x hk=>by rw [dL];simpa using hk) h
 rw [← auf] at hI
 refine Ge (P:=P) (tt:=tt) ht jH ops.size _ (List.range ops.toList.length) (by simp) (fun j z hj=>by simp [kl,auW] at hj;split at hj <;> simp at hj) (by simp) (List.pairwise_lt_range) (fun i=>?_) hd hI fun a' w' hdf ⟨E',st',h1,h2,h3⟩=>⟨E',st',h1,(he.trans (gK.drew E w)).trans h2,?_,h3⟩
 ·simp only [atJ,auW]
  simp
 rw [hdf];exact (oP.PF (gK.drew E w)).PF h2
theorem kx (ht:TT P tt) (hm:P.follows .mixedOrders=true) {ρ:Option Nat} {n0:Nat} {st:St} {Q:Exit→St→Prop} (plan:List Pl) (m:Nat) {id:Nat} {ops:Array Oper} {y:Code} (jH:yi ops plan=true)
  (h:∀ K:St→Prop,(∀ st',dS P ρ n0 y st' Q→K st')→runM P tt ops st.mem.length ops.toList plan { st with mem:=st.mem++List.replicate m .hole } K):dS P ρ n0 (.seq (.region id ops true) y) st Q :=
 bc (pD ht hm plan m jH (h (fun st'=>dS P ρ n0 y st' Q) fun _ h=>h))
theorem lz (ht:TT P tt) (hm:P.follows .mixedOrders=true) {ρ:Option Nat} {n0:Nat} {st:St} {Q:Exit→St→Prop} (plan:List Pl) (m:Nat) {id:Nat} {ops:Array Oper} (jH:yi ops plan=true)
  (h:∀ K:St→Prop,(∀ st',Q .normal st'→K st')→runM P tt ops st.mem.length ops.toList plan { st with mem:=st.mem++List.replicate m .hole } K):dS P ρ n0 (.region id ops true) st Q :=
 pD ht hm plan m jH (h (Q .normal) fun _ h=>h)
end
end Go.Eng
end
section
namespace Go.Eng
variable [ba]
open Go.RowKit (Below)
def nj:bf→Bool
 | .rows _ _ _=>true
 | .rv _ _ _=>true
 | .dead=>true
 | .hole=>true
 | _=>false
theorem bo.live {P:Program} {f:FuncId} {vs vs':List V} {b v s l:Nat} {bI:List bf} (hp:ij [] vs=some vs') (h:bo P f vs' [] (.ms b v s l) bI) (hm:bI.all nj=true) (mem:List bf) :
  bo P f vs mem (.ms (mem.length+b) v s l) (mem++bI):=by
 refine⟨h.1,fun E w xs hs hx=>?_⟩;obtain⟨WV,hk⟩:=vw (mem:=mem) hp;have h1:=l6 hs (keys:=[]) hx WV (by rw [hk];simp);have hE:(E.pX w []).pure=⟨E.F,fun _ _=>none,E.gl⟩:=by refine Env.Mt (funext fun ad=>?_) rfl;simp only [Env.pure,Env.pX];cases hh:E.F ad <;> simp
 rw [hE] at h1;have nV:c5 ⟨E.F,fun _ _=>none,E.gl⟩ w { tmps := #[],defers:=[] } { fr:=[],mem:=[] } := ⟨hs.F,(fun k v g e c h=>by cases h),(fun k B h=>by simp at h),(fun k _ v=>rfl),(fun k B h=>by simp at h),(fun k k' v v' g e c e' c' h=>by cases h),.nil _⟩;refine (h.2 _ w xs nV h1).mono ?_;rintro en w' ⟨E',x,rfl,fK,pY,hr⟩;have oL:∀ k v g e c,E'.cn k v=some (g,e,c)→w.heap.size≤g:=fun k v g e c hb=>by (rcases fK.cn _ _ _ _ _ hb with ⟨_,_,_,_,h⟩|h);(·cases h);exact h
 have hold:∀ b,b<w.heap.size→w'.heap[b]?=w.heap[b]?:=fun b hb=>fK.heap b hb fun _ _ _ _ h=>by cases h
 have W2:∀ ad y,E'.F ad=some y→E.F ad=some y∨w.heap.size≤ad.block:=fun ad y hy=>by (rcases fK.F _ _ hy with h|h|⟨_,_,_,_,h⟩);(·exact .inl h);(·exact .inr h);cases h
 have qb:∀ k v,k<mem.length→(⟨E'.F,fun k v=>if k<mem.length then E.cn k v else E'.cn (k-mem.length) v,E'.gl⟩:Env).cn k v=E.cn k v:=fun k v hk=>if_pos hk;have tR:∀ k v,mem.length≤k→(⟨E'.F,fun k v=>if k<mem.length then E.cn k v else E'.cn (k-mem.length) v,E'.gl⟩:Env).cn k v=E'.cn (k-mem.length) v:=fun k v hk=>if_neg (by omega);generalize W3:(⟨E'.F,fun k v=>if k<mem.length then E.cn k v else E'.cn (k-mem.length) v,E'.gl⟩:Env)=E2 at qb tR;have ju:E2.F=E'.F:=by rw [← W3]
 have CE:E2.pure=E'.pure:=Env.Mt ju rfl;have hle:E.le E2:=⟨fun ad y hy=>by rw [ju];exact fK.le.F _ _ hy,fun k v t hk=>by (rcases bS k mem.length with fe|fe);(·rw [qb k v fe];exact hk);rw [hs.top k fe v] at hk;cases hk⟩;have get:∀ {k:Nat} {B:bf},(mem++bI)[k]?=some B→(k<mem.length∧mem[k]?=some B)∨(mem.length≤k∧bI[k-mem.length]?=some B):=fun {k B} h=>by (rcases bS k mem.length with hk|hk);(·rw [bh hk] at h;exact .inl ⟨hk,h⟩);rw [aX hk] at h;exact .inr ⟨hk,h⟩
 refine⟨E2,x,rfl,⟨hle,fun k v g e c hk=>?_,fun ad y hy=>?_,fK.os,fK.tape,fK.output,fK.size,fun b hb _=>hold b hb⟩,⟨fun ad y hy=>pY.F _ _ (by rw [← ju];exact hy),fun k v g e c hk=>?_,fun k B hk=>?_,fun k hk v=>?_,fun k B hk v hv=>?_,fun k k' v v' g e1 c1 e2 c2 h5 h6=>?_,.nil _⟩,?_⟩;·(rcases bS k mem.length with fe|fe);(·rw [qb k v fe] at hk;exact .inl ⟨k,v,e,c,hk⟩);rw [tR k v fe] at hk;exact .inr (oL _ _ _ _ _ hk)
 ·rw [ju] at hy;(rcases W2 ad y hy with h|h);(·exact .inl h);exact .inr (.inl h)
 ·(rcases bS k mem.length with fe|fe);(·rw [qb k v fe] at hk;have:=hs.lt _ _ _ _ _ hk;have:=fK.size;omega);rw [tR k v fe] at hk;exact pY.lt _ _ _ _ _ hk
 ·(rcases get hk with ⟨fe,hB⟩|⟨fe,hB⟩);(·refine (hs.mem k B hB).mono hle (fun v hv=>by rw [qb k v fe];exact hv) (fun g e c hb=>hold g (hs.lt _ _ _ _ _ hb)) fun g e c o hb hn=>?_;rw [ju];cases hy:E'.F ⟨g,o,none⟩ with|none=>rfl|some y =>(rcases W2 _ y hy with h|h);(·rw [hn] at h;cases h);have:=hs.lt _ _ _ _ _ hb;simp at h;omega);have hl:=aN.1 hm B (aE hB);have h0:=pY.mem _ B hB;cases B with|hole=>(exact fun v=>by rw [tR k v fe];exact h0 v)|dead=>trivial|box cs=>simp [nj] at hl|loop s p fr ps a b=>simp [nj] at hl|map dx clock=>simp [nj] at hl|jg m since seen last=>simp [nj] at hl|nk T kb v l=>simp [nj] at hl|n7 T v O=>simp [nj] at hl|mX s pos=>simp [nj] at hl|nC=>simp [nj] at hl|rows v e rs =>((rcases h0 with ⟨h1,h2⟩|⟨g,T,ys,c,h1,h2,h3,h4,h5,h6⟩);(·exact .inl ⟨h1,by rw [tR k v fe];exact h2⟩);exact .inr ⟨g,T,ys,c,by rw [tR k v fe];exact h1,h2,h3,h4,by rw [CE];exact h5,fun o=>by rw [ju];exact h6 o⟩)|rv v e rs =>(rcases h0 with ⟨h1,h2⟩|⟨g,c,h1,h2,h3⟩);(·exact .inl ⟨h1,by rw [tR k v fe];exact h2⟩);exact .inr ⟨g,c,by rw [tR k v fe];exact h1,h2,by rw [CE,ju];exact h3⟩
 ·dsimp only at hk;simp only [ae] at hk;rw [tR k v (by omega)];exact pY.top _ (by dsimp only;omega) v
 ·(rcases get hk with ⟨fe,hB⟩|⟨fe,hB⟩);(·rw [qb k v fe];exact hs.dI k B hB v hv);rw [tR k v fe];exact pY.dI _ B hB v hv
 ·(rcases bS k mem.length with ib|ib <;> rcases bS k' mem.length with jI|jI);(·rw [qb k _ ib] at h5;rw [qb k' _ jI] at h6;exact hs.apart _ _ _ _ _ _ _ _ _ h5 h6);(·rw [qb k _ ib] at h5;rw [tR k' _ jI] at h6;have:=hs.lt _ _ _ _ _ h5;have:=oL _ _ _ _ _ h6;omega);(·rw [tR k _ ib] at h5;rw [qb k' _ jI] at h6;have:=hs.lt _ _ _ _ _ h6;have:=oL _ _ _ _ _ h5;omega);rw [tR k _ ib] at h5;rw [tR k' _ jI] at h6;have:=pY.apart _ _ _ _ _ _ _ _ _ h5 h6;omega
 cases hr with|ms _ b v s l g e c a cap hb hl h0 hc=>exact .ms _ _ _ _ _ g e c _ _ (by rw [tR _ v (by omega),dQ];exact hb) hl h0 hc|iv=>exact .iv _ _ _ _
theorem c5.Gf {E:Env} {w:World} {a:Act} {st:St} (hs:c5 E w a st) (v e:Nat):c5 E w a { st with mem:=st.mem++[.rows v e []] }:=by
 have get:∀ {k:Nat} {B:bf},(st.mem++[bf.rows v e []])[k]?=some B→st.mem[k]?=some B∨(B=bf.rows v e []∧st.mem.length≤k):=fun {k B} h=>by (rcases bS k st.mem.length with hk|hk);(·rw [bh hk] at h;exact .inl h);rw [aX hk] at h;cases fe:k-st.mem.length with|zero=>rw [fe] at h;cases h;exact .inr ⟨rfl,hk⟩|succ j=>rw [fe] at h;cases h
 refine⟨hs.F,hs.lt,fun k B hk=>?_,fun k hk=>hs.top k (by simp at hk;omega),fun k B hk v hv=>?_,hs.apart,hs.fr⟩;·(rcases get hk with h|⟨rfl,fe⟩);(·exact hs.mem k B h);exact .inl ⟨rfl,hs.top k fe v⟩
 rcases get hk with h|⟨rfl,fe⟩
 ·exact hs.dI k B h v hv
 exact hs.top k fe v
theorem c5.PZ {E:Env} {w:World} {a:Act} {st:St} (hs:c5 E w a st) {i:Nat} (b v:Nat) (h:st.fr[i]?=some (.sc (.slice none 0 0))):c5 E w a { st with fr:=st.fr.set i (.ms b v 0 0) }:=hs.Ux h
theorem MT {P:Program} {ρ:Option Nat} {n0:Nat} {c:Code} {st:St} {Q:Exit→St→Prop} (i v e:Nat) (h0:st.fr[i]?=some (.sc (.slice none 0 0))) (h:dS P ρ n0 c { fr:=st.fr.set i (.ms st.mem.length v 0 0),mem:=st.mem++[.rows v e []] } Q):dS P ρ n0 c st Q :=
 rQ (fun E w a hs=>(hs.PZ (i:=i) st.mem.length v h0).Gf v e) h
end Go.Eng
end
section
namespace Go.Eng
variable [ba]
open Go.RowKit (Below)
theorem Ax {E E':Env} {w w':World} {mem bI l:List bf} (hs:c5 E w { tmps := #[],defers:=[] } { fr:=[],mem:=mem++l }) (UH:gK (E.cut mem.length) w E' w') (IF:c5 E' w' { tmps := #[],defers:=[] } { fr:=[],mem:=bI })
  (hlen:bI.length=mem.length) (hb:bI.all (aL mem.length)=true):∃ E2,gK E w E2 w'∧c5 E2 w' { tmps := #[],defers:=[] } { fr:=[],mem:=bI++l }∧(E'.cut mem.length).le E2:=by
 have nV:=IF.cut (n:=mem.length) rfl (by rw [dX (by dsimp only;omega)];exact hb);rw [dX (by dsimp only;omega)] at nV;dsimp only at nV;have Gg:∀ k,mem.length≤k→∀ v,(E.cut mem.length).cn k v=none:=fun k hk v=>if_neg (by omega);have fK:gK (E.cut mem.length) w (E'.cut mem.length) w':=UH.cut Gg;have oI:∀ k v t,(E.cut mem.length).cn k v=some t→k<mem.length∧E.cn k v=some t:=fun k v t h=>by (rcases bS k mem.length with hk|hk);(·exact⟨hk,(if_pos hk).symm.trans h⟩);rw [Gg k hk] at h;cases h
 have aeq:∀ k v t,(E'.cut mem.length).cn k v=some t→k<mem.length:=fun k v t h=>by (rcases bS k mem.length with hk|hk);(·exact hk);have h0:(E'.cut mem.length).cn k v=none:=if_neg (by omega);rw [h0] at h;cases h
 generalize ap8:E'.cut mem.length=Fj at nV fK aeq;have qb:∀ k v,k<mem.length→(⟨Fj.F,fun k v=>if k<mem.length then Fj.cn k v else E.cn k v,Fj.gl⟩:Env).cn k v=Fj.cn k v:=fun k v hk=>if_pos hk;have tR:∀ k v,mem.length≤k→(⟨Fj.F,fun k v=>if k<mem.length then Fj.cn k v else E.cn k v,Fj.gl⟩:Env).cn k v=E.cn k v:=fun k v hk=>if_neg (by omega);generalize W3:(⟨Fj.F,fun k v=>if k<mem.length then Fj.cn k v else E.cn k v,Fj.gl⟩:Env)=E2 at qb tR;have ju:E2.F=Fj.F:=by rw [← W3]
 have mf:∀ k v t,k<mem.length→E.cn k v=some t→(E.cut mem.length).cn k v=some t:=fun k v t hk h=>(if_pos hk).trans h;have hle:E.le E2:=⟨fun ad y hy=>by rw [ju];exact fK.le.F _ _ hy,fun k v t hk=>by (rcases bS k mem.length with fe|fe);(·rw [qb k v fe];exact fK.le.cn _ _ _ (mf _ _ _ fe hk));rw [tR k v fe];exact hk⟩;have aer:Fj.le E2:=⟨fun ad y hy=>by rw [ju];exact hy,fun k v t hk=>by rw [qb k v (aeq _ _ _ hk)];exact hk⟩;have Ae:∀ k v g e c,mem.length≤k→E.cn k v=some (g,e,c)→∀ k0 v0 e0 c0,(E.cut mem.length).cn k0 v0≠some (g,e0,c0):=fun k v g e c hk hb k0 v0 e0 c0 h=>by obtain⟨h1,h2⟩:=oI _ _ _ h;have:=hs.apart _ _ _ _ _ _ _ _ _ h2 hb;omega
 have get:∀ {k:Nat} {B:bf},(bI++l)[k]?=some B→(k<mem.length∧bI[k]?=some B)∨(mem.length≤k∧(mem++l)[k]?=some B):=fun {k B} h=>by (rcases bS k mem.length with hk|hk);(·rw [bh (by omega)] at h;exact .inl ⟨hk,h⟩);rw [aX (by omega),hlen] at h;exact .inr ⟨hk,by rw [aX hk];exact h⟩
 refine⟨E2,⟨hle,fun k v g e c hk=>?_,fun ad y hy=>?_,fK.os,fK.tape,fK.output,fK.size,fun b hb dy=>fK.heap b hb fun k v e c h=>dy _ _ _ _ (oI _ _ _ h).2⟩,⟨fun ad y hy=>nV.F _ _ (by rw [← ju];exact hy),fun k v g e c hk=>?_,fun k B hk=>?_,fun k hk v=>?_,fun k B hk v hv=>?_,fun k k' v v' g e1 c1 e2 c2 h5 h6=>?_,.nil _⟩,aer⟩;·(rcases bS k mem.length with fe|fe);(·rw [qb k v fe] at hk;(rcases fK.cn _ _ _ _ _ hk with ⟨k0,v0,e0,c0,h⟩|h);(·exact .inl ⟨_,_,_,_,(oI _ _ _ h).2⟩);exact .inr h);rw [tR k v fe] at hk;exact .inl ⟨_,_,_,_,hk⟩
 ·rw [ju] at hy;(rcases fK.F _ _ hy with h|h|⟨k0,v0,e0,c0,h⟩);(·exact .inl h);(·exact .inr (.inl h));exact .inr (.inr ⟨_,_,_,_,(oI _ _ _ h).2⟩)
 ·(rcases bS k mem.length with fe|fe);(·rw [qb k v fe] at hk;exact nV.lt _ _ _ _ _ hk);rw [tR k v fe] at hk;exact qJ (hs.lt _ _ _ _ _ hk) fK.size
 ·(rcases get hk with ⟨fe,hB⟩|⟨fe,hB⟩);(·exact (nV.mem k B hB).mono aer (fun v hv=>by rw [qb k v fe];exact hv) (fun _ _ _ _=>rfl) fun g e c o _ hn=>by rw [ju];exact hn);refine (hs.mem k B hB).mono hle (fun v hv=>by rw [tR k v fe];exact hv) (fun g e c hb=>fK.heap g (hs.lt _ _ _ _ _ hb) fun k0 v0 e0 c0 h=>Ae _ _ _ _ _ fe hb _ _ _ _ h) fun g e c o hb hn=>?_;rw [ju];cases hy:Fj.F ⟨g,o,none⟩ with|none=>rfl|some y =>(rcases fK.F _ _ hy with h|h|⟨k0,v0,e0,c0,h⟩);(·have h':E.F ⟨g,o,none⟩=some y:=h;rw [hn] at h';cases h');(·have:=hs.lt _ _ _ _ _ hb;simp at h;omega);exact absurd h (Ae _ _ _ _ _ fe hb _ _ _ _)
 ·dsimp only at hk;simp only [ae] at hk;rw [tR k v (by omega)];exact hs.top k (by simp;omega) v
 ·(rcases get hk with ⟨fe,hB⟩|⟨fe,hB⟩);(·rw [qb k v fe];exact nV.dI k B hB v hv);rw [tR k v fe];exact hs.dI k B hB v hv
 have mixed:∀ k k' v v' g e1 c1 e2 c2,k<mem.length→mem.length≤k'→Fj.cn k v=some (g,e1,c1)→E.cn k' v'=some (g,e2,c2)→k=k':=fun k k' v v' g e1 c1 e2 c2 hk lj h h'=>by (rcases fK.cn _ _ _ _ _ h with ⟨k0,v0,e0,c0,h0⟩|h0);(·exact absurd h0 (Ae _ _ _ _ _ lj h' _ _ _ _));have:=hs.lt _ _ _ _ _ h';omega
 rcases bS k mem.length with ib|ib <;> rcases bS k' mem.length with jI|jI
 ·rw [qb k _ ib] at h5;rw [qb k' _ jI] at h6;exact nV.apart _ _ _ _ _ _ _ _ _ h5 h6
 ·rw [qb k _ ib] at h5;rw [tR k' _ jI] at h6;exact mixed _ _ _ _ _ _ _ _ _ ib jI h5 h6
 ·rw [tR k _ ib] at h5;rw [qb k' _ jI] at h6;exact (mixed _ _ _ _ _ _ _ _ _ jI ib h6 h5).symm
 rw [tR k _ ib] at h5;rw [tR k' _ jI] at h6;exact hs.apart _ _ _ _ _ _ _ _ _ h5 h6
theorem Gh {E:Env} {w:World} {mem l:List bf} (hs:c5 E w { tmps := #[],defers:=[] } { fr:=[],mem:=mem++l }) (hb:mem.all (aL mem.length)=true):c5 (E.cut mem.length) w { tmps := #[],defers:=[] } { fr:=[],mem:=mem }:=by have h:=hs.cut (n:=mem.length) rfl (by rw [qK];exact hb);rwa [qK] at h
theorem cU.below {E:Env} {n:Nat} {vs:List V} {xs:List Value} (h:cU E vs xs) (hb:vs.all (aI n)=true):cU (E.cut n) vs xs :=
 ⟨h.1,fun i v x hv hx=>gZ (h.2 i v x hv hx) (aN.1 hb v (aE hv))⟩
theorem bo.frame {P:Program} {f:FuncId} {vs:List V} {r:V} {mem bI:List bf} (h:bo P f vs mem r bI) (hv:vs.all (aI mem.length)=true) (hm:mem.all (aL mem.length)=true) (hr:aI mem.length r=true) (hlen:bI.length=mem.length) (hm':bI.all (aL mem.length)=true) (l:List bf) :
  bo P f vs (mem++l) r (bI++l):=by refine⟨h.1,fun E w xs hs hx=>?_⟩;refine (h.2 _ w xs (Gh hs hm) (hx.below hv)).mono ?_;rintro en w' ⟨E',x,rfl,fK,pY,j4⟩;obtain⟨E2,h1,h2,h3⟩:=Ax hs fK pY hlen hm';exact⟨E2,x,rfl,h1,h2,(gZ j4 hr).mono h3⟩
theorem Ih.frame {P:Program} {k:Nat} {vs:List V} {mem bI:List bf} {b:Bool} (h:Ih P k vs mem b bI) (hk:k<mem.length) (hv:vs.all (aI mem.length)=true) (hm:mem.all (aL mem.length)=true) (hlen:bI.length=mem.length) (hm':bI.all (aL mem.length)=true) (l:List bf) :
  Ih P k vs (mem++l) b (bI++l):=by intro E w xs lp e c hs hx hb;obtain⟨fn,tmps,assign,body,h1,h2⟩:=h _ w xs lp e c (Gh hs hm) (hx.below hv) ((if_pos hk).trans hb);refine⟨fn,tmps,assign,body,h1,h2.mono ?_⟩;rintro en w' ⟨E',rfl,fK,pY⟩;obtain⟨E2,h3,h4,-⟩:=Ax hs fK pY hlen hm';exact⟨E2,rfl,h3,h4⟩
mutual
theorem ou {n m:Nat} (h:n≤m):∀ {v:V},aI n v=true→aI m v=true
 | .ms _ _ _ _,hv=>by simp [aI] at hv ⊢;omega
 | .ptr _ _,hv=>by simp [aI] at hv ⊢;omega
 | .jK _,hv=>by simp [aI] at hv ⊢;omega
 | .mp _,hv=>by simp [aI] at hv ⊢;omega
 | .gJ _ _ _ _,hv=>by simp [aI] at hv ⊢;omega
 | .undef,_=>rfl
 | .sc _,_=>rfl
 | .slice _,_=>rfl
 | .eY _,_=>rfl
 | .gn,_=>rfl
 | .full _,_=>rfl
 | .agg cs,hv=>by simp only [aI] at hv ⊢;exact mB h hv
 | .dR cs,hv=>by simp only [aI] at hv ⊢;exact mB h hv
 | .ia f a b,hv=>by simp only [aI,aJ] at hv ⊢;exact⟨mB h hv.1,mB h hv.2⟩
theorem mB {n m:Nat} (h:n≤m):∀ {l:List V},aV n l=true→aV m l=true
 | [],_=>rfl
 | c :: r,hv=>by simp only [aV,aJ] at hv ⊢;exact⟨ou h hv.1,mB h hv.2⟩
end
theorem yl {n m:Nat} (h:n≤m) {B:bf} (hv:aL n B=true):aL m B=true:=by cases B with|box cs=>simp only [aL,aN] at hv ⊢;exact fun x hx=>ou h (hv x hx)|loop a b fr c d e=>simp only [aL,aN] at hv ⊢;exact fun x hx=>ou h (hv x hx)|map dx c=>simp only [aL,aN] at hv ⊢;exact fun x hx=>ou h (hv x hx)|jg m s se l=>simp only [aL,decide_eq_true_eq] at hv ⊢;omega|nk T kb v l=>simp only [aL,decide_eq_true_eq] at hv ⊢;omega|_=>rfl
theorem qn {n m:Nat} (h:n≤m) {l:List bf} (hv:l.all (aL n)=true):l.all (aL m)=true:=aN.2 fun x hx=>yl h (aN.1 hv x hx)
theorem aet:(false==true)=false:=rfl
theorem aeu:(true==false)=false:=rfl
theorem UI (mem:List bf) (ts:Array TypeId) (P:Program) (r:List V):wZ mem ts P [.slice r]=none:=rfl
theorem UJ (mem:List bf) (ts:Array TypeId) (P:Program) (b v s l:Nat):wZ mem ts P [.ms b v s l]=none:=rfl
theorem UK (mem:List bf) (ts:Array TypeId) (P:Program) (x:Value):wZ mem ts P [.sc x]=none:=rfl
theorem dT {P:Program} {tt:Table} {all:Array Oper} {base:Nat}:∀ (k:Nat) {l:List Oper} {ps:List Pl} {st:St} {K:St→Prop},k≤l.length→k≤ps.length →
  (∀ K1:St→Prop,(∀ s,runM P tt all base (l.drop k) (ps.drop k) s K→K1 s)→runM P tt all base (l.take k) (ps.take k) st K1)→runM P tt all base l ps st K
 | 0,l,ps,st,K,_,_,h=>by
  have:=h (fun s=>runM P tt all base l ps s K) fun s hs=>hs
  simpa [runM] using this
 | k+1,[],ps,st,K,hl,_,h=>by simp at hl
 | k+1,o :: r,[],st,K,_,hp,h=>by simp at hp
 | k+1,o :: r,p :: ps,st,K,hl,hp,h=>by
  simp only [runM]
  have h1:=h (fun s=>runM P tt all base (r.drop k) (ps.drop k) s K) fun s hs=>hs
  simp only [y5,runM] at h1
  exact qm (fun s hs=>dT k (by simpa using hl) (by simpa using hp) fun K1 eZ=>CU hs eZ) h1
where
 CU {P:Program} {tt:Table} {all:Array Oper} {base:Nat}:∀ {l:List Oper} {ps:List Pl} {st:St} {K K':St→Prop},runM P tt all base l ps st K→(∀ s,K s→K' s)→runM P tt all base l ps st K'
  | [],_,_,_,_,h,hk=>hk _ h
  | o :: r,[],_,_,_,h,_=>by simp [runM] at h
  | o :: r,p :: ps,st,K,K',h,hk=>by
   simp only [runM] at h ⊢
   exact qm (fun s hs=>CU hs hk) h
end Go.Eng
end
section
namespace Go.Eng
variable [ba]
theorem rZ {α:Type} {l:List α} {t:Nat} {x:α} (h:l[t]?=some x):l.set t x=l:=by
 apply dC;intro i;rw [bR];split;·rename_i hi;subst hi;rw [if_pos (aA.1 h).1,h]
 rfl
section
variable {P:Program} {ρ:Option Nat} {n0:Nat} {Q:Exit→St→Prop} {c:Code} {st:St}
theorem c5.Ay {E:Env} {w:World} {a:Act} (hs:c5 E w a st) {k t:Nat} {cs:List V} (hk:st.mem[k]?=some (.box cs)) (hp:cs.all lu=true) (h0:st.fr[t]?=some (.ptr k 0)) :
  ∃ E',c5 E' w a { fr:=st.fr.set t (.eY cs),mem:=st.mem.set k .dead }∧gK E w E' w:=by
 obtain⟨g,T,xs,hb,hh,hr,hf⟩:=hs.mem k _ hk;have hF:∀ ad x,E.F ad=some x→(if ad.block=g then w.cell? ad else E.F ad)=some x:=fun ad x h=>by split;(·exact hs.F ad x h);exact h
 obtain⟨E',hE⟩:∃ E':Env,E' = { F:=fun ad=>if ad.block=g then w.cell? ad else E.F ad,cn:=E.cn,gl:=E.gl.mono hF }:=⟨_,rfl⟩;have eF:∀ ad,E'.F ad=if ad.block=g then w.cell? ad else E.F ad:=fun ad=>by rw [hE]
 have eb:E'.cn=E.cn:=by rw [hE]
 have hle:E.le E':=⟨fun ad x h=>by rw [eF];exact hF ad x h,fun _ _ _ h=>by rw [eb];exact h⟩;obtain⟨x,hx,KZ⟩:=hs.fr.get h0;have hxv:x = .pointer (some ⟨g,0,none⟩):=by cases KZ with|ptr _ _ _ g' e c fR=>rw [hb] at fR;cases fR;rfl
 subst hxv;have hpu:=cU.pure hr hp;have j4:cT E' (.eY cs) (.pointer (some ⟨g,0,none⟩)):=by (have h1:∀ j,(Addr.mk g 0 none).add j=⟨g,j,none⟩:=fun j=>by unfold Addr.add;by_cases hj:j=0 <;> simp [hj]);refine .eY _ _ _ (fun j=>(xs[j]?).getD undef) (fun j c hj=>?_) fun j c hj=>?_;(·obtain⟨y,hy,-⟩:=hpu.get hj;rw [h1,eF,if_pos rfl,nd hh];simp only [dJ] at hy;rw [hy];rfl);obtain⟨y,hy,Pe⟩:=hpu.get hj;simp only [dJ] at hy;rw [hy];exact Pe.mono (Env.kC hle)
 have y8:cU E' (st.fr.set t (.eY cs)) a.tmps.toList:=by have:=cU.set (n:=t) (hs.fr.mono hle) j4;rwa [rZ hx] at this
 refine⟨E',⟨fun ad y hy=>?_,fun k' v g' e c h=>hs.lt k' v g' e c (by rwa [eb] at h),fun k' B hB=>?_,fun k' lj v=>?_,fun k' B hB v hv=>?_,fun k1 k2 v1 v2 g' e c e' c' q1 q2=>?_,y8⟩,?_⟩;·rw [eF] at hy;split at hy;(·exact hy);exact hs.F ad y hy
 ·rw [bR] at hB;split at hB;(·split at hB;(·cases hB;exact trivial);cases hB);rename_i dy;refine (hs.mem k' B hB).mono hle (fun v h=>by rw [eb];exact h) (fun _ _ _ _=>rfl) fun g' e c o q1 q2=>?_;rw [eF];split;(·rename_i hg;have hg:g'=g:=hg;subst hg;exact absurd (hs.apart _ _ _ _ _ _ _ _ _ hb q1) dy);exact q2
 ·rw [eb];exact hs.top k' (by simpa using lj) v
 ·rw [eb];rw [bR] at hB;split at hB;(·rename_i hke;split at hB;(·cases hB;subst hke;exact hs.dI k _ hk v hv);cases hB);exact hs.dI k' B hB v hv
 ·rw [eb] at q1 q2;exact hs.apart _ _ _ _ _ _ _ _ _ q1 q2
 refine⟨hle,fun k' v g' e c h=>.inl ⟨k',v,e,c,by rwa [eb] at h⟩,fun ad y hy=>?_,rfl,rfl,rfl,ay _,fun _ _ _=>rfl⟩;rw [eF] at hy;split at hy;·rename_i hg;exact .inr (.inr ⟨k,0,0,0,by rw [hg];exact hb⟩)
 exact .inl hy
end
theorem c5.Zj {E:Env} {w:World} {m:List bf} {k:Nat} {cs:List V} {x:Value} (hs:c5 E w { tmps := #[],defers:=[] } { fr:=[],mem:=m }) (hr:cT E (.ptr k 0) x) (hk:m[k]?=some (.box cs)) (hp:cs.all lu=true) :
  ∃ E',c5 E' w { tmps := #[],defers:=[] } { fr:=[],mem:=m.set k .dead }∧gK E w E' w∧cT E' (.eY cs) x:=by have h1:c5 E w { tmps := #[x],defers:=[] } { fr:=[.ptr k 0],mem:=m }:=⟨hs.F,hs.lt,hs.mem,hs.top,hs.dI,hs.apart,.cons hr (.nil _)⟩;obtain⟨E',h2,h3⟩:=h1.Ay (t:=0) hk hp rfl;obtain⟨y,ys,hy,CV,-⟩:=h2.fr.of_cons;cases hy;exact⟨E',⟨h2.F,h2.lt,h2.mem,h2.top,h2.dI,h2.apart,.nil _⟩,h3,CV⟩
end Go.Eng
end
