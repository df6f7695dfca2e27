import Derived.Test.YtnboooapeopjoaaGreatDoorE2
import Derived.RangeFuncRecord
import Derived.OrdersIn
open Array renaming any_eq_true'→atH,foldl_toList→atd,getD_eq_getD_getElem?→lh,getElem?_eq_getElem→b9,getElem?_eq_none→asM,getElem?_eq_some_iff→dH,getElem?_replicate→atT,getElem?_setIfInBounds_ne→Eu,getElem?_toList→eN,mapM_eq_mapM_toList→atk,toArray_toList→cX,toList_append→j7
open Bool renaming and_eq_true→aD,false_eq_true→bJ,or_comm→asO,or_eq_true→qb
open Go.RowKit.Below renaming heap_alloc→ed
open List renaming all_eq_true→aX,append_nil→ij,cons_append→ai,ext_getElem?→dq,flatMap_cons→jx,flatMap_nil→ata,foldl_cons→fq,getElem?_append→XW,getElem?_append_left→bx,getElem?_append_right→a6,getElem?_cons_zero→ee,getElem?_eq_none→dN,getElem?_eq_none_iff→atU,getElem?_eq_some_iff→aq,getElem?_map→ae,getElem?_replicate→atg,getElem?_set→bK,getElem?_set_ne→cL,getElem?_set_self→asP,getElem?_take→jd,getElem?_take_of_lt→jO,length_append→bc,length_cons→aj,length_eq_zero_iff→b7,length_nil→aA,length_set→mO,length_take→cn,mapM_cons→as7,map_congr_left→iq,map_cons→cz,mem_append→ft,mem_append_left→fH,mem_append_right→gD,mem_cons→dj,mem_cons_of_mem→bE,mem_cons_self→bZ,mem_map→dr,mem_of_getElem?→ay,mem_range→aov,nodup_cons→asN,pairwise_append→atO,range'_succ→atb,range_eq_range'→atf,set_comm→asQ,tail_drop→as8,take_left→rM,take_of_length_le→bu,take_succ_cons→ZQ
open List.cons renaming injEq→att
open Nat renaming add_assoc→o6,add_comm→UU,add_sub_cancel_left→ef,eq_zero_or_pos→atc,le_refl→ax,le_trans→Di,lt_of_lt_of_le→rL,lt_or_ge→br,zero_add→aZ
open Option renaming bind_some→l6,map_eq_some_iff→bH,map_some→aC
open Option.some renaming injEq→aB
open Prod.mk renaming injEq→dE
set_option linter.all false
section
namespace Go.Eng
variable [bk]
open Go.RowKit (Below)
theorem jz {P:Program} {s:Sem Value} {w w':World} {x:Value} (h:s.run P w = .ok x w'):(do pure (Next.value (← s)):Sem Next).run P w = .ok (.value x) w':=by simp [h]
def Hf (E:Env) (w:World) (a:Act) (dst:Option Tmp) (Q:St→Prop) (v:Value) (w':World):Prop:=∃ E' st',cY E' w' (a.put dst v) st'∧il E w E' w'∧Q st'
def WF (ρ:Option Nat):Fence := { fn:=fun _=>True,depth:=none,alive:=false,round:=ρ }
theorem AV {ρ:Option Nat} {n:Nat} {P:Program} {f:FuncId} {xs:Array Value} {w:World} {R:Ending→World→Prop} (h:Calls P f xs w R):CallsIn (WF ρ) n P f xs w R:=by have h1:CallsIn Fence.wide n P f xs w R:=callsIn_wide.2 h;cases ρ with|none=>exact h1|some l=>exact h1.inRound l
theorem Hg {n:Nat} {P:Program} {f:FuncId} {xs:Array Value} {w:World} {R:Ending→World→Prop} (h:CallsIn (WF none) n P f xs w R):Calls P f xs w R:=callsIn_wide.1 h
theorem Kd {ρ:Option Nat} {n:Nat} {P:Program} {l:Nat} {f:FuncId} {tmps:Array Value} {assign body:Code} {w:World} {R:Ending→World→Prop} (h:RoundIn Fence.wide 0 P l f tmps assign body w R):RoundIn (WF ρ) n P l f tmps assign body w R:=by refine⟨trivial,fun c cs _=>?_⟩;exact h.2 c cs (room_wide _)
section
variable {P:Program} {ρ:Option Nat} {n:Nat} {o:Oper} {a:Act} {w w':World} {next:Act→World→Prop} {Q:Exit→Act→World→Prop} (lq:∀ c,o.op ≠ .defer c)
include lq
theorem dw {v:Value} (h:(execOp a.eval o).run P w = .ok (.value v) w') (hn:next (a.put o.dst v) w'):o.wpIn (WF ρ) n P a w next Q:=by refine⟨fun _ _=>trivial,?_⟩;rw [Oper.semAt_eq _ _ _ lq,h];exact hn
theorem oE (h:(execOp a.eval o).run P w = .ok .skip w') (hn:next (a.put o.dst undef) w'):o.wpIn (WF ρ) n P a w next Q:=by refine⟨fun _ _=>trivial,?_⟩;rw [Oper.semAt_eq _ _ _ lq,h];exact hn
theorem yM {f:FuncId} {xs:Array Value} {R:Ending→World→Prop} (h:(execOp a.eval o).run P w = .ok (.enter f xs) w) (hc:Calls P f xs w R) (hR:∀ e w',R e w'→∃ v,e = .returned v∧next (a.put o.dst v) w') :
  o.wpIn (WF ρ) n P a w next Q:=by refine⟨fun _ _=>trivial,?_⟩;rw [Oper.semAt_eq _ _ _ lq,h];refine⟨fun h=>by simp [WF] at h,(AV hc).mono fun e w' he=>?_⟩;obtain⟨v,rfl,hn⟩:=hR e w' he;exact hn
theorem yN {l:Nat} {f:FuncId} {tmps:Array Value} {assign body:Code} {R:Ending→World→Prop} (h:(execOp a.eval o).run P w = .ok (.round l f tmps assign body) w) (hc:RoundIn Fence.wide 0 P l f tmps assign body w R)
  (hR:∀ e w',R e w'→∃ v,e = .returned v∧next (a.put o.dst v) w'):o.wpIn (WF ρ) n P a w next Q:=by refine⟨fun _ _=>trivial,?_⟩;rw [Oper.semAt_eq _ _ _ lq,h];refine⟨fun h=>by simp [WF] at h,(Kd hc).mono fun e w' he=>?_⟩;obtain⟨v,rfl,hn⟩:=hR e w' he;exact hn
end
theorem yO {P:Program} {E:Env} {w:World} {a:Act} {st:St} (hs:cY E w a st) {f:FuncId} {vs:List V} {dst:Option Tmp} {Q:St→Prop} (h:yK P f vs st dst Q) {xs:Array Value} (hx:cJ E vs xs.toList) :
  ((callFunc f xs).run P w = .ok (.enter f xs) w∧Calls P f xs w fun e w'=>∃ v,e = .returned v∧Hf E w a dst Q v w')∨∃ v,(callFunc f xs).run P w = .ok (.value v) w∧Hf E w a dst Q v w:=by
 rcases h with ⟨vs',r,hp,hf,hQ⟩|⟨r,bV,hf,hQ⟩|⟨R,hf,hQ⟩|⟨r,hf,hQ⟩
 ·refine .inl ⟨hf.1 xs w,(NN hs hx hp hf).mono ?_⟩;rintro e w' ⟨E',x,rfl,iz,qc,hr⟩;exact⟨x,rfl,E',_,qc.put dst hr,iz,hQ⟩
 ·refine .inl ⟨hf.1 xs w,(hf.2 E w xs hs.bare hx).mono ?_⟩;rintro e w' ⟨E',x,rfl,iz,qc,hr⟩;exact⟨x,rfl,E',_,(hs.Hd qc iz.le).put dst hr,iz,hQ⟩
 ·refine .inl ⟨hf.1 xs w,(hf.2 E w xs hs.bare hx).mono ?_⟩;rintro e w' ⟨E',x,r,bV,rfl,hR,iz,qc,hr⟩;exact⟨x,rfl,E',_,(hs.Hd qc iz.le).put dst hr,iz,hQ _ _ hR⟩
 obtain⟨x,h1,h2⟩:=hf E w xs hs.F hx;exact .inr ⟨x,h1,E,_,hs.put dst h2,il.refl E w,hQ⟩
theorem gU {P:Program} {tt:Table} (ht:TT P tt) {E:Env} {w:World} {a:Act} {st:St} (hs:cY E w a st) {key:Nat} (hk:jH st.mem key) {o:Oper} {Q:St→Prop} (h:cR P tt key o st Q)
  {ρ:Option Nat} {n:Nat} {next:Act→World→Prop} {Q':Exit→Act→World→Prop} (hn:∀ v w',Hf E w a o.dst Q v w'→next (a.put o.dst v) w'):o.wpIn (WF ρ) n P a w next Q':=by
 obtain⟨dst,op,type,pos,after,guard⟩:=o;have lq:∀ c,op ≠ .defer c:=by rintro c rfl;simp [cR,mC] at h
 unfold cR at h;dsimp only at h;split at h;·rename_i T;split at h;(·rename_i i hi;obtain⟨info,yG,-,-,z,hz,CT⟩:=ht.size T i hi;(have hr:cJ E (i.zero.map V.sc) z.cells.toList:=by rw [CT];exact⟨by simp,fun k c x hc hx=>by simp only [ae,hx,aC,aB] at hc;subst hc;exact .sc _ _⟩);obtain⟨E',h1,h2,h3⟩:=hs.PU hk hr T;refine dw lq (v:=.pointer (some ⟨w.heap.size,0,none⟩)) (w':=w.alloc (.cells z.cells T (0,0))) ?_ (hn _ _ ⟨E',_,h1.put dst h3,h2,h⟩);(have hzv:(zeroValue T).run P w = .ok z w:=by simp [zeroValue,gW yG,hz]);simp [execOp,Instr.alloc,hzv,newVar,newRow]);exact h.elim
 ·rename_i T x;split at h;(·rename_i cs Ev;obtain⟨hr,-⟩:=qU (hs.eval x) Ev;obtain⟨E',h1,h2,h3⟩:=hs.PU hk hr T;refine dw lq (v:=.pointer (some ⟨w.heap.size,0,none⟩)) (w':=w.alloc (.cells (a.eval x).cells T (0,0))) ?_ (hn _ _ ⟨E',_,h1.put dst h3,h2,h⟩);simp [execOp,Instr.box,newVar,newRow]);exact h.elim
 ·split at h;(·rename_i v hv;obtain⟨x,h1,h2⟩:=vU ht hs hv;exact dw lq (du h1) (hn _ _ ⟨E,_,hs.put dst h2,il.refl E w,h⟩));exact h.elim
 ·rename_i T len parts;split at h;(·rename_i size rs hl;obtain⟨Z,e,h1,h2,h3,h4⟩:=ER ht (fun p _=>hs.eval p.2) hl;obtain⟨E',h5,h6,h7⟩:=hs.vK hk (xs:=Z) (rs:=rs) (c:=len) e h2 (by omega) h4;rw [h3] at h7;exact dw lq (jz h1) (hn _ _ ⟨E',_,h5.put dst h7,h6,h⟩));split at h;(·rename_i size rs hl;unfold Vv at hl;split at hl;(·rename_i vs' hvs;obtain⟨E1,uP,Vw,Qe⟩:=hs.freeze hvs;(have hpa:∀ (l:List (Nat×Operand)) (us Qa:List V),us=l.map (fun p=>st.eval p.2)→fw st.mem us=some Qa→cJ E1 Qa (l.map fun p=>a.eval p.2)→∀ p∈l,cV E1 (evP st.mem st.eval p.2) (a.eval p.2):=by intro l;induction l with|nil=>intro us Qa _ _ _ p hp;simp at hp|cons q r ih =>intro us Qa hu hp hr p aal;subst hu;simp only [cz,fw] at hp;split at hp;(·rename_i c' hc;split at hp;(·rename_i r' Gy;cases hp;obtain⟨y,ys,hy,g1,g2⟩:=hr.of_cons;simp only [cz,att] at hy;obtain⟨rfl,rfl⟩:=hy;(rcases dj.1 aal with rfl|aal);(·unfold evP;rw [hc];exact g1);exact ih _ _ rfl Gy g2 p aal);cases hp);cases hp);(have xt:cJ E (parts.toList.map fun p=>st.eval p.2) (parts.toList.map fun p=>a.eval p.2):=by refine⟨by simp,fun i v x hv hx=>?_⟩;simp only [ae,bH] at hv hx;obtain⟨q,hq,rfl⟩:=hv;obtain⟨q',U5,rfl⟩:=hx;rw [hq] at U5;cases U5;exact hs.eval q.2);have akK:=hpa parts.toList _ _ rfl hvs (Qe _ xt);(have iA:jH ({ st with mem:=eP st.mem (E4 st.eval parts.toList) }:St).mem key:=by unfold jH;dsimp only;rw [qW,uD];(rcases hk with hk|hk);(·rw [hk];exact .inl rfl);exact .inr hk);obtain⟨Z,e,h1,h2,h3,h4⟩:=ER ht (w:=w) akK hl;obtain⟨E',h5,h6,h7⟩:=uP.vK iA (xs:=Z) (rs:=rs) (c:=len) e h2 (by omega) h4;rw [h3] at h7;exact dw lq (jz h1) (hn _ _ ⟨E',_,h5.put dst h7,Vw.trans h6,h⟩));cases hl);exact h.elim
 ·rename_i T p x;split at h;(·rename_i bV hm;obtain⟨w',h1,h2,h3⟩:=vM ht hs (hs.eval _) (hs.eval _) hm;refine oE lq (w':=w') ?_ (hn _ _ ⟨E,_,h2.put dst (.sc _ _),h3,h⟩);simp [execOp,h1]);split at h;(·rename_i bV hm;unfold E5 at hm;split at hm;(·rename_i v' As;obtain⟨E1,uP,Vw,Qe⟩:=hs.freeze (vs:=[st.eval x]) (vs':=[v']) (by simp [fw,As]);simp only [jx,ata,ij] at uP;obtain⟨z,r,hz,h4,-⟩:=(Qe [a.eval x] (.cons (hs.eval x) (.nil _))).of_cons;simp only [att] at hz;obtain⟨rfl,-⟩:=hz;obtain⟨w',h1,h2,h3⟩:=vM ht uP ((hs.eval p).mono Vw.le) h4 hm;refine oE lq (w':=w') ?_ (hn _ _ ⟨E1,_,h2.put dst (.sc _ _),Vw.trans h3,h⟩);simp [execOp,h1]);cases hm);exact h.elim
 ·rename_i xs ts;split at h;(·rename_i s x Vx;split at h;(·rename_i size sr rows ha;have he:=hs.qi xs;rw [Vx] at he;obtain⟨y,r1,hy,EH,he⟩:=he.of_cons;obtain⟨z,r2,hz,EW,he⟩:=he.of_cons;have:=he.of_nil;subst this;subst hz;(have xt:xs.map a.eval = #[y,z]:=by rw [← cX (xs:=xs.map a.eval),hy]);obtain⟨v,w',E',h1,h2,h3,h4⟩:=CU ht hs (ty:=type) hk EH EW ha;refine dw lq (v:=v) (w':=w') ?_ (hn _ _ ⟨E',_,h2.put dst h4,h3,h⟩);simp only [execOp,resolve,Sem.run_bind,Sem.run_pure,Result.andThen_ok,invoke,builtin,xt,h1]);unfold yL at h;split at h;(·rename_i size b v l rs news ha;have he:=hs.qi xs;rw [Vx] at he;obtain⟨y,r1,hy,EH,he⟩:=he.of_cons;obtain⟨z,r2,hz,EW,he⟩:=he.of_cons;have:=he.of_nil;subst this;subst hz;(have xt:xs.map a.eval = #[y,z]:=by rw [← cX (xs:=xs.map a.eval),hy]);obtain⟨u,w',E',o',nC,h1,Vy,PD,h2,h3,h4⟩:=CZ ht hs (ty:=type) EH EW ha;refine dw lq (v:=u) (w':=w') ?_ (hn _ _ ⟨E',_,h2.put dst h4,h3,h o' nC Vy PD⟩);simp only [execOp,resolve,Sem.run_bind,Sem.run_pure,Result.andThen_ok,invoke,builtin,xt,h1]);exact h.elim);exact h.elim
 ·rename_i f xs ts;split at h;(·rename_i k hfv;have hf:=hs.eval f;rw [hfv] at hf;generalize hfx:a.eval f=fx at hf;cases hf with|km _ _ l e c hb =>(rcases h with ⟨b,bV,hy,hQ⟩|⟨R,hy,hQ⟩);rotate_left;(·obtain⟨fn,tmps,assign,body,h1,h2⟩:=hy E w (xs.map a.eval) l e c hs.bare (hs.qi xs) hb;refine yN lq (l:=l) (f:=fn) (tmps:=tmps) (assign:=assign) (body:=body) ?_ h2 fun e w' ⟨E',b,bV,he,hR,iz,qc⟩=>⟨_,he,hn _ _ ⟨E',_,(hs.Hd qc iz.le).put dst (.sc _ _),iz,hQ _ _ hR⟩⟩;rw [← h1];simp [execOp,resolve,hfx,Deferred.ofValue,invoke]);obtain⟨fn,tmps,assign,body,h1,h2⟩:=hy E w (xs.map a.eval) l e c hs.bare (hs.qi xs) hb;refine yN lq (l:=l) (f:=fn) (tmps:=tmps) (assign:=assign) (body:=body) ?_ h2 fun e w' ⟨E',he,iz,qc⟩=>⟨_,he,hn _ _ ⟨E',_,(hs.Hd qc iz.le).put dst (.sc _ _),iz,hQ⟩⟩;rw [← h1];simp [execOp,resolve,hfx,Deferred.ofValue,invoke]);rename_i hfv;split at h;(·rename_i g vs hg;obtain⟨ys,h1,h2⟩:=sB (P:=P) (w:=w) (hs.eval f) (hs.qi xs) hg;(rcases yO hs h h1 with ⟨h3,h4⟩|⟨v,h3,h4⟩);(·refine yM lq (f:=g) (xs:=ys) ?_ h4 fun e w' ⟨v,hv,ha⟩=>⟨v,hv,hn _ _ ha⟩;rw [← h3,← h2];simp only [execOp,resolve]);refine dw lq (v:=v) ?_ (hn _ _ h4);rw [← h3,← h2];simp only [execOp,resolve]);exact h.elim
 ·split at h;(·rename_i size rs cap hm;obtain⟨E',w',h1,h2,h3,h4⟩:=G7 (P:=P) ht hs hk (hs.eval _) (hs.eval _) hm;exact dw lq (jz h1) (hn _ _ ⟨E',_,h2.put dst h4,h3,h⟩));exact h.elim
 ·obtain⟨E',w',h1,h2,h3,h4⟩:=CW (P:=P) hs hk _;exact dw lq (jz h1) (hn _ _ ⟨E',_,h2.put dst h4,h3,h⟩)
 ·split at h;(·rename_i bV hm;obtain⟨w',h1,h2,h3⟩:=uC (P:=P) hs (hs.eval _) (hs.eval _) (hs.eval _) hm;refine oE lq (w':=w') ?_ (hn _ _ ⟨E,_,h2.put dst (.sc _ _),h3,h⟩);simp [execOp,h1]);exact h.elim
 ·split at h;(·rename_i bV hm;obtain⟨w',h1,h2,h3⟩:=uC (P:=P) hs (hs.eval _) (hs.eval _) (hs.eval _) hm;refine oE lq (w':=w') ?_ (hn _ _ ⟨E,_,h2.put dst (.sc _ _),h3,h⟩);simp [execOp,h1]);exact h.elim
 ·split at h;(·rename_i bV v hm;obtain⟨z,w',h1,h2,h3,h4⟩:=EU (P:=P) hs (hs.eval _) (hs.eval _) hm;exact dw lq (jz h1) (hn _ _ ⟨E,_,h2.put dst h4,h3,h⟩));exact h.elim
 ·rename_i T m s x;split at h;(·rename_i bV hm;obtain⟨w',h1,h2,h3⟩:=EV (P:=P) (T:=T) hs (hs.eval _) (hs.eval _) (hs.eval _) hm;refine oE lq (w':=w') ?_ (hn _ _ ⟨E,_,h2.put dst (.sc _ _),h3,h⟩);simp [execOp,h1]);exact h.elim
 ·rename_i xs ts;split at h;(·rename_i bV hm;obtain⟨w',h1,h2,h3⟩:=CV (ty:=type) hs (hs.qi xs) hm;refine dw lq (v:=.tuple #[]) (w':=w') ?_ (hn _ _ ⟨E,_,h2.put dst (.sc _ _),h3,h⟩);simp only [execOp,resolve,Sem.run_bind,Sem.run_pure,Result.andThen_ok,invoke,builtin,h1]);exact h.elim
 ·split at h;(·rename_i B hB;obtain⟨E',w',h1,h2,h3,h4⟩:=AN (P:=P) hs hk (hs.eval _) hB;exact dw lq (jz h1) (hn _ _ ⟨E',_,h2.put dst h4,h3,h⟩));exact h.elim
 ·obtain⟨z,w',st',h1,h2,h3,h4⟩:=G6 (P:=P) (ty:=type) hs (hs.eval _) h;exact dw lq (jz h1) (hn _ _ ⟨E,st',h2,h3,h4⟩)
 ·rename_i op T x y yT;split at h;(·rename_i m hm;obtain⟨b,hb,gS⟩:=EZ (P:=P) (w:=w) ht x y (hs.eval x) (hs.eval y) hm;exact dw lq (du gS) (hn _ _ ⟨E,_,hs.put dst (.sc _ _),il.refl E w,h b hb⟩));split at h;(·rename_i v hv;obtain⟨x,h1,h2⟩:=tF ht hs hv;exact dw lq h1 (hn _ _ ⟨E,_,hs.put dst h2,il.refl E w,h⟩));exact h.elim
 split at h;·rename_i v hv;obtain⟨x,h1,h2⟩:=tF ht hs hv;exact dw lq h1 (hn _ _ ⟨E,_,hs.put dst h2,il.refl E w,h⟩)
 exact h.elim
def gi (all:Array Oper) (fr:List V) (o:Oper):Option Bool :=
 match o.guard with
 | none=>some true
 | some (j,want)=>match (all[j]?).bind (·.dst) with
  | none=>some false
  | some d=>match fr[d]? with
   | some (.sc (.bool b))=>some (b==want)
   | some (.sc _)=>some false
   | some _=>none
   | none=>some false
theorem jZ {E:Env} {w:World} {a:Act} {st:St} (hs:cY E w a st) {all:Array Oper} {o:Oper} {b:Bool} (h:gi all st.fr o=some b):Region.wanted o (yielded all a.tmps)=b:=by
 unfold gi at h;unfold Region.wanted;split at h;·rename_i hg;rw [hg];simpa using h
 rename_i j want hg;rw [hg];dsimp only;unfold yielded;split at h;·rename_i hd;rw [hd];simp at h;subst h;rfl
 rename_i d hd;rw [hd];split at h;·rename_i bb hf;obtain⟨x,hx,hr⟩:=hs.fr.get hf;obtain rfl:=gP hr;simp only [aB] at h;subst h;(have:a.tmps[d]?=some (.bool bb):=by simpa using hx);simp [this]
 ·rename_i v cK hf;obtain⟨x,hx,hr⟩:=hs.fr.get hf;obtain rfl:=gP hr;simp only [aB] at h;subst h;(have:a.tmps[d]?=some x:=by simpa using hx);simp only [l6,this];cases x <;> first|rfl|exact absurd rfl (cK _)
 ·cases h
 rename_i hf;simp only [aB] at h;subst h;have hl:st.fr.length=a.tmps.size:=by have:=hs.fr.1;simpa using this
 have:a.tmps[d]?=none:=by rw [atU] at hf;exact asM (by omega)
 simp [this]
def fe (P:Program) (tt:Table) (all:Array Oper):List Oper→St→(St→Prop)→Prop
 | [],st,Q=>Q st
 | o :: r,st,Q=>match gi all st.fr o with
  | some true=>cR P tt st.mem.length o st fun st'=>fe P tt all r st' Q
  | some false=>fe P tt all r (st.put o.dst (.sc undef)) Q
  | none=>False
@[congr] theorem Ya {P:Program} {f f':FuncId} {vs vs':List V} {st st':St} {dst:Option Tmp} {Q:St→Prop} (hf:f=f') (hv:vs=vs') (h:st=st'):yK P f vs st dst Q=yK P f' vs' st' dst Q:=by rw [hf,hv,h]
theorem put_defers (a:Act) (dst:Option Tmp) (v:Value):(a.put dst v).defers=a.defers:=by cases dst <;> rfl
theorem vV {P:Program} {tt:Table} (ht:TT P tt) {ρ:Option Nat} {n:Nat} {all:Array Oper} {Q:St→Prop} {Q':Exit→Act→World→Prop}:∀ (Vz pre:List Oper),all.toList=pre++Vz →
  ∀ {E:Env} {w:World} {a:Act} {st:St},cY E w a st→fe P tt all Vz st Q→(∀ a' w',a'.defers=a.defers→(∃ E' st',cY E' w' a' st'∧il E w E' w'∧Q st')→Q' .normal a' w')→wpOpsIn (WF ρ) n P all Q' (List.range' pre.length Vz.length) a w:=by intro Vz;induction Vz with|nil=>intro pre _ E w a st hs h hq;exact hq _ _ rfl ⟨E,st,hs,il.refl E w,h⟩|cons o r ih =>intro pre cD E w a st hs h hq;(have jG:all[pre.length]?=some o:=by rw [← eN,cD,a6 (ax _)];simp);(have Qf:all.toList=(pre++[o])++r:=by rw [cD];simp);have ih':=@ih (pre++[o]) Qf;simp only [bc,aj,aA,aZ] at ih';rw [aj,atb,wpOpsIn,jG];dsimp only;simp only [fe] at h;split at h;(·rename_i hw;rw [if_pos (jZ hs hw)];refine gU ht hs (.inr rfl) h ?_;rintro v w' ⟨E',st',h1,h2,h3⟩;exact ih' h1 h3 fun a'' w'' hd ⟨CO,Ke,h4,h5,h6⟩=>hq _ _ (hd.trans (put_defers _ _ _)) ⟨CO,Ke,h4,h2.trans h5,h6⟩);(·rename_i hw;rw [if_neg (by rw [jZ hs hw];simp)];exact⟨fun _ _=>trivial,ih' (hs.put o.dst (.sc _ _)) h fun a'' w'' hd h=>hq _ _ (hd.trans (put_defers _ _ _)) h⟩);exact h.elim
def Marks (E:Env) (w:World) (base:Nat) (ds:List Deferred):Prop :=
 ∃ rs:List Nat,ds=rs.map (fun r => { target:=.collected r,args := #[] })∧rs.Nodup∧∀ r∈rs,base≤r∧w.heap[r]?=some (.deferred (some []))∧∀ k v e c,E.cw k v≠some (r,e,c)
theorem Marks.NP {E E':Env} {w w':World} {base:Nat} {ds:List Deferred} (h:Marks E w base ds) (he:il E w E' w'):Marks E' w' base ds:=by
 obtain⟨rs,h1,h2,h3⟩:=h;refine⟨rs,h1,h2,fun r hr=>?_⟩;obtain⟨h6,h4,h5⟩:=h3 r hr;have bR:r<w.heap.size:=by (rcases br r w.heap.size with h|h);(·exact h);rw [asM h] at h4;cases h4
 refine⟨h6,(he.heap r bR h5).trans h4,fun k v e c hk=>?_⟩;rcases he.cw _ _ _ _ _ hk with ⟨k0,v0,e0,c0,h⟩|h
 ·exact h5 _ _ _ _ h
 omega
theorem Marks.nil (E:Env) (w:World) (base:Nat):Marks E w base []:=⟨[],rfl,.nil,fun r h=>by simp at h⟩
def VB (E0:Env) (w0:World) (Q:Exit→St→Prop):Exit→Act→World→Prop:=fun ex a' w'=>∃ E' st',cY E' w' a' st'∧il E0 w0 E' w'∧Marks E' w' w0.heap.size a'.defers∧Q ex st'
def eg (P:Program) (ρ:Option Nat) (n0:Nat) (c:Code) (st:St) (Q:Exit→St→Prop):Prop :=
 ∀ (E0:Env) (w0:World),(∀ k,n0≤k→∀ v,E0.cw k v=none)→∀ (E:Env) (w:World) (a:Act),il E0 w0 E w→cY E w a st→Marks E w w0.heap.size a.defers→c.wpIn (WF ρ) 0 P (VB E0 w0 Q) a w
def ir (next:St→Prop) (Q:Exit→St→Prop):Exit→St→Prop
 | .normal,st=>next st
 | e,st=>Q e st
def ko (id:Nat) (Q:Exit→St→Prop):Exit→St→Prop
 | .exit j,st=>if j=id then Q .normal st else Q (.exit j) st
 | e,st=>Q e st
section
variable {P:Program} {tt:Table} {ρ:Option Nat} {n0:Nat} {st:St} {Q:Exit→St→Prop}
theorem eg.mono {c:Code} {Q':Exit→St→Prop} (h:eg P ρ n0 c st Q) (hq:∀ e st',Q e st'→Q' e st'):eg P ρ n0 c st Q' :=
 fun E0 w0 h0 E w a he hs hm=>wpIn_mono (h E0 w0 h0 E w a he hs hm) fun _ _ _ ⟨E',st',h1,h2,h4,h3⟩=>⟨E',st',h1,h2,h4,hq _ _ h3⟩
theorem ch (h:Q .normal st):eg P ρ n0 .skip st Q:=fun E0 w0 h0 E w a he hs hm=>wpIn_skip ⟨E,st,hs,he,hm,h⟩
theorem bX (h:Q .ret st):eg P ρ n0 .ret st Q:=fun E0 w0 h0 E w a he hs hm=>wpIn_ret ⟨E,st,hs,he,hm,h⟩
theorem eH {id:Nat} (h:Q (.exit id) st):eg P ρ n0 (.exit id) st Q:=fun E0 w0 h0 E w a he hs hm=>wpIn_exit ⟨E,st,hs,he,hm,h⟩
theorem bz {x y:Code} (h:eg P ρ n0 x st (ir (fun st'=>eg P ρ n0 y st' Q) Q)):eg P ρ n0 (.seq x y) st Q:=fun E0 w0 h0 E w a he hs hm=>by refine wpIn_seq (wpIn_mono (h E0 w0 h0 E w a he hs hm) ?_);rintro e a' w' ⟨E',st',h1,h2,h4,h3⟩;cases e with|normal=>exact h3 E0 w0 h0 E' w' a' h2 h1 h4|_=>exact⟨E',st',h1,h2,h4,h3⟩
theorem ba {c:Operand} {x y:Code} {b:Bool} (hc:st.eval c = .sc (.bool b)) (h:eg P ρ n0 (if b=true then x else y) st Q):eg P ρ n0 (.cond c x y) st Q:=fun E0 w0 h0 E w a he hs hm=>by have:=hs.eval c;rw [hc] at this;exact wpIn_cond (t:=b) (gP this) (h E0 w0 h0 E w a he hs hm)
theorem bY {id:Nat} {c:Code} (h:eg P ρ n0 c st (ko id Q)):eg P ρ n0 (.block id c) st Q:=fun E0 w0 h0 E w a he hs hm=>by refine wpIn_block (wpIn_mono (h E0 w0 h0 E w a he hs hm) ?_);rintro e a' w' ⟨E',st',h1,h2,h4,h3⟩;cases e with|exit j =>simp only [Exit.inBlock,ko] at h3 ⊢;split;(·rename_i hj;rw [if_pos hj] at h3;exact⟨E',st',h1,h2,h4,h3⟩);rename_i hj;rw [if_neg hj] at h3;exact⟨E',st',h1,h2,h4,h3⟩|_=>exact⟨E',st',h1,h2,h4,h3⟩
theorem mT (ht:TT P tt) {id:Nat} {ops:Array Oper} (h:fe P tt ops ops.toList st (Q .normal)):eg P ρ n0 (.region id ops false) st Q:=fun E0 w0 h0 E w a he hs hm=>by refine wpIn_region ?_;have:=vV ht (ρ:=ρ) (n:=0) (Q':=VB E0 w0 Q) ops.toList [] (by simp) hs h (fun a' w' hd ⟨E',st',h1,h2,h3⟩=>⟨E',st',h1,he.trans h2,by rw [hd];exact hm.NP h2,h3⟩);rw [atf];simpa using this
def mg (P:Program) (ρ:Option Nat) (n0:Nat) (c:Code):Nat→St→(Exit→St→Prop)→Prop
 | 0,_,_=>False
 | n+1,st,Q=>eg P ρ n0 c st (ir (fun st'=>mg P ρ n0 c n st' Q) Q)
theorem sC {c:Code} (n:Nat) (h:mg P ρ n0 c n st Q):eg P ρ n0 (.loop c) st Q:=fun E0 w0 h0 E w a he hs hm=>by
 refine wpIn_loop_rounds n ?_;have key:∀ (n:Nat) (E1:Env) (w1:World) (a1:Act) (uh:St),cY E1 w1 a1 uh→il E0 w0 E1 w1→Marks E1 w1 w0.heap.size a1.defers→mg P ρ n0 c n uh Q→Code.roundsIn (WF ρ) 0 P c (VB E0 w0 Q) n a1 w1:=by intro n;induction n with|zero=>intro E1 w1 a1 uh _ _ _ h;exact h.elim|succ n ih =>intro E1 w1 a1 uh h1 h2 h5 h3;refine wpIn_mono (h3 E0 w0 h0 E1 w1 a1 h2 h1 h5) ?_;rintro e a' w' ⟨E',st',h4,h5,h7,h6⟩;cases e with|normal=>exact ih E' w' a' st' h4 h5 h7 h6|_=>exact⟨E',st',h4,h5,h7,h6⟩
 exact key n E w a st hs he hm h
theorem sD {c:Code} {st':St} (hw:∀ E w a,cY E w a st→cY E w a st') (h:eg P ρ n0 c st' Q):eg P ρ n0 c st Q :=
 fun E0 w0 h0 E w a he hs hm=>h E0 w0 h0 E w a he (hw E w a hs) hm
mutual
def aG (n:Nat):V→Bool
 | .ms b _ _ _=>decide (b<n)
 | .ptr b _=>decide (b<n)
 | .km b=>decide (b<n)
 | .mp b=>decide (b<n)
 | .iw b _ _ _=>decide (b<n)
 | .undef=>true
 | .sc _=>true
 | .slice _=>true
 | .eW _=>true
 | .gn=>true
 | .full _=>true
 | .agg cs=>a8 n cs
 | .ec cs=>a8 n cs
 | .dU _ first cap=>a8 n first&&a8 n cap
def a8 (n:Nat):List V→Bool
 | []=>true
 | c :: r=>aG n c&&a8 n r
end
theorem gI (n:Nat) (l:List V):a8 n l=l.all (aG n):=by induction l with|nil=>rfl|cons c r ih=>simp [a8,ih]
def aS (n:Nat):bm→Bool
 | .box cs=>cs.all (aG n)
 | .loop _ _ fr _ _ _=>fr.all (aG n)
 | .map dK _=>dK.all (fun k=>aG n k.2.2)
 | .jR m _ _ _=>decide (m<n)
 | _=>true
def Env.cut (E:Env) (n:Nat):Env := { F:=E.F,cw:=fun k v=>if k<n then E.cw k v else none,gl:=E.gl }
theorem jJ {E:Env} {n:Nat} {v:V} {x:Value} (h:cV E v x) (hb:aG n v=true):cV (E.cut n) v x:=by induction h with|undef=>exact .undef _ _|sc=>exact .sc _ _|slice E rows a cap uO ad xf ha n6 hz hF h1 hR ih=>exact .slice _ _ _ _ uO ad xf ha n6 hz hF h1 hR|ms E b v s l g e c a cap gN hl h0 Dm=>exact .ms _ _ _ _ _ g e c _ _ ((if_pos (by simpa [aG] using hb)).trans gN) hl h0 Dm|jl=>exact .jl _ _ _ _|ptr E b o g e c gN=>exact .ptr _ _ _ g e c ((if_pos (by simpa [aG] using hb)).trans gN)|km E b l e c gN=>exact .km _ _ l e c ((if_pos (by simpa [aG] using hb)).trans gN)|mp E b l e c gN=>exact .mp _ _ l e c ((if_pos (by simpa [aG] using hb)).trans gN)|iw E b v i o g e c gN=>exact .iw _ _ _ _ _ g e c ((if_pos (by simpa [aG] using hb)).trans gN)|eW E cs ad xf hF hR ih=>exact .eW _ _ _ xf hF hR|gn=>exact .gn _|full E rows a h ih=>exact .full _ _ _ (ih rfl)|agg E cs xs hl hh ih =>rw [aG,gI] at hb;exact .agg _ _ _ hl fun i c x hc hx=>ih i c x hc hx (aX.1 hb c (ay hc))|ec E cs xs hl hh ih =>rw [aG,gI] at hb;exact .ec _ _ _ hl fun i c x hc hx=>ih i c x hc hx (aX.1 hb c (ay hc))|dU E f first cap xs ys hx hy h1 h2 ZU ZV =>rw [aG,gI,gI,aD] at hb;exact .dU _ _ _ _ _ _ hx hy (fun i c x hc hx=>ZU i c x hc hx (aX.1 hb.1 c (ay hc))) fun i c x hc hx=>ZV i c x hc hx (aX.1 hb.2 c (ay hc))
theorem cY.cut {E:Env} {w:World} {a:Act} {st:St} (hs:cY E w a st) {n:Nat} (hf:st.fr.all (aG n)=true) (hm:(st.mem.take n).all (aS n)=true):cY (E.cut n) w a { st with mem:=st.mem.take n }:=by
 have iI:∀ k v,k<n→(E.cut n).cw k v=E.cw k v:=fun k v h=>if_pos h;have hZ:∀ k v,n≤k→(E.cut n).cw k v=none:=fun k v h=>if_neg (by omega);have bR:∀ {k v t},(E.cut n).cw k v=some t→k<n∧E.cw k v=some t:=fun {k v t} h=>by by_cases hk:k<n;(·rw [iI k v hk] at h;exact⟨hk,h⟩);rw [hZ k v (by omega)] at h;cases h
 have jG:∀ {k:Nat} {B:bm},(st.mem.take n)[k]?=some B→k<n∧st.mem[k]?=some B:=fun {k B} h=>by rw [jd] at h;split at h;(·exact⟨by assumption,h⟩);cases h
 refine⟨hs.F,fun k v g e c h=>hs.lt _ _ _ _ _ (bR h).2,fun k B hk=>?_,fun k hk v=>?_,fun k B hk v hv=>?_,fun k k' v v' g e1 c1 e2 c2 h5 h6=>hs.apart _ _ _ _ _ _ _ _ _ (bR h5).2 (bR h6).2,⟨hs.fr.1,fun i v x hv hx=>jJ (hs.fr.2 i v x hv hx) (aX.1 hf v (ay hv))⟩⟩;·obtain⟨mh,kX⟩:=jG hk;have cD:=aX.1 hm B (ay hk);have h:=hs.mem k B kX;cases B with|hole=>(exact fun v=>by rw [iI k v mh];exact h v)|dead=>trivial|box cs =>obtain⟨g,T,xs,h1,h2,h3,h4⟩:=h;exact⟨g,T,xs,(iI k 0 mh).trans h1,h2,⟨h3.1,fun i v x hv hx=>jJ (h3.2 i v x hv hx) (aX.1 cD v (ay hv))⟩,h4⟩|loop s n7 fr params assign body =>obtain⟨l,fn,tmps,db,h1,h2,h3,h4⟩:=h;exact⟨l,fn,tmps,db,(iI k 0 mh).trans h1,h2,⟨h3.1,fun i v x hv hx=>jJ (h3.2 i v x hv hx) (aX.1 cD v (ay hv))⟩,h4⟩|map dK clock =>obtain⟨g,es,h1,h2,h3,h4⟩:=h;exact⟨g,es,(iI k 0 mh).trans h1,h2,⟨h3.1,fun i kb e hk he=>let ⟨p1,p2,p3⟩:=h3.2 i kb e hk he;⟨p1,p2,jJ p3 (aX.1 cD kb (ay hk))⟩⟩,h4⟩|jR m since seen last =>obtain⟨g,gm,e,c,h1,h2,h3,h4⟩:=h;(have hmn:m<n:=by simpa [aS] using cD);exact⟨g,gm,e,c,(iI k 0 mh).trans h1,(iI m 0 hmn).trans h2,h3,h4⟩|nY s pos =>obtain⟨g,h1,h2,h3⟩:=h;exact⟨g,(iI k 0 mh).trans h1,h2,h3⟩|oz =>obtain⟨g,h1,h2,h3⟩:=h;exact⟨g,(iI k 0 mh).trans h1,h2,h3⟩|rows v e rs =>((rcases h with ⟨h1,h2⟩|⟨g,T,xs,c,h1,h2⟩);(·exact .inl ⟨h1,(iI k v mh).trans h2⟩);exact .inr ⟨g,T,xs,c,(iI k v mh).trans h1,h2⟩)|vB v e rs =>(rcases h with ⟨h1,h2⟩|⟨g,c,h1,h2⟩);(·exact .inl ⟨h1,(iI k v mh).trans h2⟩);exact .inr ⟨g,c,(iI k v mh).trans h1,h2⟩
 ·by_cases mh:k<n;(·rw [iI k v mh];refine hs.top k ?_ v;dsimp only at hk;rw [cn] at hk;omega);exact hZ k v (by omega)
 obtain⟨mh,kX⟩:=jG hk;rw [iI k v mh];exact hs.dF k B kX v hv
def forget (yP:List Nat) (fr:List V):List V:=yP.foldl (fun fr i=>fr.set i .undef) fr
theorem cY.forget {E:Env} {w:World} {a:Act} (yP:List Nat):∀ {st:St},cY E w a st→cY E w a { st with fr:=Eng.forget yP st.fr }:=by induction yP with|nil=>intro st hs;exact hs|cons i r ih =>intro st hs;(have:cY E w a { st with fr:=st.fr.set i .undef }:=by refine⟨hs.F,hs.lt,hs.mem,hs.top,hs.dF,hs.apart,⟨by simpa using hs.fr.1,fun j v x hv hx=>?_⟩⟩;dsimp only at hv;rw [bK] at hv;split at hv;(·split at hv;(·cases hv;exact .undef _ _);cases hv);exact hs.fr.2 j v x hv hx);exact ih this
theorem AW {c:Code} (n:Nat) (yP:List Nat) (hn:n0≤n) (hf:(forget yP st.fr).all (aG n)=true) (hm:(st.mem.take n).all (aS n)=true)
  (h:eg P ρ n0 c { fr:=forget yP st.fr,mem:=st.mem.take n } Q):eg P ρ n0 c st Q:=fun E0 w0 h0 E w a he hs Gz=>by
 have h1:=(hs.forget yP).cut (n:=n) hf hm
 refine h E0 w0 h0 (E.cut n) w a ⟨⟨he.le.F,fun k v t hk=>?_⟩,fun k v g e c hk=>?_,he.F,he.os,he.tape,he.output,he.size,he.heap⟩ h1 ?_
 rotate_left 2
 ·obtain⟨rs,m1,m2,m3⟩:=Gz
  refine⟨rs,m1,m2,fun r hr=>⟨(m3 r hr).1,(m3 r hr).2.1,fun k v e c hk=>?_⟩⟩
  have:E.cw k v=some (r,e,c):=by
   by_cases mh:k<n
   ·exact ((if_pos mh).symm.trans hk:E.cw k v=_)
   have h2:(E.cut n).cw k v=none:=if_neg mh
   rw [h2] at hk;cases hk
  exact (m3 r hr).2.2 _ _ _ _ this
 ·have:k<n:=by
   rcases br k n with bR|hZ
   ·exact bR
   rw [h0 k (by omega) v] at hk;cases hk
  exact (if_pos this).trans (he.le.cw _ _ _ hk)
 have:E.cw k v=some (g,e,c):=by
  by_cases mh:k<n
  ·exact ((if_pos mh).symm.trans hk:E.cw k v=_)
  have h2:(E.cut n).cw k v=none:=if_neg mh
  rw [h2] at hk;cases hk
 exact he.cw _ _ _ _ _ this
theorem cY.VE {E:Env} {w:World} {a:Act} {st:St} (hs:cY E w a st) {i b v:Nat} (h:st.fr[i]?=some (.sc (.slice none 0 0))):cY E w a { st with fr:=st.fr.set i (.ms b v 0 0) }:=by
 refine⟨hs.F,hs.lt,hs.mem,hs.top,hs.dF,hs.apart,⟨by simpa using hs.fr.1,fun j u x hu hx=>?_⟩⟩;dsimp only at hu;rw [bK] at hu;split at hu;·rename_i JM;subst JM;split at hu;(·cases hu;have:=hs.fr.2 _ _ _ h hx;rw [gP this];exact .jl _ _ _ _);cases hu
 exact hs.fr.2 j u x hu hx
end
def ql (tt:Table) (st:St):ResultVar→Option V
 | .tmp t=>some (st.fr.getD t .undef)
 | .cell a T=>qf tt st.mem T (st.fr.getD a .undef)
def oF (tt:Table) (st:St):List ResultVar→Option (List V)
 | []=>some []
 | r :: rs=>match ql tt st r with
  | some v=>match oF tt st rs with|some l=>some (v :: l)|none=>none
  | none=>none
def rT (tt:Table) (rs:Array ResultVar) (st:St):Option V :=
 match oF tt st rs.toList with
 | some [v]=>G8 st.mem v
 | some vs=>G8 st.mem (.ec vs)
 | none=>none
theorem oG {P:Program} {tt:Table} (ht:TT P tt) {E:Env} {w:World} {a:Act} {st:St} (hs:cY E w a st):∀ (rs:List ResultVar) (vs:List V),oF tt st rs=some vs →
  ∃ xs:List Value,(rs.mapM (fun|.tmp t=>pure (a.tmps.getD t undef)|.cell p t=>do loadVar t (← asAddr (a.tmps.getD p undef))):Sem (List Value)).run P w = .ok xs w∧cJ E vs xs
 | [],vs,h=>by simp [oF] at h;subst h;exact⟨[],rfl,.nil _⟩
 | r :: rs,vs,h=>by
  simp only [oF] at h
  split at h
  ·rename_i v hv
   split at h
   ·rename_i l hl
    simp only [aB] at h;subst h
    obtain⟨xs,h1,h2⟩:=oG ht hs rs l hl
    have hx:∃ x,((match r with|.tmp t=>pure (a.tmps.getD t undef)|.cell p t=>do loadVar t (← asAddr (a.tmps.getD p undef))):Sem Value).run P w = .ok x w∧cV E v x:=by
     cases r with
     | tmp t =>
      simp only [ql,aB] at hv;subst hv
      exact⟨_,rfl,hs.eval (.tmp t)⟩
     | cell p t =>
      simp only [ql] at hv
      have hp:=hs.eval (.tmp p)
      obtain⟨y,h3,h4⟩:=yB ht hs hp hv
      refine⟨y,?_,h4⟩
      have Yb:∃ ad,a.tmps.getD p undef = .pointer (some ad):=by
       have VI:cV E (st.fr.getD p .undef) (a.tmps.getD p undef):=hp
       revert VI hv
       generalize st.fr.getD p .undef=q
       generalize a.tmps.getD p undef=z
       intro hv VI
       cases VI with
       | ptr=>exact⟨_,rfl⟩
       | iw=>exact⟨_,rfl⟩
       | eW=>exact⟨_,rfl⟩
       | _=>simp [qf] at hv
      obtain⟨ad,had⟩:=Yb
      have h3':(Instr.loadAt t (a.tmps.getD p undef)).run P w = .ok y w:=h3
      show ((do loadVar t (← asAddr (a.tmps.getD p undef))):Sem Value).run P w=_
      rw [had] at h3' ⊢
      simpa [Instr.loadAt,Instr.sureAddr,asAddr] using h3'
    obtain⟨x,h3,h4⟩:=hx
    refine⟨x :: xs,?_,.cons h4 h2⟩
    simp only [as7,Sem.run_bind]
    rw [h3]
    simp only [Result.andThen_ok]
    rw [h1]
    rfl
   cases h
  cases h
theorem Kf {P:Program} {tt:Table} (ht:TT P tt) {E:Env} {w:World} {a:Act} {st:St} (hs:cY E w a st) {fn:Func} {r:V} (h:rT tt fn.results st=some r) :
  ∃ keys x,(results fn a.tmps).run P w = .ok x w∧cV (E.qL w keys).pure r x:=by
 unfold rT at h
 have run:∀ xs:List Value,(fn.results.toList.mapM (fun|.tmp t=>pure (a.tmps.getD t undef)|.cell p t=>do loadVar t (← asAddr (a.tmps.getD p undef))):Sem (List Value)).run P w = .ok xs w →
   (results fn a.tmps).run P w = .ok (if h:xs.toArray.size=1 then xs.toArray[0] else .tuple xs.toArray) w:=fun xs hx=>by
  unfold results
  rw [atk]
  simp only [Sem.run_bind,Sem.run_map]
  erw [hx]
  rfl
 split at h;·rename_i v hv;obtain⟨xs,h1,h2⟩:=oG ht hs _ _ hv;obtain⟨x,ys,rfl,h3,h4⟩:=h2.of_cons;have:=h4.of_nil;subst this;exact⟨refs v,x,run _ h1,Dv hs h3 h fun k hk=>hk⟩
 ·rename_i vs cK hv;obtain⟨xs,h1,h2⟩:=oG ht hs _ _ hv;(have hl:xs.toArray.size≠1:=by have:=h2.1;intro he;match vs,xs,this,he with|[v],_,_,_=>exact cK v rfl|[],[],_,he=>simp at he|[],_ :: _,h,_=>simp at h|_ :: _ :: _,[],h,_=>simp at h|_ :: _ :: _,_ :: [],h,_=>simp at h|_ :: _ :: _,_ :: _ :: _,_,he=>simp at he);have h3:=run _ h1;rw [dif_neg hl] at h3;exact⟨refs (.ec vs),_,h3,Dv hs (.ec _ _ _ (by simpa using h2.1) fun i c x hc hx=>h2.2 i c x hc (by simpa using hx)) h fun k hk=>hk⟩
 cases h
def cB (fn:Func) (args:List V) (mem:List bm):St := { fr:=args++List.replicate (fn.ntmps-args.length) (.sc undef),mem:=mem }
theorem yQ {E:Env} (fn:Func) {args:List V} {mem:List bm} {xs:Array Value} (hx:cJ E args xs.toList):cJ E (cB fn args mem).fr (xs++Array.replicate (fn.ntmps-xs.size) undef).toList:=by
 have hl:args.length=xs.size:=by have:=hx.1;simpa using this
 simp only [cB,j7,Array.toList_replicate,hl];refine hx.append ⟨by simp,fun i v x hv hx=>?_⟩;rw [atg] at hv hx;split at hv;·rename_i hi;rw [if_pos hi] at hx;cases hv;cases hx;exact .sc _ _
 cases hv
theorem E7 {P:Program} {w:World} {r:Nat} (h:w.heap[r]?=some (.deferred (some []))):(Instr.takeDeferred r).run P w = .ok [] { w with heap:=w.heap.setIfInBounds r (.deferred none) }:=by simp [Instr.takeDeferred,getObj,setObj,Sem.run,h,bind,Sem.bind,pure]
theorem qZ {P:Program} {fn:Func} {tmps:Array Value} {R:Ending→World→Prop}:∀ (rs:List Nat) (w:World),rs.Nodup→(∀ r∈rs,w.heap[r]?=some (.deferred (some []))) →
  (∀ w',w'.os=w.os→w'.tape=w.tape→w'.output=w.output→w'.heap.size=w.heap.size→(∀ b,b ∉ rs→w'.heap[b]?=w.heap[b]?)→∃ v,(results fn tmps).run P w' = .ok v w'∧R (.returned v) w') →
  LeavesInM (WF none) 0 P fn tmps R (rs.map (fun r => { target:=.collected r,args := #[] })) .returning w
 | [],w,_,_,h=>by
  obtain⟨v,h1,h2⟩:=h w rfl rfl rfl rfl fun _ _=>rfl
  exact⟨v,h1,h2⟩
 | r :: rs,w,hn,hr,h=>by
  refine⟨by simp,.inl ⟨r,_,rfl,E7 (hr r (bZ ..)),?_⟩⟩
  rw [asN] at hn
  have AX:∀ b,b≠r→(w.heap.setIfInBounds r (.deferred none))[b]?=w.heap[b]?:=fun b hb=>Eu (fun e=>hb e.symm)
  refine qZ rs _ hn.2 (fun r' Gy=>?_) fun w' h1 h2 h3 h4 h5=>?_
  ·rw [AX r' (fun e=>hn.1 (e ▸ Gy))];exact hr r' (bE _ Gy)
  exact h w' h1 h2 h3 (by rw [h4];simp) fun b hb=>by
   simp only [dj,not_or] at hb
   rw [h5 b hb.2,AX b hb.1]
theorem cY.Qg {E:Env} {w w':World} {a:Act} {st:St} (hs:cY E w a st) {rs:List Nat} (hr:∀ r∈rs,w.heap[r]?=some (.deferred (some []))∧∀ k v e c,E.cw k v≠some (r,e,c)) (nh:w'.heap.size=w.heap.size)
  (hh:∀ b,b ∉ rs→w'.heap[b]?=w.heap[b]?):cY E w' a st:=by
 refine⟨fun ad x hx=>?_,fun k v g e c h=>by rw [nh];exact hs.lt _ _ _ _ _ h,fun k B hk=>?_,hs.top,hs.dF,hs.apart,hs.fr⟩;·have hc:=hs.F ad x hx;(have:ad.block ∉ rs:=fun o7=>by have:=(hr _ o7).1;simp [World.cell?,this] at hc);rw [← hc];simp [World.cell?,hh _ this]
 exact (hs.mem k B hk).mono E.le_refl (fun _ h=>h) (fun g e c h=>hh g fun o7=>(hr g o7).2 _ _ _ _ h) fun _ _ _ _ _ h=>h
theorem jU {P:Program} {tt:Table} (ht:TT P tt) {f:FuncId} {fn:Func} {body:Code} {args:List V} {r:V} (hf:P.funcs[f]?=some fn) (hb:fn.body=some body)
  (gM:∀ (xs:Array Value) (w:World),(callFunc f xs).run P w = .ok (.enter f xs) w)
  (h:eg P none 0 body (cB fn args []) fun ex st'=>(ex = .ret∨ex = .normal)∧rT tt fn.results st'=some r):cx P f args r:=by
 refine⟨gM,fun F hg w xs hF hx=>Hg (n:=0) (callsIn_of_wp_marks hf hb trivial ?_)⟩;have hs:cY ⟨F,fun _ _=>none,hg⟩ w { tmps:=xs++Array.replicate (fn.ntmps-xs.size) undef,defers:=[] } (cB fn args []):=by refine⟨hF,(fun k v g e c h=>by cases h),(fun k B h=>by simp [cB] at h),(fun k _ v=>rfl),(fun k B h=>by simp [cB] at h),(fun k k' v v' g e c e' c' h=>by cases h),yQ fn hx⟩
 refine wpIn_mono (h _ w (fun k _ v=>rfl) _ w _ (il.refl _ w) hs (.nil _ _ _)) ?_;rintro e a' w' ⟨E',st',h1,h2,⟨rs,hd,lq,PW⟩,he,hr⟩
 have post:LeavesInM (WF none) 0 P fn a'.tmps (fun e w'=>∃ F' x,e = .returned x∧(∀ ad y,F ad=some y→F' ad=some y)∧(∀ ad y,F' ad=some y→w'.cell? ad=some y)∧(∀ ad y,F' ad=some y→F ad=some y∨w.heap.size≤ad.block) ∧
   (∃ Ha,cV ⟨F',fun _ _=>none,Ha⟩ r x)∧Below w.heap.size w w') a'.defers .returning w':=by
  rw [hd]
  refine qZ rs w' lq (fun r hr=>(PW r hr).2.1) fun w2 k1 k2 k3 k4 k5=>?_
  have JZ:=h1.Qg (fun r hr=>(PW r hr).2) k4 k5
  obtain⟨keys,x,h3,h4⟩:=Kf ht JZ hr
  have hold:∀ r∈rs,w.heap.size≤r:=fun r hr=>(PW r hr).1
  refine⟨x,h3,(E'.qL w2 keys).F,x,rfl,fun ad y hy=>(Env.xK E' w2 keys).F _ _ (h2.le.F _ _ hy),fun ad y hy=>Env.Mk JZ.F hy,fun ad y hy=>?_,⟨_,h4⟩,⟨k1.trans h2.os,k2.trans h2.tape,k3.trans h2.output,by rw [k4];exact h2.size,fun b hb=>(k5 b fun o7=>by have:=hold b o7;omega).trans (h2.heap b hb (by simp))⟩⟩
  rcases Env.EY hy with h|⟨k,-,e,c,h⟩
  ·rcases h2.F _ _ h with h|h|⟨k0,v0,e0,c0,h⟩
   ·exact .inl h
   ·exact .inr h
   cases h
  rcases h2.cw _ _ _ _ _ h with ⟨k0,v0,e0,c0,h⟩|h
  ·cases h
  exact .inr h
 rcases he with rfl|rfl <;> exact post
end Go.Eng
end
section
namespace Go.Eng
variable [bk]
def tI:List (Nat×Ti)→Table
 | [],_=>none
 | (k,i) :: r,t=>if t=k then some i else tI r t
def E8:Value→Value→Bool
 | .bool a,.bool b=>a==b
 | .int k n,.int k' n'=>k==k'&&n==n'
 | .string a,.string b=>a.data==b.data
 | .pointer none,.pointer none=>true
 | .slice none a b,.slice none c d=>a==c&&b==d
 | .map none,.map none=>true
 | .nilFunc,.nilFunc=>true
 | .nilIface,.nilIface=>true
 | _,_=>false
def pA:List Value→List Value→Bool
 | [],[]=>true
 | a :: r,b :: s=>E8 a b&&pA r s
 | _,_=>false
theorem Dx {a b:Value} (h:E8 a b=true):a=b:=by
 unfold E8 at h;split at h;·simp at h;rw [h]
 ·simp at h;rw [h.1,h.2]
 ·rename_i a b;(have:a.data=b.data:=by simpa using h);congr 1;cases a;cases b;simp_all
 ·rfl
 ·simp at h;rw [h.1,h.2]
 ·rfl
 ·rfl
 ·rfl
 cases h
theorem ra:∀ {a b:List Value},pA a b=true→a=b
 | [],[],_=>rfl
 | x :: r,y :: s,h=>by
  simp only [pA,aD] at h
  rw [Dx h.1,ra h.2]
 | [],_ :: _,h=>by simp [pA] at h
 | _ :: _,[],h=>by simp [pA] at h
def xM (P:Program):List Field→List (Nat×Nat)→Bool
 | [],[]=>true
 | f :: r,p :: s=>f.offset==p.1&&p.2 != 0&&(match P.info? f.type with|some i=>i.size==p.2|none=>false)&&xM P r s
 | _,_=>false
def VJ (P:Program) (t:TypeId) (i:Ti):Bool :=
 match P.info? t with
 | none=>false
 | some info=>info.size==i.size&&info.bytes==i.bytes&&(match info.zero with|some z=>pA z.cells.toList i.zero|none=>false) &&
  match P.underlying t with
  | none=>false
  | some d=>(i.agg==(match d with|.struct _=>true|.array _ _=>true|_=>false)) &&
   (match i.elem with|none=>true|some e=>(match d with|.slice e'=>e'==e|_=>false)) &&
   (match i.bp with|[]=>true|fl=>(match d with|.struct fs=>xM P fs.toList fl|_=>false))
def Mm (P:Program):List (Nat×Ti)→Bool
 | []=>true
 | (t,i) :: r=>VJ P t i&&Mm P r
theorem AY {P:Program}:∀ {fs:List Field} {fl:List (Nat×Nat)},xM P fs fl=true→fs.length=fl.length∧∀ (k off sz:Nat),fl[k]?=some (off,sz)→∃ f inf,fs[k]?=some f∧f.offset=off∧P.info? f.type=some inf∧inf.size=sz∧sz≠0
 | [],[],_=>⟨rfl,fun k off sz h=>by simp at h⟩
 | f :: r,p :: s,h=>by
  simp only [xM,aD,beq_iff_eq,bne_iff_ne] at h
  obtain⟨⟨⟨h1,h2⟩,h3⟩,h4⟩:=h
  obtain⟨h5,h6⟩:=AY h4
  refine⟨by simp [h5],fun k off sz hk=>?_⟩
  cases k with
  | zero =>
   simp only [ee,aB] at hk;subst hk
   split at h3
   ·rename_i inf hi
    exact⟨f,inf,rfl,h1,hi,by simpa using h3,h2⟩
   cases h3
  | succ k=>exact h6 k off sz (by simpa using hk)
 | [],_ :: _,h=>by simp [xM] at h
 | _ :: _,[],h=>by simp [xM] at h
theorem Mn {P:Program} {t:TypeId} {i:Ti} (h:VJ P t i=true) :
  (∃ info,P.info? t=some info∧info.size=i.size∧info.bytes=i.bytes∧∃ z,info.zero=some z∧z.cells.toList=i.zero) ∧
  (∃ d,P.underlying t=some d∧(i.agg=true↔((∃ fs,d = .struct fs)∨∃ n e,d = .array n e))∧(∀ e,i.elem=some e→d = .slice e) ∧
   (∀ (f off sz:Nat),i.bp[f]?=some (off,sz)→∃ fs fd inf,d = .struct fs∧fs.size=i.bp.length∧fs[f]?=some fd∧fd.offset=off∧P.info? fd.type=some inf∧inf.size=sz∧sz≠0)):=by
 unfold VJ at h;split at h;·cases h
 rename_i info aev;simp only [aD,beq_iff_eq] at h;obtain⟨⟨⟨h1,h2⟩,h3⟩,h4⟩:=h;split at h3;·rename_i z hz;refine⟨⟨info,aev,h1,h2,z,hz,ra h3⟩,?_⟩;split at h4;(·cases h4);rename_i d hd;simp only [aD,beq_iff_eq] at h4;obtain⟨⟨h5,h6⟩,h7⟩:=h4;refine⟨d,hd,?_,?_,?_⟩;(·rw [h5];cases d <;> simp);(·intro e he;rw [he] at h6;dsimp only at h6;split at h6;(·simp at h6;rw [h6]);cases h6);intro f off sz hf;split at h7;(·rename_i E6;rw [E6] at hf;simp at hf);split at h7;(·rename_i fs;obtain⟨h8,h9⟩:=AY h7;obtain⟨fd,inf,NQ,Kg⟩:=h9 f off sz hf;exact⟨fs,fd,inf,rfl,by simpa using h8,by simpa using NQ,Kg⟩);cases h7
 cases h3
theorem xN {P:Program}:∀ {l:List (Nat×Ti)},Mm P l=true→∀ t i,tI l t=some i→VJ P t i=true
 | [],_,t,i,h=>by simp [tI] at h
 | (k,j) :: r,h,t,i,ht=>by
  simp only [Mm,aD] at h
  simp only [tI] at ht
  split at ht
  ·rename_i hk;subst hk;cases ht;exact h.1
  exact xN h.2 t i ht
theorem tt_of {P:Program} {l:List (Nat×Ti)} (h:Mm P l=true):TT P (tI l) :=
 ⟨fun t i ht=>(Mn (xN h t i ht)).1,fun t i ht=>(Mn (xN h t i ht)).2⟩
end Go.Eng
end
section
namespace Go.Eng
variable [bk]
section
variable {P:Program} {tt:Table} {ρ:Option Nat} {n0:Nat} {st:St} {Q:Exit→St→Prop}
theorem ag (ht:TT P tt) {id:Nat} {ops:Array Oper} {y:Code} (h:∀ K:St→Prop,(∀ st',eg P ρ n0 y st' Q→K st')→fe P tt ops ops.toList st K):eg P ρ n0 (.seq (.region id ops false) y) st Q :=
 bz (mT ht (h (fun st'=>eg P ρ n0 y st' Q) fun _ h=>h))
theorem bd (ht:TT P tt) {id:Nat} {ops:Array Oper} (h:∀ K:St→Prop,(∀ st',Q .normal st'→K st')→fe P tt ops ops.toList st K):eg P ρ n0 (.region id ops false) st Q :=
 mT ht (h (Q .normal) fun _ h=>h)
def bG:List Bool→List V→List V
 | _,[]=>[]
 | [],_ :: r=>.undef :: bG [] r
 | b :: m,v :: r=>(if b=true then v else .undef) :: bG m r
theorem uV {E:Env}:∀ (m:List Bool) {vs:List V} {xs:List Value},cJ E vs xs→cJ E (bG m vs) xs
 | m,[],xs,h=>by rw [h.of_nil];cases m <;> exact .nil _
 | [],v :: r,xs,h=>by
  obtain⟨x,ys,rfl,h1,h2⟩:=h.of_cons
  exact .cons (.undef _ _) (uV [] h2)
 | b :: m,v :: r,xs,h=>by
  obtain⟨x,ys,rfl,h1,h2⟩:=h.of_cons
  refine .cons ?_ (uV m h2)
  cases b
  ·exact .undef _ _
  exact h1
theorem cY.mask {E:Env} {w:World} {a:Act} {st:St} (hs:cY E w a st) (m:List Bool):cY E w a { st with fr:=bG m st.fr } :=
 ⟨hs.F,hs.lt,hs.mem,hs.top,hs.dF,hs.apart,uV m hs.fr⟩
theorem qm {c:Code} (n:Nat) (m:List Bool) (hn:n0≤n) (hf:(bG m st.fr).all (aG n)=true) (hm:(st.mem.take n).all (aS n)=true)
  (h:eg P ρ n0 c { fr:=bG m st.fr,mem:=st.mem.take n } Q):eg P ρ n0 c st Q :=
 sD (st' := { st with fr:=bG m st.fr }) (fun E w a hs=>hs.mask m) (AW n [] hn hf hm h)
def Hh (n0:Nat) (st:St) (I:St→Prop):Prop :=
 ∃ (n:Nat) (m:List Bool),n0≤n∧(bG m st.fr).all (aG n)=true∧(st.mem.take n).all (aS n)=true∧I { fr:=bG m st.fr,mem:=st.mem.take n }
theorem uW {c:Code}:∀ {n n':Nat} {st:St},n≤n'→mg P ρ n0 c n st Q→mg P ρ n0 c n' st Q
 | 0,_,_,_,h=>h.elim
 | n+1,0,_,hn,_=>by omega
 | n+1,n'+1,st,hn,h=>eg.mono h fun e st' hq=>by
  cases e with
  | normal=>exact uW (by omega) hq
  | _=>exact hq
theorem dd {c:Code} (I:Nat→St→Prop) (N:Nat) (h0:Hh n0 st (I N))
  (step:∀ n st,I n st→eg P ρ n0 c st (ir (fun st'=>∃ k,k<n∧Hh n0 st' (I k)) Q)):eg P ρ n0 (.loop c) st Q:=by
 have key:∀ (n:Nat) (st:St),I n st→mg P ρ n0 c (n+1) st Q:=by intro n;induction n using Nat.strongRecOn with|_ n ih =>intro st hi;refine eg.mono (step n st hi) fun e st' hq=>?_;cases e with|normal =>(obtain⟨k,hk,n1,m,h1,h2,h3,h4⟩:=hq;have:=ih k hk _ h4;have:mg P ρ n0 c n { fr:=bG m st'.fr,mem:=st'.mem.take n1 } Q:=uW (by omega) this;cases n with|zero=>omega|succ n=>exact qm n1 m h1 h2 h3 this)|_=>exact hq
 obtain⟨n1,m,h1,h2,h3,h4⟩:=h0;exact qm n1 m h1 h2 h3 (sC (N+1) (key N _ h4))
theorem Hi {c:Code} (h:∃ n,mg P ρ n0 c n st Q):eg P ρ n0 (.loop c) st Q:=let ⟨n,hn⟩:=h;sC n hn
end
theorem fJ {α β:Type} (P:Program) (s:Sem α) (f:α→Sem β):dc P (s >>= f)=(dc P s).bind fun a=>dc P (f a):=by show dc P (s.bind f)=_;induction s with|pure a=>rfl|program k ih=>exact ih P|mark m k ih=>exact ih|_=>rfl
theorem mi {P:Program} {T:TypeId} {d:TypeDesc} (h:P.underlying T=some d):dc P (underlying T)=some d:=by simp [underlying,fJ,program,dc,h,pure]
theorem yR {P:Program} {T:TypeId} (hT:P.underlying T=some .bool) (p q:Bool):dc P (Op.equal T (.bool p) (.bool q))=some (p==q):=by show dc P (Op.equalIn (9999+1) T (.bool p) (.bool q))=_;rw [Op.equalIn,fJ,mi hT];rfl
section ints
variable (P:Program) (T:TypeId) (x y:Operand) (k:IntKind) (a b:Int)
theorem aao:eO P (r7 .add T x y) (.sc (.int k a)) (.sc (.int k b))=some (.sc (.int k (k.wrap (a+b)))):=by simp [eO,fI,r7,binOp,Op.intArith,eqGuard,dc,lj,bind,pure,Sem.bind]
theorem aap:eO P (r7 .sub T x y) (.sc (.int k a)) (.sc (.int k b))=some (.sc (.int k (k.wrap (a-b)))):=by simp [eO,fI,r7,binOp,Op.intArith,eqGuard,dc,lj,bind,pure,Sem.bind]
theorem aaq:eO P (r7 .mul T x y) (.sc (.int k a)) (.sc (.int k b))=some (.sc (.int k (k.wrap (a*b)))):=by simp [eO,fI,r7,binOp,Op.intArith,eqGuard,dc,lj,bind,pure,Sem.bind]
theorem aar:eO P (r7 .lss T x y) (.sc (.int k a)) (.sc (.int k b))=some (.sc (.bool (decide (a<b)))):=by simp [eO,fI,r7,binOp,Op.intCmp,eqGuard,dc,lj,bind,pure,Sem.bind]
theorem aas:eO P (r7 .leq T x y) (.sc (.int k a)) (.sc (.int k b))=some (.sc (.bool (decide (a≤b)))):=by simp [eO,fI,r7,binOp,Op.intCmp,eqGuard,dc,lj,bind,pure,Sem.bind]
theorem aat:eO P (r7 .gtr T x y) (.sc (.int k a)) (.sc (.int k b))=some (.sc (.bool (decide (b<a)))):=by simp [eO,fI,r7,binOp,Op.intCmp,eqGuard,dc,lj,bind,pure,Sem.bind]
theorem aau:eO P (r7 .geq T x y) (.sc (.int k a)) (.sc (.int k b))=some (.sc (.bool (decide (b≤a)))):=by simp [eO,fI,r7,binOp,Op.intCmp,eqGuard,dc,lj,bind,pure,Sem.bind]
theorem aav:eO P (r7 .eql T x y) (.sc (.int k a)) (.sc (.int k b))=some (.sc (.bool (decide (a=b)))):=by simp [eO,fI,r7,binOp,Op.intCmp,eqGuard,dc,lj,bind,pure,Sem.bind];rfl
theorem aaw:eO P (r7 .neq T x y) (.sc (.int k a)) (.sc (.int k b))=some (.sc (.bool (!decide (a=b)))):=by simp [eO,fI,r7,binOp,Op.intCmp,eqGuard,dc,lj,bind,pure,Sem.bind];rfl
theorem aax (ts:Array TypeId) (ty:TypeId):iH P (Builtin.max_ ts ty) [.sc (.int k a),.sc (.int k b)]=some (.sc (.int k (if a<b then b else a))):=by simp [iH,pP,fI,Builtin.max_,Builtin.max2,dc,lj,bind,pure,Sem.bind]
theorem aay (t:Bool):uy P (Op.unary .not) (.sc (.bool t))=some (.sc (.bool (!t))):=by simp [uy,fI,Op.unary,dc,lj,pure]
end ints
section strings
variable (P:Program) (T:TypeId) (x y:Operand) (a b:ByteArray)
theorem VK:eO P (r7 .eql T x y) (.sc (.string a)) (.sc (.string b))=some (.sc (.bool (a.toList==b.toList))):=by simp [eO,fI,r7,binOp,Op.stringOp,eqGuard,dc,lj,bind,pure,Sem.bind]
theorem VL:eO P (r7 .neq T x y) (.sc (.string a)) (.sc (.string b))=some (.sc (.bool (!(a.toList==b.toList)))):=by simp [eO,fI,r7,binOp,Op.stringOp,eqGuard,dc,lj,bind,pure,Sem.bind]
theorem E9 (h:((a.size+b.size:Nat):Int)≤IntKind.i64.max):eO P (r7 .add T x y) (.sc (.string a)) (.sc (.string b))=some (.sc (.string (a++b))):=by
 have h':¬ ((a.size+b.size:Nat):Int)>IntKind.i64.max:=by omega
 simp only [eO,fI,r7,binOp,Op.stringOp,if_neg h'];simp [eqGuard,dc,lj,bind,pure,Sem.bind]
theorem fA {P:Program} {T:TypeId} (hT:P.underlying T=some .string) (k:IntKind) (n:Int) (h0:0≤n) {c:UInt8} (hc:a[n.toNat]?=some c):eO P (Instr.index T) (.sc (.string a)) (.sc (.int k n))=some (.sc (.int .u8 c.toNat)):=by simp [eO,fI,Instr.index,asIntOf,underlying,hT,h0,hc,dc,lj,bind,pure,Sem.bind,program]
theorem gF {P:Program} {tt:Table} {T:TypeId} (hT:P.underlying T=some .string) (ty:TypeId):ED P tt #[T] ty [.sc (.string a)]=some (.sc (.int .i64 a.size)):=by simp [ED,iH,pP,fI,Builtin.len_,underlying,hT,dc,lj,bind,pure,Sem.bind,program,goInt]
theorem Kh {P:Program} {tt:Table} {mem:List bm} {T:TypeId} (hT:P.underlying T=some .string) (k:IntKind) (n:Int) (h0:0≤n) (hn:n≤a.size) :
  EB P tt mem T (.sc (.string a)) (some (.sc (.int k n))) none=some (.sc (.string (a.extract n.toNat a.size))):=by simp [EB,eO,fI,Instr.sliceAt,Instr.slice,Instr.sliceBounds,Instr.sliceBound,asIntOf,underlying,hT,h0,hn,dc,lj,bind,pure,Sem.bind,program]
theorem VM {P:Program} {T:TypeId} (hT:P.underlying T=some .bool) (p q:Bool):eO P (r7 .eql T x y) (.sc (.bool p)) (.sc (.bool q))=some (.sc (.bool (p==q))):=by
 have:dc P (do eqGuard .eql T x y (.bool p) (.bool q);binOp .eql T (.bool p) (.bool q))=some (.bool (p==q)):=by show dc P ((Op.equal T (.bool p) (.bool q)) >>= fun r=>Pure.pure (Value.bool r))=_;rw [fJ,yR hT];rfl
 simp only [eO,fI,r7,this];rfl
theorem Fa {P:Program} {T:TypeId} (hT:P.underlying T=some .bool) (p q:Bool):eO P (r7 .neq T x y) (.sc (.bool p)) (.sc (.bool q))=some (.sc (.bool (!(p==q)))):=by
 have:dc P (do eqGuard .neq T x y (.bool p) (.bool q);binOp .neq T (.bool p) (.bool q))=some (.bool (!(p==q))):=by show dc P ((Op.equal T (.bool p) (.bool q)) >>= fun r=>Pure.pure (Value.bool !r))=_;rw [fJ,yR hT];rfl
 simp only [eO,fI,r7,this];rfl
theorem Mo {P:Program} {src dst:TypeId} {d:TypeDesc} {k':IntKind} (hs:P.underlying src=some d) (hd:P.underlying dst=some (.int k')) (k:IntKind) (n:Int):uy P (convert src dst) (.sc (.int k n))=some (.sc (.int k' (k'.wrap n))):=by simp [uy,fI,convert,underlying,hs,hd,Conv.intToInt,dc,lj,bind,pure,Sem.bind,program]
end strings
end Go.Eng
end
section
namespace Go.Eng
variable [bk]
open Go.RowKit (Below)
theorem il.cut {E E':Env} {w w':World} (h:il E w E' w') {n:Nat} (hn:∀ k,n≤k→∀ v,E.cw k v=none):il E w (E'.cut n) w':=by
 refine⟨⟨h.le.F,fun k v t hk=>?_⟩,fun k v g e c hk=>?_,h.F,h.os,h.tape,h.output,h.size,h.heap⟩;·(have:k<n:=by (rcases br k n with bR|hZ);(·exact bR);rw [hn k hZ v] at hk;cases hk);exact (if_pos this).trans (h.le.cw _ _ _ hk)
 have:E'.cw k v=some (g,e,c):=by by_cases mh:k<n;(·exact ((if_pos mh).symm.trans hk:E'.cw k v=_));have h2:(E'.cut n).cw k v=none:=if_neg mh;rw [h2] at hk;cases hk
 exact h.cw _ _ _ _ _ this
def lI (tt:Table) (rs:Array ResultVar) (st:St):Option V :=
 match oF tt st rs.toList with
 | some [v]=>some v
 | some vs=>some (.ec vs)
 | none=>none
theorem Fb {P:Program} {tt:Table} (ht:TT P tt) {E:Env} {w:World} {a:Act} {st:St} (hs:cY E w a st) {fn:Func} {r:V} (h:lI tt fn.results st=some r):∃ x,(results fn a.tmps).run P w = .ok x w∧cV E r x:=by
 unfold lI at h
 have run:∀ xs:List Value,(fn.results.toList.mapM (fun|.tmp t=>pure (a.tmps.getD t undef)|.cell p t=>do loadVar t (← asAddr (a.tmps.getD p undef))):Sem (List Value)).run P w = .ok xs w →
   (results fn a.tmps).run P w = .ok (if h:xs.toArray.size=1 then xs.toArray[0] else .tuple xs.toArray) w:=fun xs hx=>by
  unfold results
  rw [atk]
  simp only [Sem.run_bind,Sem.run_map]
  erw [hx]
  rfl
 split at h;·rename_i v hv;simp only [aB] at h;subst h;obtain⟨xs,h1,h2⟩:=oG ht hs _ _ hv;obtain⟨x,ys,rfl,h3,h4⟩:=h2.of_cons;have:=h4.of_nil;subst this;exact⟨x,run _ h1,h3⟩
 ·rename_i vs cK hv;simp only [aB] at h;subst h;obtain⟨xs,h1,h2⟩:=oG ht hs _ _ hv;(have hl:xs.toArray.size≠1:=by have:=h2.1;intro he;match vs,xs,this,he with|[v],_,_,_=>exact cK v rfl|[],[],_,he=>simp at he|[],_ :: _,h,_=>simp at h|_ :: _ :: _,[],h,_=>simp at h|_ :: _ :: _,_ :: [],h,_=>simp at h|_ :: _ :: _,_ :: _ :: _,_,he=>simp at he);have h3:=run _ h1;rw [dif_neg hl] at h3;exact⟨_,h3,.ec _ _ _ (by simpa using h2.1) fun i c x hc hx=>h2.2 i c x hc (by simpa using hx)⟩
 cases h
theorem Qh {P:Program} {tt:Table} (ht:TT P tt) {f:FuncId} {fn:Func} {body:Code} {args:List V} {mem:List bm} {R:V→List bm→Prop} (hf:P.funcs[f]?=some fn) (hb:fn.body=some body)
  (gM:∀ (xs:Array Value) (w:World),(callFunc f xs).run P w = .ok (.enter f xs) w)
  (h:eg P none mem.length body (cB fn args mem) fun ex st'=>(ex = .ret∨ex = .normal)∧∃ r n,mem.length≤n∧lI tt fn.results st'=some r∧aG n r=true∧(st'.mem.take n).all (aS n)=true∧R r (st'.mem.take n)):eo P f args mem R:=by
 refine⟨gM,fun E w xs PE hx=>Hg (n:=0) (callsIn_of_wp_marks hf hb trivial ?_)⟩;have hs:cY E w { tmps:=xs++Array.replicate (fn.ntmps-xs.size) undef,defers:=[] } (cB fn args mem):=⟨PE.F,PE.lt,PE.mem,PE.top,PE.dF,PE.apart,yQ fn hx⟩;refine wpIn_mono (h E w PE.top E w _ (il.refl _ w) hs (.nil _ _ _)) ?_;rintro e a' w' ⟨E',st',h1,h2,⟨rs,hd,lq,PW⟩,he,r,n,hn,hr,hbr,UZ,hR⟩;have post:LeavesInM (WF none) 0 P fn a'.tmps (fun e w'=>∃ E' x r bV,e = .returned x∧R r bV∧il E w E' w'∧cY E' w' { tmps := #[],defers:=[] } { fr:=[],mem:=bV }∧cV E' r x) a'.defers .returning w':=by rw [hd];refine qZ rs w' lq (fun r hr=>(PW r hr).2.1) fun w2 k1 k2 k3 k4 k5=>?_;have JZ:=h1.Qg (fun r hr=>(PW r hr).2) k4 k5;obtain⟨x,h3,h4⟩:=Fb ht JZ hr;have iz:il E w E' w2:=⟨h2.le,h2.cw,h2.F,k1.trans h2.os,k2.trans h2.tape,k3.trans h2.output,by rw [k4];exact h2.size,fun b hb cK=>(k5 b fun o7=>by have:=(PW b o7).1;omega).trans (h2.heap b hb cK)⟩;exact⟨x,h3,E'.cut n,x,r,_,rfl,hR,iz.cut fun k hk v=>PE.top k (by dsimp only;omega) v,JZ.bare.cut (by rfl) UZ,jJ h4 hbr⟩
 rcases he with rfl|rfl <;> exact post
theorem kY {P:Program} {tt:Table} (ht:TT P tt) {f:FuncId} {fn:Func} {body:Code} {args:List V} {mem:List bm} {r:V} {bV:List bm} (n:Nat) (hn:mem.length≤n) (hf:P.funcs[f]?=some fn) (hb:fn.body=some body)
  (gM:∀ (xs:Array Value) (w:World),(callFunc f xs).run P w = .ok (.enter f xs) w)
  (h:eg P none mem.length body (cB fn args mem) fun ex st'=>(ex = .ret∨ex = .normal)∧lI tt fn.results st'=some r∧aG n r=true∧(st'.mem.take n).all (aS n)=true∧bV=st'.mem.take n):bw P f args mem r bV :=
 (Qh ht hf hb gM (R:=fun r' m'=>r'=r∧m'=bV) (h.mono fun ex st' ⟨h1,h2,h3,h4,h5⟩=>⟨h1,r,n,hn,h2,h3,h4,rfl,h5.symm⟩)).det
def pB:List Tmp→List V→List V→List V
 | t :: ts,v :: vs,fr=>pB ts vs (fr.set t v)
 | _,_,fr=>fr
theorem Dy {E:Env}:∀ (ts:List Tmp) {vs:List V} {xs:List Value} {fr:List V} {tmps:Array Value},cJ E vs xs→cJ E fr tmps.toList→cJ E (pB ts vs fr) ((ts.zip xs).foldl (fun (tmps:Array Value) (p:Tmp×Value)=>tmps.setIfInBounds p.1 p.2) tmps).toList
 | [],vs,xs,fr,tmps,_,h=>by cases vs <;> exact h
 | t :: ts,[],xs,fr,tmps,hv,h=>by rw [hv.of_nil];exact h
 | t :: ts,v :: vs,xs,fr,tmps,hv,h=>by
  obtain⟨x,ys,rfl,h1,h2⟩:=hv.of_cons
  simp only [pB,List.zip_cons_cons,fq]
  exact Dy ts h2 (by simpa using h.set t h1)
def sE:Exit→Option (Option Code)
 | .normal=>some none
 | .ret=>some (some .ret)
 | .exit id=>some (some (.exit id))
 | .goto l=>some (some (.goto l))
 | _=>none
theorem vW {P:Program} {k:Nat} {fr vs:List V} {params:Array Tmp} {assign body:Code} {mem:List bm} {R:Bool→List bm→Prop} (hk:mem[k]?=some (.loop .ready none fr params assign body)) (hlen:vs.length=params.size)
  (h:∀ l,eg P (some l) mem.length assign { fr:=pB params.toList vs fr,mem:=mem } fun ex uh=>ex = .normal∧∃ Yc p1 VN VO,uh.mem[k]?=some (.loop .ready none Yc p1 VN VO) ∧
   eg P (some l) mem.length body { uh with mem:=uh.mem.set k (.loop .busy none Yc p1 VN VO) } fun ex z7=>∃ n jump s2 pe2 VQ p2 Qi Qj,mem.length≤n∧sE ex=some jump∧z7.mem[k]?=some (.loop s2 pe2 VQ p2 Qi Qj) ∧
    ((z7.mem.set k (.loop (if jump.isNone then .ready else .done) jump VQ p2 Qi Qj)).take n).all (aS n)=true ∧
    R jump.isNone ((z7.mem.set k (.loop (if jump.isNone then .ready else .done) jump VQ p2 Qi Qj)).take n)) :
  NO P k vs mem R:=by
 intro E w xs l e c hs hx hb;obtain⟨l',fn,tmps,db,kV,hh,hr,hf⟩:=hs.mem k _ hk;rw [hb] at kV;cases kV;have jG:∀ {W:World} {R:Loop},W.heap[l]?=some (.loop R)→(Instr.getLoop l).run P W = .ok R W:=fun {W R} hW=>by simp [Instr.getLoop,getObj,Sem.run,hW,bind,Sem.bind,pure]
 have AX:∀ {W:World} {R:Loop} {o:Obj},W.heap[l]?=some (.loop R)→(setObj l o).run P W = .ok () { W with heap:=W.heap.setIfInBounds l o }:=fun {W R o} hW=>by simp [setObj,Sem.run,hW]
 have G4:xs.size=params.size:=by have:=hx.1;simp at this;omega
 refine⟨fn,(params.zip xs).foldl (fun tmps (p:Tmp×Value)=>tmps.setIfInBounds p.1 p.2) tmps,assign,body,?_,?_⟩;·simp only [Instr.yield,Sem.run_bind,jG hh,Result.andThen_ok,G4,ne_eq,not_true_eq_false,if_false];rfl
 refine roundIn_of_wpIn trivial ?_;have uP:cY E w { tmps:=(params.zip xs).foldl (fun tmps (p:Tmp×Value)=>tmps.setIfInBounds p.1 p.2) tmps,defers:=[] } { fr:=pB params.toList vs fr,mem:=mem }:=by refine⟨hs.F,hs.lt,hs.mem,hs.top,hs.dF,hs.apart,?_⟩;have:=Dy (E:=E) params.toList hx hr;rw [← atd,Array.toList_zip];exact this
 refine wpIn_mono (h l E w hs.top E w _ (il.refl E w) uP (.nil _ _ _)) ?_;rintro ex a1 w1 ⟨E1,uh,h1,h2,hm1,rfl,Yc,p1,VN,VO,iA,h3⟩;obtain⟨l1,fn1,Yd,db1,nn,hh1,EH,hf1⟩:=h1.mem k _ iA;have hbl:E1.cw k 0=some (l,0,0):=h2.le.cw _ _ _ hb;rw [hbl] at nn;cases nn;have only:∀ (W:World) (o:Obj),vL W { W with heap:=W.heap.setIfInBounds l o } l:=fun W o=>⟨rfl,rfl,rfl,by simp,fun b hb=>Eu (fun e=>hb e.symm)⟩;have bR:∀ {W:World} {o:Obj},W.heap[l]?=some o→l<W.heap.size:=fun {W o} hW=>(dH.1 hW).1;have t1:=h1.GZ iA rfl (B':=.loop .busy none Yc p1 VN VO) rfl hbl hf1 (only w1 (.loop { state:=.busy,pending:=none,fn:=fn1,tmps:=Yd,params:=p1,assign:=VN,body:=VO,defers:=db1 })) ⟨l,fn1,Yd,db1,hbl,by simp [bR hh1],EH,hf1⟩;refine⟨_,by simp [Instr.beginRound,jG hh1,AX hh1];rfl,?_⟩;refine wpIn_mono (h3 E w hs.top E1 _ a1 (h2.trans t1.2) t1.1 ?_) ?_;·exact hm1.NP t1.2
 rintro ex a2 w2 ⟨E2,z7,h4,h5,-,n,jump,s2,pe2,VQ,p2,Qi,Qj,hmn,hj,lr,UZ,hR⟩;obtain⟨l2,fn2,Qk,db2,CY,X6,EW,hf2⟩:=h4.mem k _ lr;have aaz:E2.cw k 0=some (l,0,0):=h5.le.cw _ _ _ hb;rw [aaz] at CY;cases CY;have t2:=h4.GZ lr rfl (B':=.loop (if jump.isNone then .ready else .done) jump VQ p2 Qi Qj) rfl aaz hf2 (only w2 (.loop { state:=if jump.isNone then .ready else .done,pending:=jump,fn:=fn2,tmps:=Qk,params:=p2,assign:=Qi,body:=Qj,defers:=db2 })) ⟨l,fn2,Qk,db2,aaz,by simp [bR X6],EW,hf2⟩;have run:(Instr.endRound l jump).run P w2 = .ok (.bool jump.isNone) { w2 with heap:=w2.heap.setIfInBounds l (.loop { state:=if jump.isNone then .ready else .done,pending:=jump,fn:=fn2,tmps:=Qk,params:=p2,assign:=Qi,body:=Qj,defers:=db2 }) }:=by simp [Instr.endRound,jG X6,AX X6]
 have fin:∃ v w',(Instr.endRound l jump).run P w2 = .ok v w'∧∃ E' b bV,Ending.returned v = .returned (.bool b)∧R b bV∧il E w E' w'∧cY E' w' { tmps := #[],defers:=[] } { fr:=[],mem:=bV } := ⟨_,_,run,E2.cut n,_,_,rfl,hR,(h5.trans t2.2).cut (fun k hk v=>hs.top k (Di hmn hk) v),t2.1.bare.cut (by rfl) UZ⟩;cases ex <;> simp only [sE,aB,reduceCtorEq] at hj <;> subst hj <;> exact fin
theorem sF {P:Program} {k:Nat} {fr vs:List V} {params:Array Tmp} {assign body:Code} {mem bV:List bm} {b:Bool} (hk:mem[k]?=some (.loop .ready none fr params assign body)) (hlen:vs.length=params.size)
  (h:∀ l,eg P (some l) mem.length assign { fr:=pB params.toList vs fr,mem:=mem } fun ex uh=>ex = .normal∧uh.mem[k]?=some (.loop .ready none fr params assign body) ∧
   eg P (some l) mem.length body { uh with mem:=uh.mem.set k (.loop .busy none fr params assign body) } fun ex z7=>∃ jump,sE ex=some jump∧b=jump.isNone∧z7.mem[k]?=some (.loop .busy none fr params assign body) ∧
    ((z7.mem.set k (.loop (if jump.isNone then .ready else .done) jump fr params assign body)).take mem.length).all (aS mem.length)=true ∧
    bV=(z7.mem.set k (.loop (if jump.isNone then .ready else .done) jump fr params assign body)).take mem.length) :
  JN P k vs mem b bV :=
 (vW hk hlen (R:=fun b' m'=>b'=b∧m'=bV) fun l=>(h l).mono fun ex uh ⟨h1,h2,h3⟩=>⟨h1,_,_,_,_,h2,h3.mono fun ex z7 ⟨j,h4,h5,h6,h7,h8⟩=>⟨_,j,_,_,_,_,_,_,ax _,h4,h6,h7,h5.symm,h8.symm⟩⟩).det
theorem sG {P:Program} {n0:Nat} {st:St} {Q:Exit→St→Prop} {f:Operand} {params:Array Tmp} {assign body:Code} {g:FuncId} {vs:List V} {R:V→List bm→Prop} (hc:da (st.eval f) [.km st.mem.length]=some (g,vs))
  (GC:eo P g vs (st.mem++[.loop .ready none st.fr params assign body]) R)
  (hq:∀ r zL,R r zL→∃ s n7 fr' U8 U9 Va,zL[st.mem.length]?=some (.loop s n7 fr' U8 U9 Va)∧s ≠ .busy∧(match n7 with|none=>Q .normal { st with mem:=zL.set st.mem.length .dead }|some c=>eg P none n0 c { st with mem:=zL.set st.mem.length .dead } Q)) :
  eg P none n0 (.rangeFunc f params assign body) st Q:=fun E0 w0 h0 E w a he hs Gz=>by
 refine wpIn_rangeFunc fun fn _=>?_
 let w1:World:=w.alloc (.deferred (some []))
 let L:Loop := { state:=.ready,pending:=none,fn:=fn,tmps:=a.tmps,params:=params,assign:=assign,body:=body,defers:=w.heap.size }
 let w2:World:=w1.alloc (.loop L)
 have mh:∀ v,E.cw st.mem.length v=none:=hs.top _ (ax _)
 have hle:E.le (E.with st.mem.length 0 (w.heap.size+1,0,0)):=Env.nj (mh 0) _
 have fQ:(E.with st.mem.length 0 (w.heap.size+1,0,0)).cw st.mem.length 0=some (w.heap.size+1,0,0):=if_pos ⟨rfl,rfl⟩
 have iI:∀ k v,¬ (k=st.mem.length∧v=0)→(E.with st.mem.length 0 (w.heap.size+1,0,0)).cw k v=E.cw k v:=fun k v h=>if_neg h
 have hold:∀ b,b<w.heap.size→w2.heap[b]?=w.heap[b]?:=fun b hb=>(ed w1 _ b (by simp [w1];omega)).trans (ed w _ b hb)
 have im:w2.heap[w.heap.size+1]?=some (.loop L):=by
  have:w1.heap.size=w.heap.size+1:=by simp [w1]
  show (w1.alloc (.loop L)).heap[w.heap.size+1]?=_
  rw [← this];exact heap_alloc_new w1 _
 have iz:il E w (E.with st.mem.length 0 (w.heap.size+1,0,0)) w2:=by
  refine⟨hle,fun k v g e c hk=>?_,fun ad x hx=>.inl hx,rfl,rfl,rfl,by simp [w2,w1];omega,fun b hb _=>hold b hb⟩
  by_cases fN:k=st.mem.length∧v=0
  ·obtain⟨rfl,rfl⟩:=fN;rw [fQ] at hk;cases hk;exact .inr (by omega)
  rw [iI k v fN] at hk;exact .inl ⟨_,_,_,_,hk⟩
 have hFn:∀ o,E.F ⟨w.heap.size+1,o,none⟩=none:=fun o=>by
  cases hx:E.F ⟨w.heap.size+1,o,none⟩ with
  | none=>rfl
  | some x=>have:=World.block_lt_of_cell? w _ (hs.F _ _ hx);simp at this;omega
 have JZ:cY (E.with st.mem.length 0 (w.heap.size+1,0,0)) w2 { tmps := #[],defers:=[] } { fr:=[],mem:=st.mem++[.loop .ready none st.fr params assign body] }:=by
  have jG:∀ {k:Nat} {B:bm},(st.mem++[bm.loop .ready none st.fr params assign body])[k]?=some B→(k<st.mem.length∧st.mem[k]?=some B)∨(k=st.mem.length∧B = .loop .ready none st.fr params assign body):=fun {k B} h=>by
   rw [XW] at h
   split at h
   ·rename_i bR;exact .inl ⟨bR,h⟩
   have Dz:k-st.mem.length=0:=by
    rcases atc (k-st.mem.length) with h0|h0
    ·exact h0
    rw [dN (by simp;omega)] at h;cases h
   rw [Dz] at h;simp at h
   exact .inr ⟨by omega,h.symm⟩
  refine⟨fun ad x hx=>?_,fun k v g e c hk=>?_,fun k B hk=>?_,fun k hk v=>?_,fun k B hk v hv=>?_,fun k k' v v' g e1 c1 e2 c2 h5 h6=>?_,.nil _⟩
  ·have hc:=hs.F ad x hx
   rw [← hc];simp [World.cell?,hold _ (World.block_lt_of_cell? w ad hc)]
  ·by_cases fN:k=st.mem.length∧v=0
   ·obtain⟨rfl,rfl⟩:=fN;rw [fQ] at hk;cases hk;simp [w2,w1]
   rw [iI k v fN] at hk;have:=hs.lt _ _ _ _ _ hk;simp [w2,w1];omega
  ·rcases jG hk with ⟨bR,kX⟩|⟨rfl,rfl⟩
   ·exact (hs.mem k B kX).mono hle (fun v h=>by rw [iI k v (by omega)];exact h) (fun g e c h=>hold g (hs.lt _ _ _ _ _ h)) fun _ _ _ _ _ h=>h
   exact⟨w.heap.size+1,fn,a.tmps,w.heap.size,fQ,im,hs.fr.mono hle,hFn⟩
  ·dsimp only at hk
   simp at hk
   rw [iI k v (by omega)];exact hs.top k (by omega) v
  ·rcases jG hk with ⟨bR,kX⟩|⟨rfl,rfl⟩
   ·rw [iI k v (by omega)];exact hs.dF k B kX v hv
   rw [iI _ v (by simp [bm.dF] at hv;omega)];exact mh v
  by_cases fN:k=st.mem.length∧v=0 <;> by_cases EK:k'=st.mem.length∧v'=0
  ·rw [fN.1,EK.1]
  ·obtain⟨rfl,rfl⟩:=fN;rw [fQ] at h5;cases h5;rw [iI k' _ EK] at h6;have:=hs.lt _ _ _ _ _ h6;omega
  ·obtain⟨rfl,rfl⟩:=EK;rw [fQ] at h6;cases h6;rw [iI k _ fN] at h5;have:=hs.lt _ _ _ _ _ h5;omega
  rw [iI k _ fN] at h5;rw [iI k' _ EK] at h6
  exact hs.apart _ _ _ _ _ _ _ _ _ h5 h6
 have At:cJ (E.with st.mem.length 0 (w.heap.size+1,0,0)) [.km st.mem.length] (#[Value.func (.yield (w.heap.size+1)) #[] #[]]:Array Value).toList:=.cons (.km _ _ _ 0 0 fQ) (.nil _)
 obtain⟨d,ys,hy,Vy,PD⟩:=AT (P:=P) (w:=w2) ((hs.eval f).mono hle) At hc
 have akQ:=Gz.NP iz
 refine⟨w.heap.size+1,[{ target:=.collected w.heap.size,args := #[] }],w2,d,w2,g,ys,w2,?_,?_,fun _ _=>trivial,PD.trans (GC.1 ys w2),fun h=>by simp [WF] at h,?_⟩
 ·exact run_enterLoop_outer _ _ _ _ _
 ·refine Eq.trans ?_ Vy
  simp only [rangeCall,resolve]
  simp [Act.eval]
 refine AV ((GC.2 _ w2 ys JZ hy).mono ?_)
 rintro e w3 ⟨E3,x,r,zL,rfl,hRR,Ql,hs3,-⟩
 obtain⟨s,n7,fr',U8,U9,Va,hm2,aew,Ye⟩:=hq r zL hRR
 obtain⟨l3,fn3,Mp,db3,j9,hh3,hr3,hf3⟩:=hs3.mem _ _ hm2
 have aex:E3.cw st.mem.length 0=some (w.heap.size+1,0,0):=Ql.le.cw _ _ _ fQ
 rw [aex] at j9;cases j9
 have aqs:w.heap.size+1<w3.heap.size:=(dH.1 hh3).1
 have hsb:(s==LoopState.busy)=false:=by cases s <;> first|rfl|exact absurd rfl aew
 have akS:=hs.Hd hs3 (Env.le_trans hle Ql.le)
 have t:=akS.GZ hm2 rfl (B':=.dead) rfl aex hf3 (w' := { w3 with heap:=w3.heap.setIfInBounds (w.heap.size+1) (.loop { state:=.exhausted,pending:=n7,fn:=fn3,tmps:=Mp,params:=U8,assign:=U9,body:=Va,defers:=db3 }) })
  ⟨rfl,rfl,rfl,by simp,fun b hb=>Eu (fun e=>hb e.symm)⟩ trivial
 have aez:il E0 w0 E3 _:=(he.trans (iz.trans Ql)).trans t.2
 have aeA:Marks E3 { w3 with heap:=w3.heap.setIfInBounds (w.heap.size+1) (.loop { state:=.exhausted,pending:=n7,fn:=fn3,tmps:=Mp,params:=U8,assign:=U9,body:=Va,defers:=db3 }) } w0.heap.size ({ target:=.collected w.heap.size,args := #[] } :: a.defers):=by
  obtain⟨rs,m1,m2,m3⟩:=(akQ.NP Ql).NP t.2
  have hd0:w2.heap[w.heap.size]?=some (.deferred (some [])):=(ed w1 _ _ (by simp [w1])).trans (heap_alloc_new w _)
  have U2:∀ k v e c,(E.with st.mem.length 0 (w.heap.size+1,0,0)).cw k v≠some (w.heap.size,e,c):=fun k v e c hk=>by
   by_cases fN:k=st.mem.length∧v=0
   ·obtain⟨rfl,rfl⟩:=fN;rw [fQ] at hk;simp at hk
   rw [iI k v fN] at hk;have:=hs.lt _ _ _ _ _ hk;omega
  have one:Marks (E.with st.mem.length 0 (w.heap.size+1,0,0)) w2 w0.heap.size [{ target:=.collected w.heap.size,args := #[] }]:=⟨[w.heap.size],rfl,by simp,fun r hr=>by
   simp at hr;subst hr;exact⟨he.size,hd0,U2⟩⟩
  obtain⟨nC,n1,n2,n3⟩:=(one.NP Ql).NP t.2
  have Z0:nC=[w.heap.size]:=by
   match nC,n1 with
   | [r],h=>simp at h;rw [h]
   | [],h=>simp at h
   | _ :: _ :: _,h=>simp at h
  subst Z0
  refine⟨w.heap.size :: rs,by rw [m1];rfl,?_,fun r hr=>?_⟩
  ·rw [asN]
   refine⟨fun o7=>?_,m2⟩
   obtain⟨rs0,q1,q2,q3⟩:=Gz
   have Dp:rs=rs0:=by
    have:=m1.symm.trans q1
    have inj:∀ (xs ys:List Nat),xs.map (fun r=>({ target:=.collected r,args := #[] }:Deferred))=ys.map (fun r => { target:=.collected r,args := #[] })→xs=ys:=by
     intro xs
     induction xs with
     | nil=>intro ys h;cases ys with|nil=>rfl|cons y ys=>simp at h
     | cons x xs ih=>intro ys h;cases ys with|nil=>simp at h|cons y ys=>simp at h;rw [h.1,ih ys (by simpa using h.2)]
    exact inj _ _ this
   subst Dp
   have:=(q3 _ o7).2.1
   rw [asM (ax _)] at this;cases this
  rcases dj.1 hr with rfl|hr
  ·exact n3 _ (by simp)
  exact m3 r hr
 refine⟨n7,{ w3 with heap:=w3.heap.setIfInBounds (w.heap.size+1) (.loop { state:=.exhausted,pending:=n7,fn:=fn3,tmps:=Mp,params:=U8,assign:=U9,body:=Va,defers:=db3 }) },?_,?_⟩
 ·have hg:(Instr.getLoop (w.heap.size+1)).run P w3 = .ok { state:=s,pending:=n7,fn:=fn3,tmps:=Mp,params:=U8,assign:=U9,body:=Va,defers:=db3 } w3:=by
   simp [Instr.getLoop,getObj,Sem.run,hh3,bind,Sem.bind,pure]
  simp only [Instr.endLoop,Sem.run_bind,hg,Result.andThen_ok,hsb,bJ,if_false]
  simp [setObj,Sem.run,hh3]
 cases n7 with
 | none=>exact⟨E3,_,⟨t.1.F,t.1.lt,t.1.mem,t.1.top,t.1.dF,t.1.apart,t.1.fr⟩,aez,aeA,Ye⟩
 | some c=>exact Ye E0 w0 h0 E3 _ { a with defers := { target:=.collected w.heap.size,args := #[] } :: a.defers } aez ⟨t.1.F,t.1.lt,t.1.mem,t.1.top,t.1.dF,t.1.apart,t.1.fr⟩ aeA
theorem pU {P:Program} {n0:Nat} {st:St} {Q:Exit→St→Prop} {f:Operand} {params:Array Tmp} {assign body:Code} {g:FuncId} {vs:List V} {r:V} {zL:List bm} (hc:da (st.eval f) [.km st.mem.length]=some (g,vs))
  (GC:bw P g vs (st.mem++[.loop .ready none st.fr params assign body]) r zL)
  (hq:∃ s n7 fr' U8 U9 Va,zL[st.mem.length]?=some (.loop s n7 fr' U8 U9 Va)∧s ≠ .busy∧(match n7 with|none=>Q .normal { st with mem:=zL.set st.mem.length .dead }|some c=>eg P none n0 c { st with mem:=zL.set st.mem.length .dead } Q)) :
  eg P none n0 (.rangeFunc f params assign body) st Q :=
 sG hc GC.rel fun r' m' ⟨_,h2⟩=>by subst h2;exact hq
end Go.Eng
end
section
namespace Go.Eng
variable [bk]
open Go.RowKit (Below)
inductive Cls where
 | n|r|a|w|s|b|z|e
 deriving DecidableEq
structure Pl where
 cls:Cls
 key:Nat
 mask:List Nat
 Yf:List Nat:=[]
 abs:List Nat:=[]
abbrev pN:Pl:=⟨.n,0,[],[],[]⟩
abbrev pR:Pl:=⟨.r,0,[],[],[]⟩
abbrev jA (a:List Nat):Pl:=⟨.n,0,[],a,[]⟩
abbrev n9 (a:List Nat):Pl:=⟨.r,0,[],a,[]⟩
def Hj (m:List bm) (k:Nat):List bm:=match m[k]? with
 | some B=>if B.dF=0 then m.set k .dead else m
 | none=>m
def eJ:List Nat→List bm→List bm
 | [],m=>m
 | k :: r,m=>eJ r (Hj m k)
def ml (b:Bool) (B:bm):bm:=if b=true∧B.dF=0 then .dead else B
theorem NR (m:List bm) (k q:Nat):(Hj m k)[q]?=(m[q]?).map (ml (q==k)):=by
 unfold Hj;by_cases hq:q=k;·subst hq;cases h:m[q]? with|none=>simp [h]|some B =>have bR:q<m.length:=(aq.1 h).1;simp only [beq_self_eq_true,aC,ml,true_and];split;(·rename_i hv;simp [bK,bR]);rename_i hv;exact h
 have hb:(q==k)=false:=by simpa using hq
 have hid:(m[q]?).map (ml (q==k))=m[q]?:=by rw [hb];cases m[q]? <;> simp [ml]
 rw [hid];cases h:m[k]? with|none=>rfl|some B =>dsimp only;split;(·exact cL (fun e=>hq e.symm));rfl
theorem C0 (b c:Bool) (B:bm):ml b (ml c B)=ml (b||c) B:=by have hd:bm.dead.dF=0:=rfl;unfold ml;cases b <;> cases c <;> by_cases hv:B.dF=0 <;> simp [hv,hd]
theorem mU:∀ (ks:List Nat) (m:List bm) (q:Nat),(eJ ks m)[q]?=(m[q]?).map (ml (ks.contains q))
 | [],m,q=>by cases h:m[q]? <;> simp [eJ,h,ml]
 | k :: r,m,q=>by
  rw [eJ,mU r,NR]
  cases m[q]? with
  | none=>rfl
  | some B =>
   simp only [aC,C0,List.contains_cons]
   rw [asO]
theorem vX:∀ (ks:List Nat) (m:List bm),(eJ ks m).length=m.length
 | [],m=>rfl
 | k :: r,m=>by
  rw [eJ,vX r]
  unfold Hj
  split
  ·split <;> simp
  rfl
theorem og {ks:List Nat} {m:List bm} {k:Nat} {B0 B:bm} (hk:k∈ks) (hm:m[k]?=some B0) (h0:B0.dF=0) (hB:B.dF=0):eJ ks (m.set k B)=eJ ks m:=by
 refine dq fun q=>?_;rw [mU,mU];by_cases hq:q=k;·subst hq;have bR:q<m.length:=(aq.1 hm).1;(have hc:ks.contains q=true:=by simpa using hk);rw [bK,if_pos rfl,if_pos bR,hm];simp [ml,hB,h0,hk]
 rw [cL (fun e=>hq e.symm)]
theorem cY.eJ {E:Env} {w:World} {a:Act} {st:St} (hs:cY E w a st) (ks:List Nat):cY E w a { st with mem:=Eng.eJ ks st.mem }:=by
 have get:∀ {k:Nat} {B:bm},(Eng.eJ ks st.mem)[k]?=some B→∃ B0:bm,st.mem[k]?=some B0∧(B=B0∨B=bm.dead∧B0.dF=0):=fun {k B} h=>by rw [mU] at h;cases h0:st.mem[k]? with|none=>rw [h0] at h;cases h|some B0 =>rw [h0] at h;simp only [aC,aB] at h;refine⟨B0,rfl,?_⟩;unfold ml at h;split at h;(·rename_i hc;exact .inr ⟨h.symm,hc.2⟩);exact .inl h.symm
 refine⟨hs.F,hs.lt,fun k B hk=>?_,fun k hk=>hs.top k (by simpa [vX] using hk),fun k B hk v hv=>?_,hs.apart,hs.fr⟩;·obtain⟨B0,h0,rfl|⟨rfl,-⟩⟩:=get hk;(·exact hs.mem k _ h0);trivial
 obtain⟨B0,h0,rfl|⟨rfl,h1⟩⟩:=get hk;·exact hs.dF k _ h0 v hv
 exact hs.dF k _ h0 v (by rw [h1];exact hv)
def Fc (P:Program) (f:FuncId) (vs:List V) (r:V):Prop:=cx P f vs r∨sx P f vs r
def aeC (P:Program) (f:FuncId) (vs:List V) (Q:V→Prop):Prop:=∃ vs' r,fw [] vs=some vs'∧Fc P f vs' r∧Q r
def zN (P:Program) (tt:Table) (o:Oper) (st:St):Option V :=
 match o.op with
 | .build T parts=>nP P tt T parts.toList st.eval
 | .buildSlice T len parts=>match xG tt T len parts.toList st.eval with
  | some (_,rs)=>some (.slice rs)
  | none=>none
 | _=>mC P tt st o
def ui (P:Program) (tt:Table) (o:Oper) (st:St) (Q:V→Prop):Prop :=
 match o.op with
 | .call { callee:=.value f,args:=xs,.. }=>match da (st.eval f) (xs.toList.map st.eval) with
  | some (g,vs)=>aeC P g vs Q
  | none=>False
 | _=>match zN P tt o st with
  | some v=>Q v
  | none=>False
def aeD (P:Program) (f:FuncId) (vs:List V) (st:St) (dst:Option Tmp) (Q:St→Prop):Prop:=∃ vs' r,fw [] vs=some vs'∧Fc P f vs' r∧Q (st.put dst r)
def oa (P:Program) (tt:Table) (o:Oper) (C1 st:St) (Q:St→Prop):Prop :=
 match o.op with
 | .call { callee:=.value f,args:=xs,.. }=>match da (C1.eval f) (xs.toList.map C1.eval) with
  | some (g,vs)=>aeD P g vs st o.dst Q
  | none=>False
 | _=>match zN P tt o C1 with
  | some v=>Q (st.put o.dst v)
  | none=>False
theorem z8 {P:Program} {tt:Table} {o:Oper} {C1 st:St} {Q:St→Prop}:oa P tt o C1 st Q=ui P tt o C1 fun v=>Q (st.put o.dst v):=by unfold oa ui;split <;> rfl
def iQ (tt:Table) (o:Oper) (key:Nat) (st:St):Option (bm×V) :=
 match o.op with
 | .alloc T=>match tt T with
  | some i=>some (.box (i.zero.map V.sc),.ptr key 0)
  | none=>none
 | .box _ x=>match mc (st.eval x) with
  | some cs=>some (.box cs,.ptr key 0)
  | none=>none
 | .buildSlice T len parts=>match xG tt T len parts.toList st.eval with
  | some (size,rs)=>some (.rows 0 size rs,.ms key 0 0 len)
  | none=>none
 | .makeMap _ none=>some (.map [] 0,.mp key)
 | .makeSlice T l c=>match yJ tt T (st.eval l) (st.eval c) with
  | some (size,rs,_)=>some (.rows 0 size rs,.ms key 0 0 rs.length)
  | none=>none
 | _=>none
def o8 (P:Program) (tt:Table) (key:Nat) (o:Oper) (st:St):Option (List bm×V) :=
 match o.op with
 | .store T p x=>match nO tt st.mem T (st.eval p) (st.eval x) with
  | some bV=>some (bV,.sc undef)
  | none=>none
 | .call { callee:=.builtin .append,args:=xs,argTypes:=ts }=>match xs.toList.map st.eval with
  | [s,x]=>match gE tt st.mem ts.toList s x with
   | some (size,sr,rows)=>some (fu st.mem key size rows sr)
   | none=>none
  | _=>none
 | .mapUpdate T m k x=>match dP P st.mem T (st.eval m) (st.eval k) (st.eval x) with
  | some bV=>some (bV,.sc undef)
  | none=>none
 | .insert T m k x=>match dP P st.mem T (st.eval m) (st.eval k) (st.eval x) with
  | some bV=>some (bV,.sc undef)
  | none=>none
 | _=>none
def rU (tt:Table) (key:Nat) (o:Oper) (st:St):Option (List bm) :=
 match o.op with
 | .store T p x=>match st.eval p with
  | .ptr b off=>if b=key then nO tt st.mem T (.ptr key off) (st.eval x) else none
  | _=>none
 | _=>none
def isHole (mem:List bm) (k:Nat):Bool:=match mem[k]? with|some .hole=>true|_=>false
theorem iR {mem:List bm} {k:Nat}:isHole mem k=true↔mem[k]?=some .hole:=by
 unfold isHole;split;·rename_i h;simp [h]
 rename_i h;simp;exact fun e=>h e
def yS (P:Program) (f:FuncId) (vs:List V) (e:Nat) (rs:List V):Prop:=∃ v,bw P f vs [] (.ms 0 v 0 rs.length) [.rows v e rs]
def oH (P:Program) (o:Oper) (ev:Operand→V) (Q:Nat→List V→Prop):Prop :=
 match o.op with
 | .call { callee:=.value f,args:=xs,.. }=>match da (ev f) (xs.toList.map ev) with
  | some (g,vs)=>∃ vs' e rs,fw [] vs=some vs'∧yS P g vs' e rs∧Q e rs
  | none=>False
 | _=>False
theorem oh {P:Program} {o:Oper} {ev:Operand→V} {Q:Nat→List V→Prop}:oH P o ev Q↔∃ e rs,oH P o ev (fun e' nC=>e'=e∧nC=rs)∧Q e rs:=by
 unfold oH;split;·split;(·constructor;(·rintro⟨vs',e,rs,h1,h2,h3⟩;exact⟨e,rs,⟨vs',e,rs,h1,h2,rfl,rfl⟩,h3⟩);rintro⟨e,rs,⟨vs',e',nC,h1,h2,h3,h4⟩,h5⟩;subst h3;subst h4;exact⟨vs',_,_,h1,h2,h5⟩);exact⟨fun h=>h.elim,fun ⟨_,_,h,_⟩=>h⟩
 exact⟨fun h=>h.elim,fun ⟨_,_,h,_⟩=>h⟩
def xO (st:St) (key:Nat) (dst:Option Tmp) (e:Nat) (rs:List V):St := { st with mem:=st.mem.set key (.rows 0 e rs) }.put dst (.ms key 0 0 rs.length)
def aeE (P:Program) (f:FuncId) (vs:List V) (st:St) (key:Nat) (dst:Option Tmp) (Q:St→Prop):Prop:=∃ vs' e rs,fw [] vs=some vs'∧yS P f vs' e rs∧Q (xO st key dst e rs)
def uX (P:Program) (o:Oper) (key:Nat) (st:St) (Q:St→Prop):Prop :=
 match o.op with
 | .call { callee:=.value f,args:=xs,.. }=>match da (st.eval f) (xs.toList.map st.eval) with
  | some (g,vs)=>aeE P g vs st key o.dst Q
  | none=>False
 | _=>False
theorem DA {P:Program} {o:Oper} {key:Nat} {st:St} {Q:St→Prop}:uX P o key st Q=oH P o st.eval fun e rs=>Q (xO st key o.dst e rs):=by unfold uX oH;split <;> rfl
def eY:bm→bm
 | .box cs=>.box cs
 | _=>.dead
def oI (tt:Table) (o:Oper) (st:St):Option V :=
 match o.op with
 | .load T x=>qf tt (st.mem.map eY) T (st.eval x)
 | _=>none
def isApp (o:Oper):Bool:=match o.op with|.call { callee:=.builtin .append,.. }=>true|_=>false
def sH (o:Oper):Bool:=match o.op with|.alloc _=>false|.box _ _=>false|_=>true
theorem xP (c:Bool) (B:bm):eY (ml c B)=if c=true then .dead else eY B:=by unfold ml;cases c with|false=>simp|true =>rw [if_pos rfl];by_cases hv:B.dF=0;(·rw [if_pos ⟨rfl,hv⟩];rfl);rw [if_neg (fun h=>hv h.2)];cases B <;> first|rfl|exact absurd rfl hv
theorem Fe {tt:Table} {o:Oper} {st:St} {v:V} {ks:List Nat} (h:oI tt o { st with mem:=eJ ks st.mem }=some v):oI tt o st=some v:=by
 unfold oI at h ⊢;split at h;·rename_i T x ho;(try simp only [ho]);(have e:St.eval { st with mem:=eJ ks st.mem } x=st.eval x:=by cases x <;> rfl);rw [e] at h;dsimp only at h;unfold qf at h ⊢;split;(·rename_i b off he;rw [he] at h;dsimp only at h;rw [ae,mU] at h;rw [ae];cases hb:st.mem[b]? with|none=>rw [hb] at h;simp at h|some B =>rw [hb] at h;simp only [aC] at h ⊢;rw [xP] at h;by_cases hc:ks.contains b=true;(·rw [if_pos hc] at h;cases h);rw [if_neg hc] at h;exact h);(·rename_i b dF i off he;rw [he] at h;dsimp only at h;(have:rowOf ((eJ ks st.mem).map eY) b dF i=none:=by unfold rowOf;rw [ae];cases hb:(eJ ks st.mem)[b]? with|none=>rfl|some B=>cases B <;> rfl);rw [this] at h;cases h);(·rename_i cs he;rw [he] at h;exact h);rename_i h1 h2 h3;split at h;(·rename_i he;exact absurd he (h1 _ _));(·rename_i he;exact absurd he (h2 _ _ _ _));(·rename_i he;exact absurd he (h3 _));cases h
 cases h
theorem DB {ks:List Nat} {m m':List bm} (h:m.map eY=m'.map eY):(eJ ks m).map eY=(eJ ks m').map eY:=by apply dq;intro q;have hq:=congrArg (fun l=>l[q]?) h;simp only [ae] at hq;rw [ae,ae,mU,mU];cases h1:m[q]? with|none =>(rw [h1] at hq;cases h2:m'[q]? with|none=>rfl|some B=>rw [h2] at hq;cases hq)|some A =>rw [h1] at hq;cases h2:m'[q]? with|none=>rw [h2] at hq;cases hq|some B =>rw [h2] at hq;simp only [aC,aB] at hq ⊢;rw [xP,xP,hq]
theorem NS {P:Program} {tt:Table} {o:Oper} {st:St} {v:V} (h:oI tt o st=some v):mC P tt st o=some v:=by
 unfold oI at h;split at h;·rename_i T x ho;unfold mC;rw [ho];dsimp only;unfold qf at h ⊢;split;(·rename_i b off he;rw [he] at h;dsimp only at h;rw [ae] at h;cases hb:st.mem[b]? with|none=>rw [hb] at h;simp at h|some B =>rw [hb] at h;cases B <;> simp [eY] at h <;> exact h);(·rename_i b dF i off he;rw [he] at h;dsimp only at h;(have:rowOf (st.mem.map eY) b dF i=none:=by unfold rowOf;rw [ae];cases hb:st.mem[b]? with|none=>rfl|some B=>cases B <;> rfl);rw [this] at h;cases h);(·rename_i cs he;rw [he] at h;exact h);rename_i h1 h2 h3;split at h;(·rename_i he;exact absurd he (h1 _ _));(·rename_i he;exact absurd he (h2 _ _ _ _));(·rename_i he;exact absurd he (h3 _));cases h
 cases h
theorem sI {tt:Table} {mem:List bm} {ts:List TypeId} {s x:V} {size b dF:Nat} {rows:List V} (h:gE tt mem ts s x=some (size,some (b,dF),rows)):∃ e rs,mem[b]?=some (.rows dF e rs):=by
 have hl:∀ {sz:Nat} {rs:List V},mf mem sz s=some (some (b,dF),rs)→∃ e rs,mem[b]?=some (.rows dF e rs):=fun {sz rs} h=>by unfold mf at h;split at h;(·cases h);(·split at h <;> cases h);(·split at h;(·rename_i v' e nC hb;split at h;(·rename_i hc;simp only [aB,dE] at h;obtain⟨⟨rfl,rfl⟩,rfl⟩:=h;exact⟨_,_,by rw [hb,hc.1]⟩);cases h);cases h);cases h
 unfold gE at h;split at h;·split at h;(·split at h;(·split at h;(·split at h;(·split at h;(·split at h;(·rename_i sr rs hlr;split at h;(·split at h;(·split at h;(case isFalse=>cases h);simp only [aB,dE] at h;obtain⟨-,rfl,-⟩:=h;exact hl hlr);cases h);cases h);cases h);cases h);cases h);cases h);cases h);cases h
 cases h
theorem Qm {P:Program} {tt:Table} {key:Nat} {o:Oper} {st:St} {m:List bm} {v:V} (ha:isApp o=true) (hh:st.mem[key]?=some .hole) (h:o8 P tt key o st=some (m,v)):m.map eY=st.mem.map eY:=by
 have AX:∀ (k:Nat) (B0 B:bm),st.mem[k]?=some B0→eY B=eY B0→(st.mem.set k B).map eY=st.mem.map eY:=fun k B0 B h0 hB=>by apply dq;intro q;rw [ae,ae,bK];split;(·rename_i hq;subst hq;rw [if_pos (aq.1 h0).1,h0,aC,aC,hB]);rfl
 unfold isApp at ha;split at ha;·rename_i ho;unfold o8 at h;rw [ho] at h;dsimp only at h;split at h;(·split at h;(·rename_i size sr rows C2;simp only [aB] at h;cases sr with|none =>simp only [fu,dE] at h;obtain⟨rfl,-⟩:=h;unfold dn;rw [if_pos (aq.1 hh).1];exact AX _ _ _ hh rfl|some p =>obtain⟨b,dF⟩:=p;simp only [fu,dE] at h;obtain⟨rfl,-⟩:=h;(have hb:∃ e rs,st.mem[b]?=some (.rows dF e rs):=by exact sI C2);obtain⟨e,rs,hb⟩:=hb;exact AX _ _ _ hb rfl);cases h);cases h
 cases ha
def qn (P:Program) (o:Oper) (st:St) (Q:St→Prop):Prop :=
 match o.op with
 | .call { callee:=.value f,args:=xs,.. }=>match da (st.eval f) (xs.toList.map st.eval) with
  | some (g,vs)=>∃ vs' r,fw st.mem vs=some vs'∧cx P g vs' r∧Q ({ st with mem:=gv st.mem (vs.flatMap fg) r }.put o.dst r)
  | none=>False
 | _=>False
theorem AZ {P:Program} {o:Oper} {st:St} {K K':St→Prop} (h:qn P o st K) (hk:∀ s,K s→K' s):qn P o st K':=by
 unfold qn at h ⊢;split at h;·split at h;(·obtain⟨vs',r,h1,h2,h3⟩:=h;exact⟨vs',r,h1,h2,hk _ h3⟩);exact h.elim
 exact h.elim
def Qn (P:Program) (g:FuncId) (vs:List V) (k:Nat) (st:St) (dst:Option Tmp) (Q:St→Prop):Prop :=
 ∃ v B0 B,B0.dF=0∧B.dF=0∧st.mem[k]?=some B0∧bw P g vs st.mem v (st.mem.set k B)∧Q ({ st with mem:=st.mem.set k B }.put dst v)
def vY (P:Program) (tt:Table) (o:Oper) (k:Nat) (st:St) (Q:St→Prop):Prop :=
 match o.op with
 | .call { callee:=.value f,args:=xs,.. }=>match da (st.eval f) (xs.toList.map st.eval) with
  | some (g,vs)=>Qn P g vs k st o.dst Q
  | none=>False
 | _=>match rU tt k o st with
  | some m=>Q ({ st with mem:=m }.put o.dst (.sc undef))
  | none=>False
def Hk (P:Program) (tt:Table) (o:Oper) (k:Nat) (st:St) (v:V) (m:List bm):Prop :=
 match o.op with
 | .call { callee:=.value f,args:=xs,.. }=>match da (st.eval f) (xs.toList.map st.eval) with
  | some (g,vs)=>∃ B0 B,B0.dF=0∧B.dF=0∧st.mem[k]?=some B0∧bw P g vs st.mem v (st.mem.set k B)∧m=st.mem.set k B
  | none=>False
 | _=>v = .sc undef∧rU tt k o st=some m
theorem NT {P:Program} {tt:Table} {o:Oper} {k:Nat} {st:St} {Q:St→Prop}:vY P tt o k st Q↔∃ v m,Hk P tt o k st v m∧Q ({ st with mem:=m }.put o.dst v):=by
 unfold vY Hk;split;·split;(·constructor;(·rintro⟨v,B0,B,h1,h2,h3,h4,h5⟩;exact⟨v,_,⟨B0,B,h1,h2,h3,h4,rfl⟩,h5⟩);rintro⟨v,m,⟨B0,B,h1,h2,h3,h4,rfl⟩,h5⟩;exact⟨v,B0,B,h1,h2,h3,h4,h5⟩);exact⟨fun h=>h.elim,fun ⟨_,_,h,_⟩=>h.elim⟩
 split;·rename_i m hb;exact⟨fun h=>⟨_,m,⟨rfl,hb⟩,h⟩,fun ⟨u,m',⟨h1,h2⟩,h4⟩=>by rw [hb] at h2;cases h2;subst h1;exact h4⟩
 rename_i hb;exact⟨fun h=>h.elim,fun ⟨_,_,⟨_,h⟩,_⟩=>by rw [hb] at h;cases h⟩
def fC (P:Program) (tt:Table) (all:Array Oper) (base:Nat) (o:Oper) (p:Pl) (st:St) (Q:St→Prop):Prop :=
 match gi all st.fr o with
 | some true=>match p.cls with
  | .n=>oa P tt o { st with mem:=[] } st Q
  | .r=>oa P tt o { st with mem:=eJ (p.mask.map (base + ·)++p.abs) st.mem } st Q
  | .a=>isHole st.mem (base+p.key)=true∧match iQ tt o (base+p.key) st with
   | some (B,v)=>Q ({ st with mem:=st.mem.set (base+p.key) B }.put o.dst v)
   | none=>uX P o (base+p.key) st Q
  | .w=>isHole st.mem (base+p.key)=true∧match o8 P tt (base+p.key) o st with
   | some (m,v)=>Q ({ st with mem:=m }.put o.dst v)
   | none=>False
  | .s=>match rU tt (base+p.key) o st with
   | some m=>Q ({ st with mem:=m }.put o.dst (.sc undef))
   | none=>False
  | .b=>match oI tt o { st with mem:=eJ (p.mask.map (base + ·)) st.mem } with
   | some v=>Q (st.put o.dst v)
   | none=>False
  | .z=>qn P o st Q
  | .e=>vY P tt o p.key st Q
 | some false=>Q (st.put o.dst (.sc undef))
 | none=>False
@[congr] theorem aaA {P:Program} {tt:Table} {o:Oper} {sv sv' st st':St} {Q:St→Prop} (hv:sv=sv') (h:st=st'):oa P tt o sv st Q=oa P tt o sv' st' Q:=by rw [hv,h]
def o9 (P:Program) (tt:Table) (all:Array Oper) (base:Nat) (o:Oper) (p:Pl) (st:St) (v:V) (m:List bm):Prop :=
 match gi all st.fr o with
 | some true=>match p.cls with
  | .n=>ui P tt o { st with mem:=[] } (fun u=>u=v)∧m=st.mem
  | .r=>ui P tt o { st with mem:=eJ (p.mask.map (base + ·)++p.abs) st.mem } (fun u=>u=v)∧m=st.mem
  | .a=>isHole st.mem (base+p.key)=true∧∃ B,(iQ tt o (base+p.key) st=some (B,v)∨iQ tt o (base+p.key) st=none∧oH P o st.eval (fun e rs=>B = .rows 0 e rs∧v = .ms (base+p.key) 0 0 rs.length))∧m=st.mem.set (base+p.key) B
  | .w=>isHole st.mem (base+p.key)=true∧o8 P tt (base+p.key) o st=some (m,v)
  | .s=>v = .sc undef∧rU tt (base+p.key) o st=some m
  | .b=>oI tt o { st with mem:=eJ (p.mask.map (base + ·)) st.mem }=some v∧m=st.mem
  | .z=>False
  | .e=>Hk P tt o p.key st v m
 | some false=>v = .sc undef∧m=st.mem
 | none=>False
theorem Hl {P:Program} {tt:Table} {o:Oper} {st:St} {Q:V→Prop}:ui P tt o st Q↔∃ v,ui P tt o st (fun u=>u=v)∧Q v:=by
 unfold ui;split;·split;(·constructor;(·rintro⟨vs',r,h1,h2,h3⟩;exact⟨r,⟨vs',r,h1,h2,rfl⟩,h3⟩);rintro⟨v,⟨vs',r,h1,h2,rfl⟩,h3⟩;exact⟨vs',r,h1,h2,h3⟩);exact⟨fun h=>h.elim,fun ⟨_,h,_⟩=>h⟩
 split;·exact⟨fun h=>⟨_,rfl,h⟩,fun ⟨_,h,hq⟩=>by subst h;exact hq⟩
 exact⟨fun h=>h.elim,fun ⟨_,h,_⟩=>h⟩
theorem j1 {P:Program} {tt:Table} {all:Array Oper} {base:Nat} {o:Oper} {p:Pl} {st:St} {Q:St→Prop} (hz:p.cls ≠ .z) :
  fC P tt all base o p st Q↔∃ v m,o9 P tt all base o p st v m∧Q ({ st with mem:=m }.put o.dst v):=by
 unfold fC o9;split;·split;(·rw [z8,Hl];exact⟨fun ⟨v,h1,h2⟩=>⟨v,st.mem,⟨h1,rfl⟩,h2⟩,fun ⟨v,m,⟨h1,h2⟩,h3⟩=>⟨v,h1,by subst h2;exact h3⟩⟩);(·rw [z8,Hl];exact⟨fun ⟨v,h1,h2⟩=>⟨v,st.mem,⟨h1,rfl⟩,h2⟩,fun ⟨v,m,⟨h1,h2⟩,h3⟩=>⟨v,h1,by subst h2;exact h3⟩⟩);(·split;(·rename_i B v hb;refine⟨fun ⟨h1,h2⟩=>⟨v,_,⟨h1,B,.inl hb,rfl⟩,h2⟩,fun ⟨u,m,⟨h1,B',h2,h3⟩,h4⟩=>?_⟩;(rcases h2 with h2|⟨h2,-⟩);(·rw [hb] at h2;cases h2;subst h3;exact⟨h1,h4⟩);rw [hb] at h2;cases h2);rename_i hb;rw [DA];constructor;(·rintro⟨h1,h2⟩;obtain⟨e,rs,h3,h4⟩:=oh.1 h2;exact⟨_,_,⟨h1,.rows 0 e rs,.inr ⟨hb,oh.2 ⟨e,rs,h3,rfl,rfl⟩⟩,rfl⟩,h4⟩);rintro⟨u,m,⟨h1,B',h2,h3⟩,h4⟩;(rcases h2 with h2|⟨-,h2⟩);(·rw [hb] at h2;cases h2);obtain⟨e,rs,h5,h6,h7⟩:=oh.1 h2;subst h6;subst h7;subst h3;exact⟨h1,oh.2 ⟨e,rs,h5,h4⟩⟩);(·split;(·rename_i m v hb;exact⟨fun ⟨h1,h2⟩=>⟨v,m,⟨h1,hb⟩,h2⟩,fun ⟨u,m',⟨h1,h2⟩,h4⟩=>by rw [hb] at h2;cases h2;exact⟨h1,h4⟩⟩);rename_i hb;exact⟨fun h=>h.2.elim,fun ⟨_,_,⟨_,h⟩,_⟩=>by rw [hb] at h;cases h⟩);(·split;(·rename_i m hb;exact⟨fun h=>⟨_,m,⟨rfl,hb⟩,h⟩,fun ⟨u,m',⟨h1,h2⟩,h4⟩=>by rw [hb] at h2;cases h2;subst h1;exact h4⟩);rename_i hb;exact⟨fun h=>h.elim,fun ⟨_,_,⟨_,h⟩,_⟩=>by rw [hb] at h;cases h⟩);(·split;(·rename_i v hb;exact⟨fun h=>⟨v,st.mem,⟨hb,rfl⟩,h⟩,fun ⟨u,m',⟨h1,h2⟩,h4⟩=>by rw [hb] at h1;cases h1;subst h2;exact h4⟩);rename_i hb;exact⟨fun h=>h.elim,fun ⟨_,_,⟨h,_⟩,_⟩=>by rw [hb] at h;cases h⟩);(·rename_i hc;exact absurd hc hz);exact NT
 ·exact⟨fun h=>⟨_,_,⟨rfl,rfl⟩,h⟩,fun ⟨v,m,⟨h1,h2⟩,h3⟩=>by subst h1;subst h2;exact h3⟩
 exact⟨fun h=>h.elim,fun ⟨_,_,h,_⟩=>h⟩
theorem j2 {ρ ρ':Operand→V} {xs:Array Operand} (h:∀ x∈xs,ρ x=ρ' x):xs.toList.map ρ=xs.toList.map ρ' :=
 iq fun x hx=>h x (by simpa using hx)
theorem yU {bp:List (Nat×Nat)} {ρ ρ':Operand→V}:∀ {ps:List (Nat×Operand)} {cs:List V},(∀ p∈ps,ρ p.2=ρ' p.2)→vT bp ρ ps cs=vT bp ρ' ps cs
 | [],cs,_=>rfl
 | (i,x) :: r,cs,h=>by
  simp only [vT,h (i,x) (by simp)]
  split
  ·split
   ·split
    ·exact yU fun p hp=>h p (by simp [hp])
    rfl
   rfl
  rfl
theorem sJ {ρ ρ':Operand→V}:∀ {ps:List (Nat×Operand)},(∀ p∈ps,ρ p.2=ρ' p.2)→nD ρ ps=nD ρ' ps
 | [],_=>rfl
 | (i,x) :: r,h=>by
  simp only [nD,h (i,x) (by simp)]
  rw [sJ fun p hp=>h p (by simp [hp])]
theorem Ff {P:Program} {tt:Table} {T:TypeId} {ρ ρ':Operand→V} {ps:List (Nat×Operand)} (h:∀ p∈ps,ρ p.2=ρ' p.2):nP P tt T ps ρ=nP P tt T ps ρ':=by
 unfold nP;split;·rw [yU h,sJ h]
 rfl
theorem A0 {tt:Table} {T:TypeId} {len:Nat} {ρ ρ':Operand→V} {ps:List (Nat×Operand)} (h:∀ p∈ps,ρ p.2=ρ' p.2):xG tt T len ps ρ=xG tt T len ps ρ':=by unfold xG;have:(ps.map fun p=>ρ p.2)=ps.map fun p=>ρ' p.2:=iq h;rw [this]
theorem NU {P:Program} {tt:Table} {o:Oper} {st st':St} (h:∀ x∈o.op.operands,st.eval x=st'.eval x) (hm:st.mem=st'.mem):mC P tt st o=mC P tt st' o:=by
 obtain⟨dst,op,type,pos,after,guard⟩:=o;cases op <;> simp only [Op.operands] at h <;> try rfl
 case slice T x lo hi mx =>
  cases mx <;> cases lo <;> cases hi <;> try rfl
  all_goals (simp only [mC];simp_all)
 case makeFunc fn first captured =>
  simp only [mC]
  rw [j2 (xs:=first) fun x hx=>h x (by simp [hx]),j2 (xs:=captured) fun x hx=>h x (by simp [hx])]
 case call c =>
  obtain⟨callee,args,ts⟩:=c
  have pC:args.toList.map st.eval=args.toList.map st'.eval:=j2 fun x hx=>h x (by simp [Call.operands,hx])
  cases callee with
  | builtin b=>cases b <;> simp only [mC,pC,hm]
  | _=>rfl
 all_goals (simp only [mC];simp_all)
theorem Ki {P:Program} {tt:Table} {o:Oper} {st st':St} (h:∀ x∈o.op.operands,st.eval x=st'.eval x) (hm:st.mem=st'.mem):zN P tt o st=zN P tt o st':=by
 have h0:=NU (P:=P) (tt:=tt) h hm;obtain⟨dst,op,type,pos,after,guard⟩:=o;cases op <;> try exact h0
 case build T ps=>exact Ff fun p hp=>h p.2 (by simp only [Op.operands];simpa using ⟨p.1,by simpa using hp⟩)
 case buildSlice T len ps =>
  simp only [zN]
  rw [A0 fun p hp=>h p.2 (by simp only [Op.operands];simpa using ⟨p.1,by simpa using hp⟩)]
theorem A1 {P:Program} {tt:Table} {o:Oper} {st st':St} {Q:V→Prop} (h:∀ x∈o.op.operands,st.eval x=st'.eval x) (hm:st.mem=st'.mem):ui P tt o st Q=ui P tt o st' Q:=by
 have h0:=Ki (P:=P) (tt:=tt) h hm;unfold ui;rw [h0];split;·rename_i f xs ts heq;rw [heq] at h;have pC:xs.toList.map st.eval=xs.toList.map st'.eval:=j2 fun x hx=>h x (by simp [Op.operands,Call.operands,hx]);have hf:st.eval f=st'.eval f:=h f (by simp [Op.operands,Call.operands]);rw [pC,hf]
 rfl
theorem rb {tt:Table} {o:Oper} {key:Nat} {st st':St} (h:∀ x∈o.op.operands,st.eval x=st'.eval x):iQ tt o key st=iQ tt o key st':=by
 obtain⟨dst,op,type,pos,after,guard⟩:=o;cases op <;> try rfl
 case makeMap t r=>cases r <;> rfl
 case makeSlice t l c=>simp only [iQ];rw [h l (by simp [Op.operands]),h c (by simp [Op.operands])]
 case box T x=>simp only [iQ];rw [h x (by simp [Op.operands])]
 case buildSlice T len ps =>
  simp only [iQ]
  rw [A0 fun p hp=>h p.2 (by simp only [Op.operands];simpa using ⟨p.1,by simpa using hp⟩)]
theorem sK {P:Program} {o:Oper} {ρ ρ':Operand→V} {Q:Nat→List V→Prop} (h:∀ x∈o.op.operands,ρ x=ρ' x):oH P o ρ Q=oH P o ρ' Q:=by
 unfold oH;split;·rename_i f xs ts heq;rw [heq] at h;have pC:xs.toList.map ρ=xs.toList.map ρ':=j2 fun x hx=>h x (by simp [Op.operands,Call.operands,hx]);have hf:ρ f=ρ' f:=h f (by simp [Op.operands,Call.operands]);rw [pC,hf]
 rfl
theorem Kj {P:Program} {tt:Table} {o:Oper} {key:Nat} {st st':St} (h:∀ x∈o.op.operands,st.eval x=st'.eval x) (hm:st.mem=st'.mem):o8 P tt key o st=o8 P tt key o st':=by
 obtain⟨dst,op,type,pos,after,guard⟩:=o;cases op <;> try rfl
 case store T p x=>simp only [o8,hm];rw [h p (by simp [Op.operands]),h x (by simp [Op.operands])]
 case mapUpdate T m k x=>simp only [o8,hm];rw [h m (by simp [Op.operands]),h k (by simp [Op.operands]),h x (by simp [Op.operands])]
 case insert T m k x=>simp only [o8,hm];rw [h m (by simp [Op.operands]),h k (by simp [Op.operands]),h x (by simp [Op.operands])]
 case call c =>
  obtain⟨callee,args,ts⟩:=c
  have pC:args.toList.map st.eval=args.toList.map st'.eval:=j2 fun x hx=>h x (by simp [Op.operands,Call.operands,hx])
  cases callee with
  | builtin b=>cases b <;> simp only [o8,pC,hm]
  | _=>rfl
theorem A2 {tt:Table} {o:Oper} {key:Nat} {st st':St} (h:∀ x∈o.op.operands,st.eval x=st'.eval x) (hm:st.mem=st'.mem):rU tt key o st=rU tt key o st':=by
 obtain⟨dst,op,type,pos,after,guard⟩:=o;cases op <;> try rfl
 case store T p x=>simp only [rU,hm];rw [h p (by simp [Op.operands]),h x (by simp [Op.operands])]
theorem Hm {tt:Table} {o:Oper} {key:Nat} {st:St} {m:List bm} (h:rU tt key o st=some m) :
  ∃ B0 B:bm,B0.dF=0∧B.dF=0∧st.mem[key]?=some B0∧m=st.mem.set key B∧∀ mem:List bm,mem[key]?=some B0→rU tt key o { st with mem:=mem }=some (mem.set key B):=by
 have ev:∀ (mem:List bm) (x:Operand),St.eval { st with mem:=mem } x=st.eval x:=fun mem x=>by cases x <;> rfl
 unfold rU at h ⊢;obtain⟨dst,op,type,pos,after,guard⟩:=o;cases op <;> try (cases h)
 case store T p x =>
  simp only [ev]
  dsimp only at h
  split at h
  ·rename_i b off hp
   split at h
   ·rename_i hb
    subst hb
    unfold nO at h
    split at h
    ·cases h
    rename_i new hn
    split at h
    ·rename_i nh
     dsimp only at h
     split at h
     ·rename_i cs Ev
      split at h
      ·rename_i hle
       cases h
       refine⟨.box cs,.box (kL cs off new),rfl,rfl,Ev,rfl,fun mem hm=>?_⟩
       simp only [hp,if_true]
       unfold nO
       simp only [hn,nh,if_true,hm,hle]
      cases h
     cases h
    cases h
   cases h
  cases h
theorem eval_put {st:St} {dst:Option Tmp} {v:V} {x:Operand} (h:∀ d,dst=some d→x ≠ .tmp d):(st.put dst v).eval x=st.eval x:=by cases dst with|none=>rfl|some d =>cases x with|tmp t =>have cK:d≠t:=fun e=>h d rfl (e ▸ rfl);simp [St.eval,St.put,List.getD,cL cK]|_=>rfl
theorem VR (st:St) (dst:Option Tmp) (v:V):(st.put dst v).mem=st.mem:=by cases dst <;> rfl
theorem C3 {all:Array Oper} {o:Oper} {d:Tmp} (h:d ∉ o.looksAt all):∀ x∈o.op.operands,x ≠ .tmp d:=by rintro x hx rfl;exact h (by unfold Oper.looksAt;exact fH _ (List.mem_filterMap.2 ⟨.tmp d,by simpa using hx,rfl⟩))
theorem Hn {all:Array Oper} {o:Oper} {st:St} {dst:Option Tmp} {v:V} (h:∀ d,dst=some d→d ∉ o.looksAt all):gi all (st.put dst v).fr o=gi all st.fr o:=by cases dst with|none=>rfl|some d =>have hd:=h d rfl;unfold gi;split;(·rfl);rename_i j want hg;split;(·rfl);rename_i e he;(have cK:d≠e:=by rintro rfl;exact hd (by unfold Oper.looksAt;exact gD _ (by rw [hg];simp only [];rw [he];simp)));simp only [St.put,cL cK]
section
variable {P:Program} {tt:Table} {all:Array Oper} {base:Nat}
theorem Ho {o:Oper} {st st':St} (h:∀ x∈o.op.operands,st.eval x=st'.eval x) (hm:st.mem=st'.mem):oI tt o st=oI tt o st':=by
 unfold oI;split;·rename_i T x ho;rw [hm,h x (by rw [ho];simp [Op.operands])]
 rfl
theorem Kk {P:Program} {tt:Table} {o:Oper} {k:Nat} {st st':St} {v:V} {m:List bm} (h:∀ x∈o.op.operands,st.eval x=st'.eval x) (hm:st.mem=st'.mem):Hk P tt o k st v m=Hk P tt o k st' v m:=by
 have hs:=A2 (tt:=tt) (key:=k) h hm;unfold Hk;split;·rename_i f xs ts heq;rw [heq] at h;have pC:xs.toList.map st.eval=xs.toList.map st'.eval:=iq fun x hx=>h x (by simp [Op.operands,Call.operands];exact .inr (by simpa using hx));have hf:st.eval f=st'.eval f:=h f (by simp [Op.operands,Call.operands]);rw [pC,hf,hm]
 rw [hs]
theorem Qo {P:Program} {tt:Table} {o:Oper} {k:Nat} {st:St} {v:V} {m:List bm} (h:Hk P tt o k st v m):∃ B0 B:bm,B0.dF=0∧B.dF=0∧st.mem[k]?=some B0∧m=st.mem.set k B:=by
 unfold Hk at h;split at h;·split at h;(·obtain⟨B0,B,h1,h2,h3,h4,h5⟩:=h;exact⟨B0,B,h1,h2,h3,h5⟩);exact h.elim
 obtain⟨B0,B,h1,h2,h3,h4,-⟩:=Hm h.2;exact⟨B0,B,h1,h2,h3,h4⟩
theorem NV {o:Oper} {p:Pl} {st st':St} {v:V} {m:List bm} (hw:gi all st.fr o=gi all st'.fr o) (h:∀ x∈o.op.operands,st.eval x=st'.eval x) (hm:st.mem=st'.mem) :
  o9 P tt all base o p st v m=o9 P tt all base o p st' v m:=by
 have e1:∀ (mem:List bm) (x:Operand),St.eval { st with mem:=mem } x=st.eval x:=fun mem x=>by cases x <;> rfl
 have e2:∀ (mem:List bm) (x:Operand),St.eval { st' with mem:=mem } x=st'.eval x:=fun mem x=>by cases x <;> rfl
 unfold o9;rw [hw,rb h,Kj h hm,A2 h hm,Ho (st := { st with mem:=eJ (p.mask.map (base + ·)) st.mem }) (st' := { st' with mem:=eJ (p.mask.map (base + ·)) st'.mem }) (fun x hx=>by rw [e1,e2];exact h x hx) (by rw [hm]),Kk h hm,hm];simp only [sK h]
 rw [A1 (st := { st with mem:=[] }) (st' := { st' with mem:=[] }) (fun x hx=>by rw [e1,e2];exact h x hx) rfl,
  A1 (st := { st with mem:=eJ (p.mask.map (base + ·)++p.abs) st'.mem }) (st' := { st' with mem:=eJ (p.mask.map (base + ·)++p.abs) st'.mem }) (fun x hx=>by rw [e1,e2];exact h x hx) rfl]
theorem Mq {o:Oper} {p:Pl} {st:St} {dst:Option Tmp} {u v:V} {m:List bm} (h:∀ d,dst=some d→d ∉ o.looksAt all):o9 P tt all base o p (st.put dst u) v m=o9 P tt all base o p st v m :=
 NV (Hn h) (fun x hx=>eval_put fun d hd=>C3 (h d hd) x hx) (VR _ _ _)
def xQ (all:Array Oper) (x:Oper) (px:Pl) (y:Oper) (py:Pl):Bool :=
 px.cls != .z&&py.cls != .z&&x.apart all y&&(px.cls == .n||py.cls == .n||(px.cls == .r&&py.cls == .r)||((px.cls == .a||px.cls == .s)&&py.cls == .r&&py.mask.contains px.key)||(px.cls == .r&&(py.cls == .a||py.cls == .s)&&px.mask.contains py.key)||((px.cls == .a||px.cls == .s)&&(py.cls == .a||py.cls == .s)&&px.key != py.key)||(px.cls == .b&&(py.cls == .r||py.cls == .b||(py.cls == .w&&isApp y)||(py.cls == .a&&sH y)))||(py.cls == .b&&(px.cls == .r||(px.cls == .w&&isApp x)||(px.cls == .a&&sH x)))||(px.cls == .e&&py.cls == .r&&py.abs.contains px.key)||(px.cls == .r&&py.cls == .e&&px.abs.contains py.key)||(px.cls == .b&&(py.cls == .a||py.cls == .s)&&px.mask.contains py.key)||(py.cls == .b&&(px.cls == .a||px.cls == .s)&&py.mask.contains px.key)||(px.cls == .w&&isApp x&&py.cls == .a && !sH y&&px.key != py.key)||(py.cls == .w&&isApp y&&px.cls == .a && !sH x&&px.key != py.key))
theorem Kl {o:Oper} {key:Nat} {st:St} {B:bm} {v:V} (h:iQ tt o key st=some (B,v)):B.dF=0:=by
 unfold iQ at h;split at h;·split at h <;> cases h <;> rfl
 ·split at h <;> cases h <;> rfl
 ·split at h <;> cases h <;> rfl
 ·cases h;rfl
 ·split at h <;> cases h <;> rfl
 cases h
theorem xR {o:Oper} {p:Pl} (hp:p.cls = .n) {st:St} {v:V} {m:List bm} (h:o9 P tt all base o p st v m) (mem:List bm):m=st.mem∧o9 P tt all base o p { st with mem:=mem } v mem:=by
 unfold o9 at h ⊢;dsimp only;split at h;·rename_i hw;rw [hp] at h;simp only [hw,hp];exact⟨h.2,h.1,trivial⟩
 ·rename_i hw;simp only [hw];exact⟨h.2,h.1,trivial⟩
 exact h.elim
theorem iB {o:Oper} {p:Pl} (hp:p.cls = .r) {st:St} {v:V} {m:List bm} (h:o9 P tt all base o p st v m) {mem:List bm} (hm:eJ (p.mask.map (base + ·)++p.abs) mem=eJ (p.mask.map (base + ·)++p.abs) st.mem) :
  m=st.mem∧o9 P tt all base o p { st with mem:=mem } v mem:=by
 unfold o9 at h ⊢;dsimp only;split at h;·rename_i hw;rw [hp] at h;simp only [hw,hp];exact⟨h.2,by rw [hm];exact h.1,trivial⟩
 ·rename_i hw;simp only [hw];exact⟨h.2,h.1,trivial⟩
 exact h.elim
theorem oi {o:Oper} {p:Pl} (hp:p.cls = .a∨p.cls = .s) {st:St} {v:V} {m:List bm} (h:o9 P tt all base o p st v m) :
  (m=st.mem∧∀ mem,o9 P tt all base o p { st with mem:=mem } v mem) ∨
  ∃ B0 B:bm,B0.dF=0∧B.dF=0∧st.mem[base+p.key]?=some B0∧m=st.mem.set (base+p.key) B∧∀ mem:List bm,mem[base+p.key]?=some B0→o9 P tt all base o p { st with mem:=mem } v (mem.set (base+p.key) B):=by
 unfold o9 at h;split at h;·rename_i hw;(rcases hp with hp|hp);(·rw [hp] at h;obtain⟨h1,B,h2,h3⟩:=h;(have ad9:B.dF=0:=by (rcases h2 with h2|⟨-,h2⟩);(·exact Kl h2);obtain⟨e,rs,-,h5,-⟩:=oh.1 h2;rw [h5];rfl);refine .inr ⟨.hole,B,rfl,ad9,iR.1 h1,h3,fun mem hm=>?_⟩;unfold o9;simp only [hw,hp];refine⟨iR.2 hm,B,?_,rfl⟩;(have e0:iQ tt o (base+p.key) { st with mem:=mem }=iQ tt o (base+p.key) st:=rb fun x _=>by cases x <;> rfl);rw [e0];(have e1:∀ Q,oH P o (St.eval { st with mem:=mem }) Q=oH P o st.eval Q:=fun Q=>sK fun x _=>by cases x <;> rfl);rw [e1];exact h2);rw [hp] at h;obtain⟨h1,h2⟩:=h;obtain⟨B0,B,h3,h4,h5,h6,h7⟩:=Hm h2;refine .inr ⟨B0,B,h3,h4,h5,h6,fun mem hm=>?_⟩;unfold o9;simp only [hw,hp];exact⟨h1,h7 mem hm⟩
 ·rename_i hw;refine .inl ⟨h.2,fun mem=>?_⟩;unfold o9;simp only [hw];exact⟨h.1,trivial⟩
 exact h.elim
theorem DC {o:Oper} {p:Pl} (hp:p.cls = .e) {st:St} {v:V} {m:List bm} (h:o9 P tt all base o p st v m) :
  m=st.mem∨∃ B0 B:bm,B0.dF=0∧B.dF=0∧st.mem[p.key]?=some B0∧m=st.mem.set p.key B:=by
 unfold o9 at h;split at h;·rw [hp] at h;exact .inr (Qo h)
 ·exact .inl h.2
 exact h.elim
theorem qo {o:Oper} {p:Pl} (hp:p.cls = .b) {st:St} {v:V} {m:List bm} (h:o9 P tt all base o p st v m) :
  m=st.mem∧∀ mem:List bm,(eJ (p.mask.map (base + ·)) mem).map eY=(eJ (p.mask.map (base + ·)) st.mem).map eY→o9 P tt all base o p { st with mem:=mem } v mem:=by
 unfold o9 at h ⊢;dsimp only;split at h;·rename_i hw;rw [hp] at h;simp only [hw,hp];refine⟨h.2,fun mem hm=>⟨?_,trivial⟩⟩;have h1:=h.1;unfold oI at h1 ⊢;split at h1;(·rename_i T x ho;(have e:St.eval { st with mem:=eJ (p.mask.map (base + ·)) mem } x=St.eval { st with mem:=eJ (p.mask.map (base + ·)) st.mem } x:=by cases x <;> rfl);show qf tt ((eJ (p.mask.map (base + ·)) mem).map eY) T (St.eval { st with mem:=eJ (p.mask.map (base + ·)) mem } x)=some v;rw [hm,e];exact h1);cases h1
 ·rename_i hw;simp only [hw];exact⟨h.2,fun _ _=>⟨h.1,trivial⟩⟩
 exact h.elim
theorem DD {o:Oper} {p:Pl} (hp:p.cls = .w) (ha:isApp o=true) {st:St} {v:V} {m:List bm} (h:o9 P tt all base o p st v m):m.map eY=st.mem.map eY:=by
 unfold o9 at h;split at h;·rw [hp] at h;exact Qm ha (iR.1 h.1) h.2
 ·rw [h.2]
 exact h.elim
theorem A3 {o:Oper} {p:Pl} (hp:p.cls = .a) (ha:sH o=true) {st:St} {v:V} {m:List bm} (h:o9 P tt all base o p st v m):m.map eY=st.mem.map eY:=by
 unfold o9 at h;split at h;·rw [hp] at h;obtain⟨h1,B,h2,rfl⟩:=h;(have hB:eY B = .dead:=by (rcases h2 with h2|⟨-,h2⟩);(·unfold iQ at h2;unfold sH at ha;split at h2;(·rename_i he;rw [he] at ha;cases ha);(·rename_i he;rw [he] at ha;cases ha);(·split at h2 <;> cases h2;rfl);(·cases h2;rfl);(·split at h2 <;> cases h2;rfl);cases h2);obtain⟨e,rs,-,h5,-⟩:=oh.1 h2;rw [h5];rfl);have hh:=iR.1 h1;apply dq;intro q;rw [ae,ae,bK];split;(·rename_i hq;subst hq;rw [if_pos (aq.1 hh).1,hh,aC,aC,hB];rfl);rfl
 ·rw [h.2]
 exact h.elim
theorem Km {mem:List bm} {q:Nat} {cs:List V} (hq:mem[q]?=some .hole) (n:Nat) (v:V):rowsOf (mem.set q (.box cs)) n v=rowsOf mem n v:=by cases v with|ms b dF s l =>simp only [rowsOf];by_cases hb:q=b;(·subst hb;rw [hq,asP (aq.1 hq).1]);rw [cL hb]|sc w=>unfold rowsOf;split <;> (try split) <;> simp_all|_=>rfl
theorem Fg {mem:List bm} {q:Nat} {cs:List V} (hq:mem[q]?=some .hole) (n:Nat) (v:V):mf (mem.set q (.box cs)) n v=mf mem n v:=by cases v with|ms b dF s l =>(cases s with|zero =>simp only [mf];by_cases hb:q=b;(·subst hb;rw [hq,asP (aq.1 hq).1]);rw [cL hb]|succ s=>rfl)|sc w=>unfold mf;split <;> (try split) <;> simp_all|_=>rfl
theorem Hp {tt:Table} {mem:List bm} {q:Nat} {cs:List V} (hq:mem[q]?=some .hole) (ts:List TypeId) (s x:V):gE tt (mem.set q (.box cs)) ts s x=gE tt mem ts s x:=by unfold gE;simp only [Km hq,Fg hq]
theorem Hq {P:Program} {tt:Table} {key q:Nat} {cs:List V} {o:Oper} {st:St} (ha:isApp o=true) (hk:st.mem[key]?=some .hole) (hq:st.mem[q]?=some .hole) (cK:key≠q) :
  o8 P tt key o { st with mem:=st.mem.set q (.box cs) }=(o8 P tt key o st).map fun p=>(p.1.set q (.box cs),p.2):=by
 unfold isApp at ha;split at ha;·rename_i xs ts ho;unfold o8;simp only [ho];(have em:xs.toList.map (St.eval { st with mem:=st.mem.set q (.box cs) })=xs.toList.map st.eval:=iq fun x _=>by cases x <;> rfl);rw [em];split;(·rename_i s x hl;rw [Hp hq];cases C2:gE tt st.mem ts.toList s x with|none=>rfl|some r =>obtain⟨size,sr,rows⟩:=r;cases sr with|none =>simp only [fu,aC];unfold dn;rw [mO,if_pos (aq.1 hk).1,if_pos (aq.1 hk).1,asQ _ _ cK]|some p =>obtain⟨b,dF⟩:=p;obtain⟨e,rs,hb⟩:=sI C2;(have hbq:b≠q:=fun e=>by subst e;rw [hq] at hb;cases hb);simp only [fu,aC];rw [asQ _ _ hbq]);rfl
 cases ha
theorem DE {P:Program} {tt:Table} {key q:Nat} {o:Oper} {st:St} {m:List bm} {v:V} (ha:isApp o=true) (hk:st.mem[key]?=some .hole) (cK:key≠q) (h:o8 P tt key o st=some (m,v)):m[q]?=some .hole↔st.mem[q]?=some .hole:=by
 unfold isApp at ha;split at ha;·rename_i xs ts ho;unfold o8 at h;simp only [ho] at h;split at h;(·split at h;(·rename_i size sr rows C2;simp only [aB] at h;cases sr with|none =>simp only [fu,dE] at h;obtain⟨rfl,-⟩:=h;unfold dn;rw [if_pos (aq.1 hk).1,cL cK]|some p =>obtain⟨b,dF⟩:=p;obtain⟨e,rs,hb⟩:=sI C2;simp only [fu,dE] at h;obtain⟨rfl,-⟩:=h;by_cases hbq:b=q;(·subst hbq;rw [asP (aq.1 hb).1,hb];exact⟨fun h=>(by cases h),fun h=>(by cases h)⟩);rw [cL hbq]);cases h);cases h
 cases ha
theorem A4 {o:Oper} {p:Pl} (hp:p.cls = .a) (hb:sH o=false) {st:St} {v:V} {m:List bm} (h:o9 P tt all base o p st v m) :
  (m=st.mem∧∀ mem,o9 P tt all base o p { st with mem:=mem } v mem) ∨
  (st.mem[base+p.key]?=some .hole∧∃ cs,m=st.mem.set (base+p.key) (.box cs)∧∀ mem:List bm,mem[base+p.key]?=some .hole→o9 P tt all base o p { st with mem:=mem } v (mem.set (base+p.key) (.box cs))):=by
 unfold o9 at h;split at h;·rename_i hw;rw [hp] at h;obtain⟨h1,B,h2,h3⟩:=h;(have hB:∃ cs,B = .box cs:=by (rcases h2 with h2|⟨-,h2⟩);(·unfold iQ at h2;unfold sH at hb;split at hb;(·rename_i he;rw [he] at h2;dsimp only at h2;split at h2 <;> cases h2;exact⟨_,rfl⟩);(·rename_i he;rw [he] at h2;dsimp only at h2;split at h2 <;> cases h2;exact⟨_,rfl⟩);cases hb);unfold sH at hb;unfold oH at h2;split at hb;(·rename_i he;rw [he] at h2;exact h2.elim);(·rename_i he;rw [he] at h2;exact h2.elim);cases hb);obtain⟨cs,rfl⟩:=hB;refine .inr ⟨iR.1 h1,cs,h3,fun mem hm=>?_⟩;unfold o9;simp only [hw,hp];refine⟨iR.2 hm,_,?_,rfl⟩;(have e0:iQ tt o (base+p.key) { st with mem:=mem }=iQ tt o (base+p.key) st:=rb fun x _=>by cases x <;> rfl);rw [e0];(have e1:∀ Q,oH P o (St.eval { st with mem:=mem }) Q=oH P o st.eval Q:=fun Q=>sK fun x _=>by cases x <;> rfl);rw [e1];exact h2
 ·rename_i hw;refine .inl ⟨h.2,fun mem=>?_⟩;unfold o9;simp only [hw];exact⟨h.1,trivial⟩
 exact h.elim
theorem A5 {o:Oper} {p:Pl} (hp:p.cls = .w) {st:St} {v:V} {m:List bm} (h:o9 P tt all base o p st v m) :
  (m=st.mem∧∀ mem,o9 P tt all base o p { st with mem:=mem } v mem) ∨
  (st.mem[base+p.key]?=some .hole∧o8 P tt (base+p.key) o st=some (m,v)∧∀ mem m',mem[base+p.key]?=some .hole→o8 P tt (base+p.key) o { st with mem:=mem }=some (m',v)→o9 P tt all base o p { st with mem:=mem } v m'):=by
 unfold o9 at h;split at h;·rename_i hw;rw [hp] at h;refine .inr ⟨iR.1 h.1,h.2,fun mem m' h1 h2=>?_⟩;unfold o9;simp only [hw,hp];exact⟨iR.2 h1,h2⟩
 ·rename_i hw;refine .inl ⟨h.2,fun mem=>?_⟩;unfold o9;simp only [hw];exact⟨h.1,trivial⟩
 exact h.elim
theorem St.put_comm (st:St) {x y:Option Tmp} (v u:V) (h:∀ d,x=some d→y≠some d):(st.put x v).put y u=(st.put y u).put x v:=by cases x with|none=>rfl|some d =>cases y with|none=>rfl|some e =>have cK:d≠e:=fun he=>h d rfl (he ▸ rfl);simp [St.put,asQ _ _ cK]
theorem Hr (st:St) (x:Option Tmp) (v:V) (m:List bm) : { st.put x v with mem:=m }=St.put { st with mem:=m } x v:=by cases x <;> rfl
theorem Kn {x y:Oper} {px py:Pl} (fF:xQ all x px y py=true) {st:St} {Q:St→Prop} (h:fC P tt all base x px st fun st'=>fC P tt all base y py st' Q) :
  fC P tt all base y py st fun st'=>fC P tt all base x px st' Q:=by
 unfold xQ at fF;rw [aD,aD,aD] at fF;obtain⟨⟨⟨PF,hzy⟩,C2⟩,pO⟩:=fF;have PF:px.cls ≠ .z:=by simpa using PF
 have hzy:py.cls ≠ .z:=by simpa using hzy
 obtain⟨hxy,Qp,hyx⟩:=Oper.apart_spec C2;obtain⟨v,m1,h1,h2⟩:=(j1 PF).1 h;obtain⟨u,m2,h3,h4⟩:=(j1 hzy).1 h2;rw [Mq hxy] at h3;have fin:∀ m1' , o9 P tt all base y py st u m1'→o9 P tt all base x px { st with mem:=m1' } v m2→fC P tt all base y py st fun st'=>fC P tt all base x px st' Q:=fun m1' h5 h6=>by refine (j1 hzy).2 ⟨u,m1',h5,(j1 PF).2 ⟨v,m2,by rw [Mq hyx];exact h6,?_⟩⟩;(have e1:({ (St.put { st with mem:=m1 } x.dst v) with mem:=m2 }:St).put y.dst u=({ (St.put { st with mem:=m1' } y.dst u) with mem:=m2 }:St).put x.dst v:=by rw [Hr,Hr];exact St.put_comm _ _ _ Qp);rw [← e1];exact h4
 have back:∀ (m:List bm) (z:Oper) (pz:Pl) (c:V) (m':List bm),o9 P tt all base z pz { ({ st with mem:=m }:St) with mem:=st.mem } c m'=o9 P tt all base z pz st c m':=fun _ _ _ _ _=>rfl;simp only [qb,aD,beq_iff_eq,bne_iff_ne] at pO;rcases pO with ((((((((((((hn|hn)|⟨hr,Gy⟩)|⟨⟨ha,hr⟩,hm⟩)|⟨⟨hr,ha⟩,hm⟩)|⟨⟨ha,ha'⟩,cK⟩)|⟨hb,hy⟩)|⟨hb,hx⟩)|⟨⟨he,hr⟩,hm⟩)|⟨⟨hr,he⟩,hm⟩)|⟨⟨hb,ha⟩,hm⟩)|⟨⟨hb,ha⟩,hm⟩)|⟨⟨⟨⟨hw,C2⟩,ha⟩,qM⟩,cK⟩)|⟨⟨⟨⟨hw,C2⟩,ha⟩,qM⟩,cK⟩
 ·obtain⟨rfl,-⟩:=xR hn h1 [];exact fin m2 h3 (xR hn h1 m2).2
 ·obtain⟨h5,h6⟩:=xR hn h3 st.mem;dsimp only at h5;subst h5;exact fin st.mem h6 h1
 ·obtain⟨rfl,-⟩:=iB hr h1 rfl;obtain⟨h5,h6⟩:=iB Gy h3 (mem:=st.mem) rfl;dsimp only at h5;subst h5;exact fin st.mem h6 h1
 ·(rcases oi ha h1 with ⟨rfl,-⟩|⟨B0,B,J6,hv,hh,rfl,-⟩);(·obtain⟨h5,h6⟩:=iB hr h3 (mem:=st.mem) rfl;dsimp only at h5;subst h5;exact fin st.mem h6 h1);have Gz:eJ (py.mask.map (base + ·)++py.abs) (st.mem.set (base+px.key) B)=eJ (py.mask.map (base + ·)++py.abs) st.mem:=og (fH _ (dr.2 ⟨_,by simpa using hm,rfl⟩)) hh J6 hv;obtain⟨h5,h6⟩:=iB hr h3 (mem:=st.mem) Gz.symm;dsimp only at h5;subst h5;exact fin st.mem h6 h1
 ·obtain⟨rfl,-⟩:=iB hr h1 rfl;(rcases oi ha h3 with ⟨h5,h6⟩|⟨B0,B,J6,hv,hh,h5,h6⟩);(·dsimp only at h5;subst h5;exact fin st.mem h3 h1);dsimp only at h5 hh;subst h5;have Gz:eJ (px.mask.map (base + ·)++px.abs) (st.mem.set (base+py.key) B)=eJ (px.mask.map (base + ·)++px.abs) st.mem:=og (fH _ (dr.2 ⟨_,by simpa using hm,rfl⟩)) hh J6 hv;exact fin _ h3 (iB hr h1 Gz).2
 ·(rcases oi ha h1 with ⟨rfl,hx⟩|⟨B0,B,J6,hv,hh,rfl,hx⟩);(·exact fin m2 h3 (hx m2));(rcases oi ha' h3 with ⟨h5,h6⟩|⟨B0',B',aqw,As,U3,h5,h6⟩);(·dsimp only at h5;subst h5;exact fin st.mem (h6 st.mem) h1);dsimp only at h5 U3;subst h5;(have PR:base+px.key≠base+py.key:=by omega);rw [cL PR] at U3;have h7:=h6 st.mem U3;have h8:=hx (st.mem.set (base+py.key) B') (by rw [cL (fun e=>PR e.symm)];exact hh);refine fin _ h7 ?_;rw [asQ _ _ PR];exact h8
 ·obtain⟨rfl,h5⟩:=qo hb h1;refine fin m2 h3 (h5 m2 (DB ?_));(rcases hy with ((hy|hy)|⟨hy,ha⟩)|⟨hy,ha⟩);(·rw [(iB hy h3 rfl).1]);(·rw [(qo hy h3).1]);(·exact DD hy ha h3);exact A3 hy ha h3
 ·obtain⟨h5,h6⟩:=qo hb h3;dsimp only at h5;subst h5;refine fin st.mem (h6 st.mem (DB ?_)) h1;(rcases hx with (hx|⟨hx,ha⟩)|⟨hx,ha⟩);(·rw [(iB hx h1 rfl).1]);(·exact (DD hx ha h1).symm);exact (A3 hx ha h1).symm
 ·(rcases DC he h1 with rfl|⟨B0,B,J6,hv,hh,rfl⟩);(·obtain⟨h5,h6⟩:=iB hr h3 (mem:=st.mem) rfl;dsimp only at h5;subst h5;exact fin st.mem h6 h1);have Gz:eJ (py.mask.map (base + ·)++py.abs) (st.mem.set px.key B)=eJ (py.mask.map (base + ·)++py.abs) st.mem:=og (gD _ (by simpa using hm)) hh J6 hv;obtain⟨h5,h6⟩:=iB hr h3 (mem:=st.mem) Gz.symm;dsimp only at h5;subst h5;exact fin st.mem h6 h1
 ·obtain⟨rfl,-⟩:=iB hr h1 rfl;(rcases DC he h3 with h5|⟨B0,B,J6,hv,hh,h5⟩);(·dsimp only at h5;subst h5;exact fin st.mem h3 h1);dsimp only at h5 hh;subst h5;have Gz:eJ (px.mask.map (base + ·)++px.abs) (st.mem.set py.key B)=eJ (px.mask.map (base + ·)++px.abs) st.mem:=og (gD _ (by simpa using hm)) hh J6 hv;exact fin _ h3 (iB hr h1 Gz).2
 ·obtain⟨rfl,h5⟩:=qo hb h1;(rcases oi ha h3 with ⟨h6,-⟩|⟨B0,B,J6,hv,hh,h6,-⟩);(·dsimp only at h6;subst h6;exact fin st.mem h3 h1);dsimp only at h6 hh;subst h6;refine fin _ h3 (h5 _ ?_);rw [og (dr.2 ⟨_,by simpa using hm,rfl⟩) hh J6 hv]
 ·obtain⟨h5,h6⟩:=qo hb h3;dsimp only at h5;subst h5;(rcases oi ha h1 with ⟨rfl,-⟩|⟨B0,B,J6,hv,hh,rfl,-⟩);(·exact fin st.mem h3 h1);refine fin st.mem (h6 st.mem ?_) h1;dsimp only;rw [og (dr.2 ⟨_,by simpa using hm,rfl⟩) hh J6 hv]
 ·(have qM:sH y=false:=by simpa using qM);(have hk:base+px.key≠base+py.key:=by omega);(rcases A4 ha qM h3 with ⟨h5,h6⟩|⟨hq,cs,h5,h6⟩);(·dsimp only at h5;subst h5;exact fin st.mem (h6 st.mem) h1);dsimp only at h5 hq;subst h5;(rcases A5 hw h1 with ⟨rfl,h7⟩|⟨hh,h7,h8⟩);(·exact fin _ (h6 _ hq) (h7 _));have hq0:=(DE C2 hh hk h7).1 hq;refine fin _ (h6 st.mem hq0) (h8 _ _ (by rw [cL (fun e=>hk e.symm)];exact hh) ?_);rw [Hq C2 hh hq0 hk,h7];rfl
 have qM:sH x=false:=by simpa using qM
 have hk:base+py.key≠base+px.key:=by omega
 rcases A4 ha qM h1 with ⟨rfl,h6⟩|⟨hq,cs,rfl,h6⟩
 ·exact fin m2 h3 (h6 m2)
 rcases A5 hw h3 with ⟨h5,h7⟩|⟨hh,h7,h8⟩
 ·dsimp only at h5;subst h5;exact fin st.mem (h7 st.mem) h1
 dsimp only at hh h7;rw [cL (fun e=>hk e.symm)] at hh;rw [Hq C2 hh hq hk] at h7;cases h9:o8 P tt (base+py.key) y st with|none=>rw [h9] at h7;cases h7|some r =>obtain⟨m',u'⟩:=r;rw [h9] at h7;simp only [aC,aB,dE] at h7;obtain⟨rfl,rfl⟩:=h7;refine fin m' (h8 st.mem m' hh h9) (h6 m' ((DE C2 hh hk h9).2 hq))
end
end Go.Eng
end
section
namespace Go.Eng
variable [bk]
open Go.RowKit (Below)
theorem tJ {mem:List bm} {size:Nat} {l:Int} {h:Option Int} {x v:V} (hc:cutAt [] size l h x=some v):cutAt mem size l h x=some v:=by
 unfold cutAt at hc ⊢;split at hc;·exact hc
 ·simp [mR] at hc
 cases hc
theorem Qq {P:Program} {tt:Table} {mem:List bm} {T:TypeId} {x v:V} {lo hi:Option V} (hc:EB P tt [] T x lo hi=some v):EB P tt mem T x lo hi=some v:=by
 unfold EB at hc ⊢;split;·exact hc
 rename_i cK;split at hc;·exact absurd rfl (cK _)
 split at hc;·cases hc
 split at hc;·cases hc
 split at hc;·split at hc;(·exact tJ hc);split at hc;(·exact tJ hc);cases hc
 split at hc;·cases hc
 split at hc;·exact tJ hc
 split at hc;·exact tJ hc
 cases hc
theorem NW {tt:Table} {mem:List bm} {T:TypeId} {p v:V} (h:qf tt [] T p=some v):qf tt mem T p=some v:=by cases p <;> simp [qf,rowOf] at h ⊢;exact h
theorem Ko {tt:Table} {mem:List bm} {T:TypeId} {p i v:V} (h:oB tt [] T p i=some v):oB tt mem T p i=some v:=by
 unfold oB at h ⊢;split at h;·split at h;(·split at h;(·cases p <;> simp [indexAt,mR] at h ⊢;exact h);cases h);cases h
 cases h
theorem Kp {tt:Table} {mem:List bm} {T:TypeId} {b o:Nat} {i:V}:oB tt mem T (.ptr b o) i=none:=by
 unfold oB;split;·split;(·split <;> rfl);rfl
 rfl
theorem Kq {P:Program} {tt:Table} {mem:List bm} {T:TypeId} {p i v:V} (h:(match oB tt [] T p i with|some v=>some v|none=>Ax P tt T p i)=some v):(match oB tt mem T p i with|some v=>some v|none=>Ax P tt T p i)=some v:=by
 split at h;·rename_i u hu;cases h;rw [Ko hu]
 have hp:∃ b o,p = .ptr b o:=by unfold Ax at h;split at h;(·exact⟨_,_,rfl⟩);cases h
 obtain⟨b,o,rfl⟩:=hp;rw [Kp];exact h
theorem Hs {P:Program} {mem:List bm} {T:TypeId} {m i v:V} {ok:Bool} (h:kK P [] T m i ok=some v):kK P mem T m i ok=some v:=by
 unfold kK at h ⊢;split at h;·split at h;(·split at h;(·rename_i hk;rw [if_pos hk];unfold qh at h ⊢;split at h;(·simp at h);(·exact h);cases h);cases h);cases h
 cases h
theorem Qr {mem:List bm} {it v:V} (h:ND [] it=some v):ND mem it=some v:=by
 unfold ND at h;split at h;·simp at h
 cases h
theorem Qs {P:Program} {tt:Table} {mem:List bm} {ts:Array TypeId} {ty:TypeId} {xs:List V} {v:V} (h:(match xz [] ts P xs with|some v=>some v|none=>ED P tt ts ty xs)=some v) :
  (match xz mem ts P xs with|some v=>some v|none=>ED P tt ts ty xs)=some v:=by
 by_cases hx:∃ b,xs=[.mp b];·obtain⟨b,rfl⟩:=hx;simp [xz,ED,iH,pP,fI] at h
 have hn:∀ m,xz m ts P xs=none:=fun m=>by unfold xz;split;(·exact absurd ⟨_,rfl⟩ hx);rfl
 rw [hn] at h ⊢;exact h
theorem NY (st:St) (mem:List bm) (x:Operand):St.eval { st with mem:=mem } x=st.eval x:=by cases x <;> rfl
theorem fY (st:St) (mem:List bm):St.eval { st with mem:=mem }=st.eval:=funext fun x=>NY st mem x
theorem NZ {P:Program} {mem:List bm} {s d:TypeId} {x v:V} (h:vJ P [] s d x=some v):vJ P mem s d x=some v:=by cases x <;> first|exact h|(simp [vJ] at h)
theorem VS {P:Program} {tt:Table} {st:St} {o:Oper} {v:V} (h:mC P tt { st with mem:=[] } o=some v):mC P tt st o=some v:=by
 obtain⟨dst,op,type,pos,after,guard⟩:=o;cases op;case load T x=>simp only [mC,fY] at h ⊢;exact NW h
 case indexAddr T x i=>simp only [mC,fY] at h ⊢;exact Kq h
 case entry it=>simp only [mC,fY] at h ⊢;exact Qr h
 case convert s d x=>simp only [mC,fY] at h ⊢;exact NZ h
 case lookup T x i ok=>simp only [mC,fY] at h ⊢;exact Hs h
 case slice T x lo hi mx =>
  cases mx
  ·simp only [mC,fY] at h ⊢;exact Qq h
  cases lo <;> cases hi <;> simp only [mC,fY,reduceCtorEq] at h ⊢
  exact h
 case call c =>
  obtain⟨callee,args,ts⟩:=c
  cases callee with
  | builtin b=>cases b <;> first|(simp only [mC,fY] at h ⊢;exact h)|(simp only [mC,fY] at h ⊢;exact Qs h)|(simp [mC] at h)
  | _=>simp [mC] at h
 all_goals first|(simp only [mC,fY] at h ⊢;exact h)|(simp [mC] at h)
theorem yV {mem:List bm} {v v':V} (h:dk [] v=some v'):dk mem v=some v'∧lB v=[]:=by
 unfold dk at h;split at h;·exact⟨h,rfl⟩
 ·exact⟨h,rfl⟩
 ·exact⟨h,rfl⟩
 ·exact⟨h,rfl⟩
 ·exact⟨h,rfl⟩
 ·exact⟨h,rfl⟩
 ·simp at h
 ·exact⟨h,rfl⟩
 cases h
theorem vZ {mem:List bm}:∀ {vs vs':List V},iK [] vs=some vs'→iK mem vs=some vs'∧vs.flatMap lB=[]
 | [],vs',h=>⟨h,rfl⟩
 | c :: r,vs',h=>by
  simp only [iK] at h ⊢
  split at h
  ·rename_i c' hc
   split at h
   ·rename_i r' hr
    obtain⟨h1,h2⟩:=yV (mem:=mem) hc
    obtain⟨h3,h4⟩:=vZ (mem:=mem) hr
    rw [h1,h3]
    exact⟨h,by simp [jx,h2,h4]⟩
   cases h
  cases h
theorem Qt {mem:List bm} {v v':V} (h:gH [] v=some v'):gH mem v=some v'∧fg v=[]:=by
 unfold gH at h;split at h;·rename_i cs;split at h;(·rename_i l hl;obtain⟨h1,h2⟩:=vZ (mem:=mem) hl;exact⟨by simp only [gH,h1];exact h,h2⟩);cases h
 rename_i cK;obtain⟨h1,h2⟩:=yV (mem:=mem) h;exact⟨by cases v <;> first|exact h1|exact absurd rfl (cK _),by cases v <;> first|exact h2|exact absurd rfl (cK _)⟩
theorem v7 {mem:List bm}:∀ {vs vs':List V},fw [] vs=some vs'→fw mem vs=some vs'∧vs.flatMap fg=[]
 | [],vs',h=>⟨h,rfl⟩
 | c :: r,vs',h=>by
  simp only [fw] at h ⊢
  split at h
  ·rename_i c' hc
   split at h
   ·rename_i r' hr
    obtain⟨h1,h2⟩:=Qt (mem:=mem) hc
    obtain⟨h3,h4⟩:=v7 (mem:=mem) hr
    rw [h1,h3]
    exact⟨h,by simp [jx,h2,h4]⟩
   cases h
  cases h
theorem rO {v v':V} (h:dk [] v=some v') {E:Env} {x:Value} (hr:cV E v x):cV E v' x:=by
 unfold dk at h;split at h;·cases h;exact hr
 ·cases h;exact qj hr
 ·cases h;exact hr
 ·cases h;cases hr with|full _ _ _ h=>exact h
 ·cases h;exact hr
 ·cases h;exact hr
 ·simp at h
 ·cases h;cases hr with|dU _ f _ _ xs ys hx hy h1 h2 =>(have e1:xs = #[]:=by simpa using hx.symm);(have e2:ys = #[]:=by simpa using hy.symm);subst e1;subst e2;exact .sc _ _
 cases h
theorem qp {E:Env}:∀ {vs vs':List V} {xs:List Value},iK [] vs=some vs'→cJ E vs xs→cJ E vs' xs
 | [],vs',xs,h,hr=>by cases h;exact hr
 | c :: r,vs',xs,h,hr=>by
  obtain⟨x,ys,rfl,h1,h2⟩:=hr.of_cons
  simp only [iK] at h
  split at h
  ·rename_i c' hc
   split at h
   ·rename_i r' Gy
    cases h
    exact .cons (rO hc h1) (qp Gy h2)
   cases h
  cases h
theorem Fh {v v':V} (h:gH [] v=some v') {E:Env} {x:Value} (hr:cV E v x):cV E v' x:=by
 unfold gH at h;split at h;·rename_i cs;split at h;(·rename_i l hl;cases h;cases hr with|agg _ _ xs hlen hh =>have:=qp hl (E:=E) (xs:=xs.toList) ⟨by simpa using hlen,fun i c x hc hx=>hh i c x hc (by simpa using hx)⟩;exact .agg _ _ _ (by simpa using this.1) fun i c x hc hx=>this.2 i c x hc (by simpa using hx));cases h
 exact rO h hr
theorem v8 {E:Env}:∀ {vs vs':List V} {xs:List Value},fw [] vs=some vs'→cJ E vs xs→cJ E vs' xs
 | [],vs',xs,h,hr=>by cases h;exact hr
 | c :: r,vs',xs,h,hr=>by
  obtain⟨x,ys,rfl,h1,h2⟩:=hr.of_cons
  simp only [fw] at h
  split at h
  ·rename_i c' hc
   split at h
   ·rename_i r' Gy
    cases h
    exact .cons (Fh hc h1) (v8 Gy h2)
   cases h
  cases h
theorem re (mem:List bm) (r:V):gv mem [] r=mem:=by unfold gv;split <;> rfl
theorem yS.hole {P:Program} {f:FuncId} {vs vs':List V} {e:Nat} {rs:List V} (hp:fw [] vs=some vs') (h:yS P f vs' e rs) {mem:List bm} {key:Nat} (fQ:mem[key]?=some .hole) :
  bw P f vs mem (.ms key 0 0 rs.length) (mem.set key (.rows 0 e rs)):=by
 obtain⟨v0,h⟩:=h;refine⟨h.1,fun E w xs hs hx=>?_⟩;obtain⟨Yb,hk⟩:=v7 (mem:=mem) hp;have h1:=mS hs (keys:=[]) hx Yb (by rw [hk];simp);have hE:(E.qL w []).pure=⟨E.F,fun _ _=>none,E.gl⟩:=by refine Env.NA (funext fun ad=>?_) rfl;simp only [Env.pure,Env.qL];cases hh:E.F ad <;> simp
 rw [hE] at h1;have Mr:key<mem.length:=(aq.1 fQ).1;have mh:∀ v,E.cw key v=none:=hs.mem key _ fQ;have uP:cY ⟨E.F,fun _ _=>none,E.gl⟩ w { tmps := #[],defers:=[] } { fr:=[],mem:=[] } := ⟨hs.F,(fun k v g e c h=>by cases h),(fun k B h=>by simp at h),(fun k _ v=>rfl),(fun k B h=>by simp at h),(fun k k' v v' g e c e' c' h=>by cases h),.nil _⟩;refine (h.2 _ w xs uP h1).mono ?_;rintro en w' ⟨E',x,rfl,iz,qc,hr⟩;have pQ:∀ k v g e c,E'.cw k v=some (g,e,c)→w.heap.size≤g:=fun k v g e c hb=>by (rcases iz.cw _ _ _ _ _ hb with ⟨_,_,_,_,h⟩|h);(·cases h);exact h
 have hold:∀ b,b<w.heap.size→w'.heap[b]?=w.heap[b]?:=fun b hb=>iz.heap b hb fun _ _ _ _ h=>by cases h
 have hFo:∀ ad y,E'.F ad=some y→E.F ad=some y∨w.heap.size≤ad.block:=fun ad y hy=>by (rcases iz.F _ _ hy with h|h|⟨_,_,_,_,h⟩);(·exact .inl h);(·exact .inr h);cases h
 have N0:(⟨E'.F,fun k v=>if k=key then (if v=0 then E'.cw 0 v0 else none) else E.cw k v,E'.gl⟩:Env).cw key 0=E'.cw 0 v0:=by simp
 have aaB:∀ v,v≠0→(⟨E'.F,fun k v=>if k=key then (if v=0 then E'.cw 0 v0 else none) else E.cw k v,E'.gl⟩:Env).cw key v=none:=fun v hv=>by simp [hv]
 have qO:∀ k v,k≠key→(⟨E'.F,fun k v=>if k=key then (if v=0 then E'.cw 0 v0 else none) else E.cw k v,E'.gl⟩:Env).cw k v=E.cw k v:=fun k v hk=>if_neg hk;generalize PG:(⟨E'.F,fun k v=>if k=key then (if v=0 then E'.cw 0 v0 else none) else E.cw k v,E'.gl⟩:Env)=E2 at N0 aaB qO;have kM:E2.F=E'.F:=by rw [← PG]
 have Dq:E2.pure=E'.pure:=Env.NA kM rfl;have Ms:∀ v t,E2.cw key v=some t→v=0∧E'.cw 0 v0=some t:=fun v t ht=>by by_cases hv:v=0;(·subst hv;exact⟨rfl,N0 ▸ ht⟩);rw [aaB v hv] at ht;cases ht
 have hle:E.le E2:=⟨fun ad y hy=>by rw [kM];exact iz.le.F _ _ hy,fun k v t hk=>by by_cases fN:k=key;(·subst fN;rw [mh v] at hk;cases hk);rw [qO k v fN];exact hk⟩;refine⟨E2,x,rfl,⟨hle,fun k v g e c hk=>?_,fun ad y hy=>?_,iz.os,iz.tape,iz.output,iz.size,fun b hb _=>hold b hb⟩,⟨fun ad y hy=>qc.F _ _ (by rw [← kM];exact hy),fun k v g e c hk=>?_,fun k B hk=>?_,fun k hk v=>?_,fun k B hk v hv=>?_,fun k k' v v' g e1 c1 e2 c2 h5 h6=>?_,.nil _⟩,?_⟩;·by_cases fN:k=key;(·subst fN;obtain⟨-,h⟩:=Ms _ _ hk;exact .inr (pQ _ _ _ _ _ h));rw [qO k v fN] at hk;exact .inl ⟨k,v,e,c,hk⟩
 ·rw [kM] at hy;(rcases hFo ad y hy with h|h);(·exact .inl h);exact .inr (.inl h)
 ·by_cases fN:k=key;(·subst fN;obtain⟨-,h⟩:=Ms _ _ hk;exact qc.lt _ _ _ _ _ h);rw [qO k v fN] at hk;have:=hs.lt _ _ _ _ _ hk;have:=iz.size;omega
 ·rw [bK] at hk;by_cases fN:key=k;(·subst fN;simp only [if_true,Mr] at hk;cases hk;have h0:=qc.mem 0 _ rfl;(rcases h0 with ⟨h1,h2⟩|⟨g,T,ys,c,h1,h2,h3,h4,h5,h6⟩);(·exact .inl ⟨h1,by rw [N0];exact h2⟩);exact .inr ⟨g,T,ys,c,by rw [N0];exact h1,h2,h3,h4,by rw [Dq];exact h5,fun o=>by rw [kM];exact h6 o⟩);rw [if_neg fN] at hk;refine (hs.mem k B hk).mono hle (fun v hv=>by rw [qO k v (fun e=>fN e.symm)];exact hv) (fun g e c hb=>hold g (hs.lt _ _ _ _ _ hb)) fun g e c o hb hn=>?_;rw [kM];cases hy:E'.F ⟨g,o,none⟩ with|none=>rfl|some y =>(rcases hFo _ y hy with h|h);(·rw [hn] at h;cases h);have:=hs.lt _ _ _ _ _ hb;simp at h;omega
 ·dsimp only at hk;rw [mO] at hk;rw [qO k v (by omega)];exact hs.top k (by dsimp only;omega) v
 ·rw [bK] at hk;by_cases fN:key=k;(·subst fN;simp only [if_true,Mr] at hk;cases hk;exact aaB v (by simp [bm.dF] at hv;omega));rw [if_neg fN] at hk;rw [qO k v (fun e=>fN e.symm)];exact hs.dF k B hk v hv
 ·by_cases iA:k=key <;> by_cases lr:k'=key;(·rw [iA,lr]);(·subst iA;obtain⟨-,h⟩:=Ms _ _ h5;rw [qO k' _ lr] at h6;have:=hs.lt _ _ _ _ _ h6;have:=pQ _ _ _ _ _ h;omega);(·subst lr;obtain⟨-,h⟩:=Ms _ _ h6;rw [qO k _ iA] at h5;have:=hs.lt _ _ _ _ _ h5;have:=pQ _ _ _ _ _ h;omega);rw [qO k _ iA] at h5;rw [qO k' _ lr] at h6;exact hs.apart _ _ _ _ _ _ _ _ _ h5 h6
 rcases ES hr with ⟨h0,rfl⟩|⟨g,e,c,aa,cap,rfl,hb,hl,h0,hc⟩
 ·rw [h0];exact .jl _ _ _ _
 exact .ms _ _ _ _ _ g e c _ _ (by rw [N0];exact hb) hl h0 hc
theorem cY.Qu {E:Env} {w:World} {a:Act} {st:St} (hs:cY E w a st) {xs:Array Value} {rs:List V} {e c:Nat} (T:TypeId) (hl:rs.length≤c) (hr:mQ E.pure e rs (fun o=>xs[o]?)) :
  ∃ E',cY E' (w.alloc (.cells xs T (0,0))) a st∧il E w E' (w.alloc (.cells xs T (0,0)))∧cV E' (.slice rs) (.slice (some ⟨w.heap.size,0,none⟩) rs.length c):=by
 have vP:∀ o,(w.alloc (.cells xs T (0,0))).cell? ⟨w.heap.size,o,none⟩=xs[o]?:=fun o=>ph (heap_alloc_new w _) o;have hle:E.le ⟨fun ad=>match E.F ad with|some x=>some x|none=>if ad.block=w.heap.size∧ad.spot=none then xs[ad.off]? else none,E.cw,E.gl.mono fun ad x h=>by simp only [h]⟩:=⟨fun ad x h=>by dsimp only;rw [h],fun _ _ _ h=>h⟩;refine⟨⟨fun ad=>match E.F ad with|some x=>some x|none=>if ad.block=w.heap.size∧ad.spot=none then xs[ad.off]? else none,E.cw,E.gl.mono fun ad x h=>by simp only [h]⟩,⟨fun ad x hx=>?_,fun k v g e c h=>?_,fun k B hB=>?_,hs.top,hs.dF,hs.apart,hs.fr.mono hle⟩,⟨hle,fun k v g e c h=>.inl ⟨k,v,e,c,h⟩,fun ad x hx=>?_,rfl,rfl,rfl,by simp,fun b hb _=>ed w _ b hb⟩,?_⟩;·dsimp only at hx;split at hx;(·rename_i y hy;cases hx;rw [World.cell?_alloc_lt w _ ad (World.block_lt_of_cell? w ad (hs.F ad _ hy))];exact hs.F ad _ hy);split at hx;(·rename_i hc;obtain⟨b,o,el⟩:=ad;obtain⟨rfl,rfl⟩:=hc;rw [vP];exact hx);cases hx
 ·have:=hs.lt _ _ _ _ _ h;simp;omega
 ·refine (hs.mem k B hB).mono hle (fun v h=>h) (fun g e' c' hb=>ed w _ g (hs.lt _ _ _ _ _ hb)) fun g e c o hb hn=>?_;dsimp only;rw [hn];have:=hs.lt _ _ _ _ _ hb;simp;intro h;omega
 ·dsimp only at hx;split at hx;(·rename_i y hy;cases hx;exact .inl hy);split at hx;(·rename_i hc;exact .inr (.inl (by rw [hc.1];exact ax _)));cases hx
 have hn:∀ o,E.F ⟨w.heap.size,o,none⟩=none:=fun o=>by cases hx:E.F ⟨w.heap.size,o,none⟩ with|none=>rfl|some x=>have:=World.block_lt_of_cell? w _ (hs.F _ _ hx);simp at this
 refine .slice _ rs _ c e ⟨w.heap.size,0,none⟩ (fun i j=>(xs[i*e+j]?).getD undef) (fun _=>rfl) hl (fun i row hi=>(hr i row hi).1) (fun i row j cc hi hj=>?_) (fun i row j cc hi hj=>?_) fun i row j cc hi hj=>?_;·obtain⟨x,hx,h1,h2⟩:=(hr i row hi).2 j cc hj;rw [add_lit,aZ];simp only [hn,true_and,if_true,and_self];dsimp only at hx;rw [hx];rfl
 ·obtain⟨x,hx,h1,h2⟩:=(hr i row hi).2 j cc hj;dsimp only at hx ⊢;rw [hx];exact h1
 obtain⟨x,hx,h1,h2⟩:=(hr i row hi).2 j cc hj;dsimp only at hx ⊢;rw [hx];exact h2.mono (Env.lA hle)
section
variable {P:Program} {tt:Table} (ht:TT P tt)
include ht
theorem A6 {E:Env} {w:World} {a:Act} {st:St} (hs:cY E w a st) {o:Oper} {mem:List bm} {Q:V→Prop} {R:St→Prop} (h:ui P tt o { st with mem:=mem } Q) (hQ:∀ v,Q v→R (st.put o.dst v))
  (lH:∀ v,mC P tt { st with mem:=mem } o=some v→∃ x,(execOp a.eval o).run P w = .ok (.value x) w∧cV E v x)
  {ρ:Option Nat} {n:Nat} {next:Act→World→Prop} {Q':Exit→Act→World→Prop} (hn:∀ v w',Hf E w a o.dst R v w'→next (a.put o.dst v) w'):o.wpIn (WF ρ) n P a w next Q':=by
 obtain⟨dst,op,type,pos,after,guard⟩:=o;have gen:∀ (lq:∀ c,op ≠ .defer c),(∀ f xs ts,op ≠ .call { callee:=.value f,args:=xs,argTypes:=ts })→(∀ T ps,op ≠ .build T ps)→(∀ T l ps,op ≠ .buildSlice T l ps)→Oper.wpIn (WF ρ) n P { dst:=dst,op:=op,type:=type,pos:=pos,after:=after,guard:=guard } a w next Q':=by intro lq h1 h2 h3;(have hv:∃ v,mC P tt { st with mem:=mem } { dst:=dst,op:=op,type:=type,pos:=pos,after:=after,guard:=guard }=some v∧Q v:=by unfold ui at h;split at h;(·rename_i heq;exact absurd heq (h1 _ _ _));unfold zN at h;dsimp only at h;split at h;(·rename_i v hv;split at hv;(·exact absurd rfl (h2 _ _));(·exact absurd rfl (h3 _ _ _));exact⟨v,hv,h⟩);exact h.elim);obtain⟨v,hv,hq⟩:=hv;obtain⟨x,h4,h5⟩:=lH v hv;exact dw lq h4 (hn _ _ ⟨E,_,hs.put dst h5,il.refl E w,hQ _ hq⟩)
 cases op;case defer c=>simp [ui,zN,mC] at h
 case build T ps =>
  simp only [ui,zN,fY] at h
  split at h
  ·rename_i v hv
   obtain⟨x,h1,h2⟩:=vU ht hs hv
   exact dw (by simp) (du h1) (hn _ _ ⟨E,_,hs.put dst h2,il.refl E w,hQ _ h⟩)
  exact h.elim
 case buildSlice T len ps =>
  simp only [ui,zN,fY] at h
  split at h
  ·rename_i v hv
   split at hv
   ·rename_i size rs hl
    cases hv
    obtain⟨Z,e,h1,h2,h3,h4⟩:=ER ht (fun p _=>hs.eval p.2) hl
    obtain⟨E',h5,h6,h7⟩:=hs.Qu (xs:=Z) (rs:=rs) (c:=len) e (by omega) h4
    rw [h3] at h7
    exact dw (by simp) (jz h1) (hn _ _ ⟨E',_,h5.put dst h7,h6,hQ _ h⟩)
   cases hv
  exact h.elim
 case call c =>
  obtain⟨callee,args,ts⟩:=c
  cases callee with
  | value f =>
   simp only [ui,fY] at h
   split at h
   ·rename_i g vs hg
    obtain⟨vs',r,h1,h2,h3⟩:=h
    obtain⟨h4,h5⟩:=v7 (mem:=st.mem) h1
    obtain⟨ys,h6,h7⟩:=sB (P:=P) (w:=w) (hs.eval f) (hs.qi args) hg
    have hc:yK P g vs st dst R:=by
     rcases h2 with h2|h2
     ·exact .inl ⟨vs',r,h4,h2,by rw [h5,re];exact hQ _ h3⟩
     refine .inr (.inr (.inr ⟨r,fun E1 w1 xs1 Kb Pz=>?_,hQ _ h3⟩))
     obtain⟨x,g1,g2⟩:=h2 E1 w1 xs1 Kb (v8 h1 Pz)
     exact⟨x,g1,g2⟩
    rcases yO hs hc h6 with ⟨h8,h9⟩|⟨v,h8,h9⟩
    ·refine yM (by simp) (f:=g) (xs:=ys) ?_ h9 fun e w' ⟨v,hv,ha⟩=>⟨v,hv,hn _ _ ha⟩
     rw [← h8,← h7]
     simp only [execOp,resolve]
    refine dw (by simp) (v:=v) ?_ (hn _ _ h9)
    rw [← h8,← h7]
    simp only [execOp,resolve]
   exact h.elim
  | _=>exact gen (by simp) (by simp) (by simp) (by simp)
 all_goals exact gen (by simp) (by simp) (by simp) (by simp)
omit ht in
theorem wa {mem:List bm} {k:Nat} (h:mem[k]?=some .hole) (B:bm):dn mem k B=mem.set k B:=by unfold dn;rw [if_pos (aq.1 h).1]
theorem Ht {all:Array Oper} {base:Nat} {E:Env} {w:World} {a:Act} {st:St} (hs:cY E w a st) {i:Nat} {o:Oper} {p:Pl} {Q:St→Prop} (hi:all[i]?=some o) (h:fC P tt all base o p st Q)
  {ρ:Option Nat} {n:Nat} {next:Act→World→Prop} {Q':Exit→Act→World→Prop} (hn:∀ v w',Hf E w a o.dst Q v w'→next (a.put o.dst v) w'):wpOpIn (WF ρ) n P all Q' i next a w:=by
 unfold wpOpIn;rw [hi];dsimp only;unfold fC at h;split at h;·rename_i hw;rw [if_pos (jZ hs hw)];split at h;(·rw [z8] at h;exact A6 ht hs h (fun _ h=>h) (fun v hv=>tF ht hs (VS hv)) hn);(·rw [z8] at h;exact A6 ht hs h (fun _ h=>h) (fun v hv=>tF ht (hs.eJ _) hv) hn);(·obtain⟨hh,h⟩:=h;rw [iR] at hh;split at h;(·rename_i B v hb;refine gU ht hs (key:=base+p.key) (.inl hh) ?_ hn;unfold iQ at hb;unfold cR;split at hb;(·rename_i T heq;rw [heq];dsimp only;split at hb;(·rename_i i hi;cases hb;rw [hi];dsimp only;rw [wa hh];exact h);cases hb);(·rename_i heq;rw [heq];dsimp only;split at hb;(·rename_i i hi;cases hb;rw [hi];dsimp only;rw [wa hh];exact h);cases hb);(·rename_i heq;rw [heq];dsimp only;split at hb;(·rename_i i hi;cases hb;rw [hi];dsimp only;rw [wa hh];exact h);cases hb);(·rename_i heq;rw [heq];dsimp only;cases hb;rw [wa hh];exact h);(·rename_i heq;rw [heq];dsimp only;split at hb;(·rename_i i hi;cases hb;rw [hi];dsimp only;rw [wa hh];exact h);cases hb);cases hb);rw [DA] at h;unfold oH at h;split at h;(·rename_i f xs ts heq;split at h;(·rename_i g vs hg;obtain⟨vs',e,rs,h1,h2,h3⟩:=h;refine gU ht hs (key:=base+p.key) (.inl hh) ?_ hn;unfold cR;rw [heq];dsimp only;split;(·rename_i k hk;rw [hk] at hg;simp [da] at hg);rw [hg];exact .inr (.inl ⟨_,_,h2.hole h1 hh,h3⟩));exact h.elim);exact h.elim);(·obtain⟨hh,h⟩:=h;rw [iR] at hh;split at h;(·rename_i m v hb;refine gU ht hs (key:=base+p.key) (.inl hh) ?_ hn;unfold o8 at hb;unfold cR;split at hb;(·rename_i heq;rw [heq];dsimp only;split at hb;(·rename_i i hi;cases hb;rw [hi];exact h);cases hb);(·rename_i xs ts heq;rw [heq];dsimp only;split at hb;(·rename_i s x Vx;rw [Vx];dsimp only;split at hb;(·rename_i size sr rows ha;rw [ha];simp only [aB] at hb;dsimp only;rw [hb];exact h);cases hb);cases hb);(·rename_i heq;rw [heq];dsimp only;split at hb;(·rename_i i hi;cases hb;rw [hi];exact h);cases hb);(·rename_i heq;rw [heq];dsimp only;split at hb;(·rename_i i hi;cases hb;rw [hi];exact h);cases hb);cases hb);exact h.elim);(·split at h;(·rename_i m hb;refine gU ht hs (key:=st.mem.length) (.inr rfl) ?_ hn;unfold rU at hb;unfold cR;split at hb;(·rename_i heq;rw [heq];dsimp only;split at hb;(·rename_i b off hp;split at hb;(·rename_i hk;subst hk;rw [hp,hb];exact h);cases hb);cases hb);cases hb);exact h.elim);(·split at h;(·rename_i v hb;refine gU ht hs (key:=st.mem.length) (.inr rfl) ?_ hn;replace hb:=Fe hb;have ho:=NS (P:=P) hb;unfold oI at hb;unfold cR;split at hb;(·rename_i heq;rw [heq];dsimp only;rw [ho];exact h);cases hb);exact h.elim);(·refine gU ht hs (key:=st.mem.length) (.inr rfl) ?_ hn;unfold qn at h;unfold cR;split at h;(·rename_i f xs ts heq;split at h;(·rename_i g vs hg;obtain⟨vs',r,h1,h2,h3⟩:=h;rw [heq];dsimp only;split;(·rename_i k hk;rw [hk] at hg;simp [da] at hg);rw [hg];exact .inl ⟨vs',r,h1,h2,h3⟩);exact h.elim);exact h.elim);refine gU ht hs (key:=st.mem.length) (.inr rfl) ?_ hn;unfold vY at h;unfold cR;split at h;(·rename_i f xs ts heq;split at h;(·rename_i g vs hg;obtain⟨v,B0,B,-,-,h1,h2,h3⟩:=h;rw [heq];dsimp only;split;(·rename_i k hk;rw [hk] at hg;simp [da] at hg);rw [hg];exact .inr (.inl ⟨_,_,h2,h3⟩));exact h.elim);split at h;(·rename_i m hb;unfold rU at hb;split at hb;(·rename_i heq;rw [heq];dsimp only;split at hb;(·rename_i b off hp;split at hb;(·rename_i hk;subst hk;rw [hp,hb];exact h);cases hb);cases hb);cases hb);exact h.elim
 ·rename_i hw;rw [if_neg (by rw [jZ hs hw];simp)];exact⟨fun _ _=>trivial,hn _ _ ⟨E,_,hs.put o.dst (.sc _ _),il.refl E w,h⟩⟩
 exact h.elim
end
end Go.Eng
end
section
namespace Go.Eng
variable [bk]
def pl0:Pl:=⟨.n,0,[],[],[]⟩
def oJ (o:Oper) (k:Nat):Bool:=o.after.any fun e=>Region.binds .any e&&e.on==k
def sL (all:Array Oper) (y:Oper) (py:Pl):Nat→List Oper→List Pl→Bool
 | _,[],_=>true
 | k,x :: r,px=>(oJ y k||py.Yf.contains k||xQ all x (px.headD pl0) y py)&&sL all y py (k+1) r px.tail
def Kr (o:Oper) (i:Nat):Bool:=o.after.all fun e=>!Region.binds .any e||decide (e.on<i)
def sM (plan:List Pl) (i:Nat):Pl:=(plan[i]?).getD pl0
def Qv (plan:List Pl) (y:Oper) (py:Pl):Bool:=py.Yf.all fun k=>oJ y k||y.after.any fun e=>Region.binds .any e&&(sM plan e.on).Yf.contains k
def Aa (all:Array Oper) (plan:List Pl):Nat→List Oper→List Pl→Bool
 | _,[],_=>true
 | i,y :: r,py=>Kr y i&&Qv plan y (py.headD pl0)&&sL all y (py.headD pl0) 0 (all.toList.take i) plan&&Aa all plan (i+1) r py.tail
def wb (all:Array Oper) (plan:List Pl):Bool:=Aa all plan 0 all.toList plan
theorem uY {α:Type} (l:List α) (i:Nat) (d:α):(l.drop i).headD d=(l[i]?).getD d:=by rw [List.headD_eq_head?_getD,List.head?_drop]
theorem we {all:Array Oper} {y:Oper} {py:Pl} {plan:List Pl}:∀ {l:List Oper} {n:Nat},sL all y py n l (plan.drop n)=true→∀ k x,l[k]?=some x→(oJ y (n+k)=true∨(n+k)∈py.Yf)∨xQ all x (sM plan (n+k)) y py=true
 | [],n,_,k,x,h=>by simp at h
 | z :: r,n,h,k,x,hk=>by
  simp only [sL,aD,qb,uY] at h
  cases k with
  | zero=>simp at hk;subst hk;simpa [sM] using h.1
  | succ k =>
   have h2:=h.2
   rw [as8] at h2
   have:=we h2 k x (by simpa using hk)
   rw [o6,UU 1 k] at this
   exact this
theorem yW {all:Array Oper} {plan:List Pl}:∀ {l:List Oper} {n:Nat},Aa all plan n l (plan.drop n)=true→∀ k y,l[k]?=some y→(Kr y (n+k)=true∧Qv plan y (sM plan (n+k))=true)∧sL all y (sM plan (n+k)) 0 (all.toList.take (n+k)) plan=true
 | [],n,_,k,x,h=>by simp at h
 | z :: r,n,h,k,x,hk=>by
  simp only [Aa,aD,uY] at h
  cases k with
  | zero=>simp at hk;subst hk;exact h.1
  | succ k =>
   have h2:=h.2
   rw [as8] at h2
   have:=yW h2 k x (by simpa using hk)
   rw [o6,UU 1 k] at this
   exact this
theorem qq {all:Array Oper} {plan:List Pl} (h:wb all plan=true) {i:Nat} {y:Oper} (hi:all[i]?=some y) :
  (∀ e∈y.after,Region.binds .any e=true→e.on<i)∧(∀ k∈(sM plan i).Yf,oJ y k=true∨∃ e∈y.after,Region.binds .any e=true∧k∈(sM plan e.on).Yf)∧∀ k x,k<i→all[k]?=some x→(oJ y k=true∨k∈(sM plan i).Yf)∨xQ all x (sM plan k) y (sM plan i)=true:=by
 have:=yW (n:=0) h i y (by simpa using hi);rw [aZ] at this;obtain⟨⟨h1,h3⟩,h2⟩:=this;refine⟨fun e he hb=>?_,fun k hk=>?_,fun k x hk hx=>?_⟩;·unfold Kr at h1;have:=Array.all_eq_true_iff_forall_mem.1 h1 e he;simpa [hb] using this
 ·unfold Qv at h3;have:=aX.1 h3 k hk;rw [qb] at this;refine this.imp id fun h=>?_;rw [atH] at h;obtain⟨e,he,h⟩:=h;rw [aD] at h;exact⟨e,he,h.1,by simpa using h.2⟩
 have:=we (n:=0) h2 k x (by rw [jO hk];simpa using hx);rwa [aZ] at this
section
variable {P:Program} {tt:Table} {all:Array Oper} {plan:List Pl} {base:Nat}
def Hu (P:Program) (tt:Table) (all:Array Oper) (plan:List Pl) (base:Nat):List Nat→St→(St→Prop)→Prop
 | [],st,K=>K st
 | i :: r,st,K=>match all[i]? with
  | some o=>fC P tt all base o (sM plan i) st fun st'=>Hu P tt all plan base r st' K
  | none=>False
theorem rf {o:Oper} {p:Pl} {st:St} {K K':St→Prop} (h:∀ s,K s→K' s) (hh:fC P tt all base o p st K):fC P tt all base o p st K':=by
 by_cases hz:p.cls = .z;·unfold fC at hh ⊢;split at hh;(·rw [hz] at hh ⊢;exact AZ hh h);(·exact h _ hh);exact hh.elim
 obtain⟨v,m,h1,h2⟩:=(j1 hz).1 hh;exact (j1 hz).2 ⟨v,m,h1,h _ h2⟩
theorem A7 {i:Nat} {o:Oper} (hi:all[i]?=some o) {K:St→Prop} {σ2:List Nat}:∀ {σ1:List Nat} {st:St},(∀ k∈σ1,∀ x,all[k]?=some x→xQ all x (sM plan k) o (sM plan i)=true) →
  Hu P tt all plan base (σ1++i :: σ2) st K→fC P tt all base o (sM plan i) st fun st'=>Hu P tt all plan base (σ1++σ2) st' K
 | [],st,_,h=>by simpa [Hu,hi] using h
 | k :: r,st,hp,h=>by
  simp only [ai,Hu] at h ⊢
  cases hk:all[k]? with
  | none=>rw [hk] at h;exact h.elim
  | some x =>
   rw [hk] at h
   dsimp only at h ⊢
   exact Kn (hp k (by simp) x hk) (rf (fun s hs=>A7 hi (fun k' kX=>hp k' (by simp [kX])) hs) h)
theorem wg {y:Oper} {k:Nat} {listed:Array Bool} (h:oJ y k=true) (hl:∀ e∈y.after,Region.binds .any e=true→listed.getD e.on false=true):listed.getD k false=true:=by unfold oJ at h;rw [atH] at h;obtain⟨e,he,h⟩:=h;rw [aD,beq_iff_eq] at h;rw [← h.2];exact hl e he h.1
def Qw (all:Array Oper) (listed:Array Bool):Prop:=∀ (i:Nat) (o:Oper),listed.getD i false=true→all[i]?=some o→∀ e∈o.after,Region.binds .any e=true→listed.getD e.on false=true
theorem Ks (fF:wb all plan=true) {listed:Array Bool} (hc:Qw all listed) (nh:listed.size=all.size):∀ (i:Nat) (y:Oper),all[i]?=some y→(∀ e∈y.after,Region.binds .any e=true→listed.getD e.on false=true)→∀ k∈(sM plan i).Yf,listed.getD k false=true:=by intro i;induction i using Nat.strongRecOn with|_ i ih =>intro y hy hl k hk;(rcases (qq fF hy).2.1 k hk with h|⟨e,he,hb,h⟩);(·exact wg h hl);have h1:=hl e he hb;(have bR:e.on<all.size:=by have:e.on<i:=(qq fF hy).1 e he hb;have:=(dH.1 hy).1;omega);have hz:=b9 bR;exact ih e.on ((qq fF hy).1 e he hb) _ hz (hc e.on _ h1 hz) k h
theorem Hv (ht:TT P tt) (fF:wb all plan=true) {ρ:Option Nat} {n:Nat} {K:St→Prop} {Q':Exit→Act→World→Prop}:∀ (fuel:Nat) (listed:Array Bool) (σ:List Nat),listed.size=all.size→Qw all listed→σ.length≤fuel→σ.Pairwise (· < ·)→(∀ i,i∈σ↔listed[i]?=some false) →
  ∀ {E:Env} {w:World} {a:Act} {st:St},cY E w a st→Hu P tt all plan base σ st K→(∀ a' w',a'.defers=a.defers→(∃ E' st',cY E' w' a' st'∧il E w E' w'∧K st')→Q' .normal a' w')→wpAnyIn (WF ρ) n P .any all Q' fuel listed a w:=by
 intro fuel;have done:∀ (listed:Array Bool) (σ:List Nat),listed.size=all.size→σ.Pairwise (· < ·)→(∀ i,i∈σ↔listed[i]?=some false)→Region.ready .any all listed=[]→σ=[]:=by intro listed σ nh DF oK hr;cases σ with|nil=>rfl|cons i r =>exfalso;have hif:=(oK i).1 (by simp);(have bR:i<all.size:=by rw [← nh];exact (dH.1 hif).1);(have:i∈Region.ready .any all listed:=by refine mem_ready.2 ⟨by simp [lh,hif],all[i],b9 bR,fun e he hb=>?_⟩;have aab:=(qq fF (b9 bR)).1 e he hb;(have hs:e.on<listed.size:=by omega);cases hv:listed[e.on] with|true=>simp [lh,b9 hs,hv]|false =>have:e.on∈i :: r:=(oK e.on).2 (by rw [b9 hs,hv]);(rcases dj.1 this with h|h);(·omega);have:=List.rel_of_pairwise_cons DF h;omega);rw [hr] at this;cases this
 induction fuel with|zero =>(intro listed σ nh pO hlen DF oK E w a st hs h hq;have hσ:σ=[]:=b7.1 (by omega);subst hσ;refine⟨?_,hq _ _ rfl ⟨E,st,hs,il.refl E w,h⟩⟩;cases hr:Region.ready .any all listed with|nil=>rfl|cons j l =>(have hj:j∈Region.ready .any all listed:=by rw [hr];simp);obtain⟨h0,o,ho,-⟩:=mem_ready.1 hj;(have bR:j<listed.size:=by rw [nh];exact (dH.1 ho).1);have:j∈([]:List Nat):=(oK j).2 (by rw [b9 bR];congr 1;simpa [lh,b9 bR] using h0);cases this)|succ fuel ih =>intro listed σ nh pO hlen DF oK E w a st hs h hq;refine⟨fun hr=>?_,fun i hi=>?_⟩;(·have:=done listed σ nh DF oK hr;subst this;exact hq _ _ rfl ⟨E,st,hs,il.refl E w,h⟩);obtain⟨h0,o,ho,aaC⟩:=mem_ready.1 hi;(have bR:i<listed.size:=by rw [nh];exact (dH.1 ho).1);(have hif:listed[i]?=some false:=by rw [b9 bR];congr 1;simpa [lh,b9 bR] using h0);obtain⟨σ1,σ2,rfl⟩:=List.append_of_mem ((oK i).2 hif);rw [atO] at DF;obtain⟨uP,JZ,aaD⟩:=DF;rw [List.pairwise_cons] at JZ;have jB:=A7 ho (σ1:=σ1) (fun k hk x hx=>by have hki:k<i:=aaD k hk i (by simp);(rcases (qq fF ho).2.2 k x hki hx with hw|hw);(·exfalso;have h1:=hw.elim (fun hw=>wg hw aaC) fun hw=>Ks fF pO nh i o ho aaC k hw;have h2:=(oK k).1 (by simp [hk]);rw [lh,h2] at h1;cases h1);exact hw) h;refine Ht ht hs ho jB ?_;rintro v w' ⟨E',st',h1,h2,h3⟩;refine ih (listed.setIfInBounds i true) (σ1++σ2) (by simpa using nh) ?_ ?_ ?_ ?_ h1 h3 fun a' w'' hd ⟨CO,Ke,h4,h5,h6⟩=>hq _ _ (hd.trans (put_defers _ _ _)) ⟨CO,Ke,h4,h2.trans h5,h6⟩;(·intro j z hj hz e he hb;by_cases hji:j=i;(·subst hji;rw [ho] at hz;cases hz;exact getD_set_true (aaC e he hb));rw [getD_set_ne false (fun e=>hji e.symm)] at hj;exact getD_set_true (pO j z hj hz e he hb));(·simp at hlen ⊢;omega);(·rw [atO];exact⟨uP,JZ.2,fun x hx y hy=>aaD x hx y (by simp [hy])⟩);intro j;rw [Array.getElem?_setIfInBounds];by_cases hji:i=j;(·subst hji;rw [if_pos rfl];constructor;(·intro hj;(rcases ft.1 hj with h|h);(·have:=aaD i h i (by simp);omega);have:=JZ.1 i h;omega);split;(·intro h;cases h);intro h;cases h);rw [if_neg hji,← oK j];simp only [ft,dj];constructor;(·rintro (h|h);(·exact .inl h);exact .inr (.inr h));rintro (h|h|h);(·exact .inl h);(·exact absurd h.symm hji);exact .inr h
def runM (P:Program) (tt:Table) (all:Array Oper) (base:Nat):List Oper→List Pl→St→(St→Prop)→Prop
 | [],_,st,K=>K st
 | o :: r,p :: ps,st,K=>fC P tt all base o p st fun st'=>runM P tt all base r ps st' K
 | _ :: _,[],_,_=>False
@[congr] theorem aaE {base Yg:Nat} {l:List Oper} {ps:List Pl} {st st':St} {K:St→Prop} (hb:base=Yg) (h:st=st'):runM P tt all base l ps st K=runM P tt all Yg l ps st' K:=by rw [hb,h]
theorem Qx {K:St→Prop}:∀ {l:List Oper} {n:Nat} {st:St},(∀ k x,l[k]?=some x→all[n+k]?=some x)→runM P tt all base l (plan.drop n) st K→Hu P tt all plan base (List.range' n l.length) st K
 | [],n,st,_,h=>h
 | o :: r,n,st,cD,h=>by
  have ho:all[n]?=some o:=cD 0 o rfl
  rw [aj,atb,Hu,ho]
  dsimp only
  cases hd:plan.drop n with
  | nil=>rw [hd] at h;exact h.elim
  | cons p ps =>
   rw [hd] at h
   have hp:sM plan n=p:=by rw [sM,← uY,hd];rfl
   have Hw:ps=plan.drop (n+1):=by rw [← as8,hd];rfl
   rw [hp]
   subst Hw
   exact rf (fun s hs=>Qx (fun k x hk=>by have:=cD (k+1) x (by simpa using hk);rwa [show n+(k+1)=n+1+k by omega] at this) hs) h
theorem cY.aeJ {E:Env} {w:World} {a:Act} {st:St} (hs:cY E w a st) (m:Nat):cY E w a { st with mem:=st.mem++List.replicate m .hole }:=by
 have get:∀ {k:Nat} {B:bm},(st.mem++List.replicate m .hole)[k]?=some B→st.mem[k]?=some B∨(B=bm.hole∧st.mem.length≤k):=fun {k B} h=>by (rcases br k st.mem.length with hk|hk);(·rw [bx hk] at h;exact .inl h);rw [a6 hk,atg] at h;split at h;(·cases h;exact .inr ⟨rfl,hk⟩);cases h
 refine⟨hs.F,hs.lt,fun k B hk=>?_,fun k hk=>hs.top k (by simp at hk;omega),fun k B hk v hv=>?_,hs.apart,hs.fr⟩;·(rcases get hk with h|⟨rfl,fN⟩);(·exact hs.mem k B h);exact fun v=>hs.top k fN v
 rcases get hk with h|⟨rfl,fN⟩
 ·exact hs.dF k B h v hv
 exact hs.top k fN v
theorem qs (ht:TT P tt) (hm:P.follows .mixedOrders=true) {ρ:Option Nat} {n0:Nat} {st:St} {Q:Exit→St→Prop} (plan:List Pl) (m:Nat) {id:Nat} {ops:Array Oper} (fF:wb ops plan=true)
  (h:runM P tt ops st.mem.length ops.toList plan { st with mem:=st.mem++List.replicate m .hole } (Q .normal)):eg P ρ n0 (.region id ops true) st Q:=fun E0 w0 h0 E w a he hs Gz=>by
 refine wpIn_region_any hm ?_
 have hd:cY E { w with drawn:=w.drawn+1 } a { st with mem:=st.mem++List.replicate m .hole }:=(hs.drew (w:=w)).aeJ m
 have hI:=Qx (all:=ops) (plan:=plan) (n:=0) (l:=ops.toList) (fun k x hk=>by rw [aZ];simpa using hk) h
 rw [← atf] at hI
 refine Hv (P:=P) (tt:=tt) ht fF ops.size _ (List.range ops.toList.length) (by simp) (fun j z hj=>by simp [lh,atT] at hj;split at hj <;> simp at hj) (by simp) (List.pairwise_lt_range) (fun i=>?_) hd hI fun a' w' hdf ⟨E',st',h1,h2,h3⟩=>⟨E',st',h1,(he.trans (il.drew E w)).trans h2,?_,h3⟩
 ·simp only [aov,atT]
  simp
 rw [hdf];exact (Gz.NP (il.drew E w)).NP h2
theorem pV (ht:TT P tt) (hm:P.follows .mixedOrders=true) {ρ:Option Nat} {n0:Nat} {st:St} {Q:Exit→St→Prop} (plan:List Pl) (m:Nat) {id:Nat} {ops:Array Oper} {y:Code} (fF:wb ops plan=true)
  (h:∀ K:St→Prop,(∀ st',eg P ρ n0 y st' Q→K st')→runM P tt ops st.mem.length ops.toList plan { st with mem:=st.mem++List.replicate m .hole } K):eg P ρ n0 (.seq (.region id ops true) y) st Q :=
 bz (qs ht hm plan m fF (h (fun st'=>eg P ρ n0 y st' Q) fun _ h=>h))
theorem mq (ht:TT P tt) (hm:P.follows .mixedOrders=true) {ρ:Option Nat} {n0:Nat} {st:St} {Q:Exit→St→Prop} (plan:List Pl) (m:Nat) {id:Nat} {ops:Array Oper} (fF:wb ops plan=true)
  (h:∀ K:St→Prop,(∀ st',Q .normal st'→K st')→runM P tt ops st.mem.length ops.toList plan { st with mem:=st.mem++List.replicate m .hole } K):eg P ρ n0 (.region id ops true) st Q :=
 qs ht hm plan m fF (h (Q .normal) fun _ h=>h)
end
end Go.Eng
end
section
namespace Go.Eng
variable [bk]
open Go.RowKit (Below)
def rh:bm→Bool
 | .rows _ _ _=>true
 | .vB _ _ _=>true
 | .dead=>true
 | .hole=>true
 | _=>false
theorem bw.live {P:Program} {f:FuncId} {vs vs':List V} {b v s l:Nat} {bV:List bm} (hp:fw [] vs=some vs') (h:bw P f vs' [] (.ms b v s l) bV) (hm:bV.all rh=true) (mem:List bm) :
  bw P f vs mem (.ms (mem.length+b) v s l) (mem++bV):=by
 refine⟨h.1,fun E w xs hs hx=>?_⟩;obtain⟨Yb,hk⟩:=v7 (mem:=mem) hp;have h1:=mS hs (keys:=[]) hx Yb (by rw [hk];simp);have hE:(E.qL w []).pure=⟨E.F,fun _ _=>none,E.gl⟩:=by refine Env.NA (funext fun ad=>?_) rfl;simp only [Env.pure,Env.qL];cases hh:E.F ad <;> simp
 rw [hE] at h1;have uP:cY ⟨E.F,fun _ _=>none,E.gl⟩ w { tmps := #[],defers:=[] } { fr:=[],mem:=[] } := ⟨hs.F,(fun k v g e c h=>by cases h),(fun k B h=>by simp at h),(fun k _ v=>rfl),(fun k B h=>by simp at h),(fun k k' v v' g e c e' c' h=>by cases h),.nil _⟩;refine (h.2 _ w xs uP h1).mono ?_;rintro en w' ⟨E',x,rfl,iz,qc,hr⟩;have pQ:∀ k v g e c,E'.cw k v=some (g,e,c)→w.heap.size≤g:=fun k v g e c hb=>by (rcases iz.cw _ _ _ _ _ hb with ⟨_,_,_,_,h⟩|h);(·cases h);exact h
 have hold:∀ b,b<w.heap.size→w'.heap[b]?=w.heap[b]?:=fun b hb=>iz.heap b hb fun _ _ _ _ h=>by cases h
 have hFo:∀ ad y,E'.F ad=some y→E.F ad=some y∨w.heap.size≤ad.block:=fun ad y hy=>by (rcases iz.F _ _ hy with h|h|⟨_,_,_,_,h⟩);(·exact .inl h);(·exact .inr h);cases h
 have qO:∀ k v,k<mem.length→(⟨E'.F,fun k v=>if k<mem.length then E.cw k v else E'.cw (k-mem.length) v,E'.gl⟩:Env).cw k v=E.cw k v:=fun k v hk=>if_pos hk;have vI:∀ k v,mem.length≤k→(⟨E'.F,fun k v=>if k<mem.length then E.cw k v else E'.cw (k-mem.length) v,E'.gl⟩:Env).cw k v=E'.cw (k-mem.length) v:=fun k v hk=>if_neg (by omega);generalize PG:(⟨E'.F,fun k v=>if k<mem.length then E.cw k v else E'.cw (k-mem.length) v,E'.gl⟩:Env)=E2 at qO vI;have kM:E2.F=E'.F:=by rw [← PG]
 have Dq:E2.pure=E'.pure:=Env.NA kM rfl;have hle:E.le E2:=⟨fun ad y hy=>by rw [kM];exact iz.le.F _ _ hy,fun k v t hk=>by (rcases br k mem.length with fN|fN);(·rw [qO k v fN];exact hk);rw [hs.top k fN v] at hk;cases hk⟩;have get:∀ {k:Nat} {B:bm},(mem++bV)[k]?=some B→(k<mem.length∧mem[k]?=some B)∨(mem.length≤k∧bV[k-mem.length]?=some B):=fun {k B} h=>by (rcases br k mem.length with hk|hk);(·rw [bx hk] at h;exact .inl ⟨hk,h⟩);rw [a6 hk] at h;exact .inr ⟨hk,h⟩
 refine⟨E2,x,rfl,⟨hle,fun k v g e c hk=>?_,fun ad y hy=>?_,iz.os,iz.tape,iz.output,iz.size,fun b hb _=>hold b hb⟩,⟨fun ad y hy=>qc.F _ _ (by rw [← kM];exact hy),fun k v g e c hk=>?_,fun k B hk=>?_,fun k hk v=>?_,fun k B hk v hv=>?_,fun k k' v v' g e1 c1 e2 c2 h5 h6=>?_,.nil _⟩,?_⟩;·(rcases br k mem.length with fN|fN);(·rw [qO k v fN] at hk;exact .inl ⟨k,v,e,c,hk⟩);rw [vI k v fN] at hk;exact .inr (pQ _ _ _ _ _ hk)
 ·rw [kM] at hy;(rcases hFo ad y hy with h|h);(·exact .inl h);exact .inr (.inl h)
 ·(rcases br k mem.length with fN|fN);(·rw [qO k v fN] at hk;have:=hs.lt _ _ _ _ _ hk;have:=iz.size;omega);rw [vI k v fN] at hk;exact qc.lt _ _ _ _ _ hk
 ·(rcases get hk with ⟨fN,hB⟩|⟨fN,hB⟩);(·refine (hs.mem k B hB).mono hle (fun v hv=>by rw [qO k v fN];exact hv) (fun g e c hb=>hold g (hs.lt _ _ _ _ _ hb)) fun g e c o hb hn=>?_;rw [kM];cases hy:E'.F ⟨g,o,none⟩ with|none=>rfl|some y =>(rcases hFo _ y hy with h|h);(·rw [hn] at h;cases h);have:=hs.lt _ _ _ _ _ hb;simp at h;omega);have hl:=aX.1 hm B (ay hB);have h0:=qc.mem _ B hB;cases B with|hole=>(exact fun v=>by rw [vI k v fN];exact h0 v)|dead=>trivial|box cs=>simp [rh] at hl|loop s p fr ps a b=>simp [rh] at hl|map dK clock=>simp [rh] at hl|jR m since seen last=>simp [rh] at hl|nY s pos=>simp [rh] at hl|oz=>simp [rh] at hl|rows v e rs =>((rcases h0 with ⟨h1,h2⟩|⟨g,T,ys,c,h1,h2,h3,h4,h5,h6⟩);(·exact .inl ⟨h1,by rw [vI k v fN];exact h2⟩);exact .inr ⟨g,T,ys,c,by rw [vI k v fN];exact h1,h2,h3,h4,by rw [Dq];exact h5,fun o=>by rw [kM];exact h6 o⟩)|vB v e rs =>(rcases h0 with ⟨h1,h2⟩|⟨g,c,h1,h2,h3⟩);(·exact .inl ⟨h1,by rw [vI k v fN];exact h2⟩);exact .inr ⟨g,c,by rw [vI k v fN];exact h1,h2,by rw [Dq,kM];exact h3⟩
 ·dsimp only at hk;simp only [bc] at hk;rw [vI k v (by omega)];exact qc.top _ (by dsimp only;omega) v
 ·(rcases get hk with ⟨fN,hB⟩|⟨fN,hB⟩);(·rw [qO k v fN];exact hs.dF k B hB v hv);rw [vI k v fN];exact qc.dF _ B hB v hv
 ·(rcases br k mem.length with iA|iA <;> rcases br k' mem.length with lr|lr);(·rw [qO k _ iA] at h5;rw [qO k' _ lr] at h6;exact hs.apart _ _ _ _ _ _ _ _ _ h5 h6);(·rw [qO k _ iA] at h5;rw [vI k' _ lr] at h6;have:=hs.lt _ _ _ _ _ h5;have:=pQ _ _ _ _ _ h6;omega);(·rw [vI k _ iA] at h5;rw [qO k' _ lr] at h6;have:=hs.lt _ _ _ _ _ h6;have:=pQ _ _ _ _ _ h5;omega);rw [vI k _ iA] at h5;rw [vI k' _ lr] at h6;have:=qc.apart _ _ _ _ _ _ _ _ _ h5 h6;omega
 cases hr with|ms _ b v s l g e c a cap hb hl h0 hc=>exact .ms _ _ _ _ _ g e c _ _ (by rw [vI _ v (by omega),ef];exact hb) hl h0 hc|jl=>exact .jl _ _ _ _
theorem cY.wh {E:Env} {w:World} {a:Act} {st:St} (hs:cY E w a st) (v e:Nat):cY E w a { st with mem:=st.mem++[.rows v e []] }:=by
 have get:∀ {k:Nat} {B:bm},(st.mem++[bm.rows v e []])[k]?=some B→st.mem[k]?=some B∨(B=bm.rows v e []∧st.mem.length≤k):=fun {k B} h=>by (rcases br k st.mem.length with hk|hk);(·rw [bx hk] at h;exact .inl h);rw [a6 hk] at h;cases fN:k-st.mem.length with|zero=>rw [fN] at h;cases h;exact .inr ⟨rfl,hk⟩|succ j=>rw [fN] at h;cases h
 refine⟨hs.F,hs.lt,fun k B hk=>?_,fun k hk=>hs.top k (by simp at hk;omega),fun k B hk v hv=>?_,hs.apart,hs.fr⟩;·(rcases get hk with h|⟨rfl,fN⟩);(·exact hs.mem k B h);exact .inl ⟨rfl,hs.top k fN v⟩
 rcases get hk with h|⟨rfl,fN⟩
 ·exact hs.dF k B h v hv
 exact hs.top k fN v
theorem cY.Hx {E:Env} {w:World} {a:Act} {st:St} (hs:cY E w a st) {i:Nat} (b v:Nat) (h:st.fr[i]?=some (.sc (.slice none 0 0))):cY E w a { st with fr:=st.fr.set i (.ms b v 0 0) }:=hs.VE h
theorem oj {P:Program} {ρ:Option Nat} {n0:Nat} {c:Code} {st:St} {Q:Exit→St→Prop} (i v e:Nat) (h0:st.fr[i]?=some (.sc (.slice none 0 0))) (h:eg P ρ n0 c { fr:=st.fr.set i (.ms st.mem.length v 0 0),mem:=st.mem++[.rows v e []] } Q):eg P ρ n0 c st Q :=
 sD (fun E w a hs=>(hs.Hx (i:=i) st.mem.length v h0).wh v e) h
end Go.Eng
end
section
namespace Go.Eng
variable [bk]
open Go.RowKit (Below)
theorem A8 {E E':Env} {w w':World} {mem bV l:List bm} (hs:cY E w { tmps := #[],defers:=[] } { fr:=[],mem:=mem++l }) (akU:il (E.cut mem.length) w E' w') (PE:cY E' w' { tmps := #[],defers:=[] } { fr:=[],mem:=bV })
  (hlen:bV.length=mem.length) (hb:bV.all (aS mem.length)=true):∃ E2,il E w E2 w'∧cY E2 w' { tmps := #[],defers:=[] } { fr:=[],mem:=bV++l }∧(E'.cut mem.length).le E2:=by
 have uP:=PE.cut (n:=mem.length) rfl (by rw [bu (by dsimp only;omega)];exact hb);rw [bu (by dsimp only;omega)] at uP;dsimp only at uP;have Hy:∀ k,mem.length≤k→∀ v,(E.cut mem.length).cw k v=none:=fun k hk v=>if_neg (by omega);have iz:il (E.cut mem.length) w (E'.cut mem.length) w':=akU.cut Hy;have o7:∀ k v t,(E.cut mem.length).cw k v=some t→k<mem.length∧E.cw k v=some t:=fun k v t h=>by (rcases br k mem.length with hk|hk);(·exact⟨hk,(if_pos hk).symm.trans h⟩);rw [Hy k hk] at h;cases h
 have aeL:∀ k v t,(E'.cut mem.length).cw k v=some t→k<mem.length:=fun k v t h=>by (rcases br k mem.length with hk|hk);(·exact hk);have h0:(E'.cut mem.length).cw k v=none:=if_neg (by omega);rw [h0] at h;cases h
 generalize aqy:E'.cut mem.length=CO at uP iz aeL;have qO:∀ k v,k<mem.length→(⟨CO.F,fun k v=>if k<mem.length then CO.cw k v else E.cw k v,CO.gl⟩:Env).cw k v=CO.cw k v:=fun k v hk=>if_pos hk;have vI:∀ k v,mem.length≤k→(⟨CO.F,fun k v=>if k<mem.length then CO.cw k v else E.cw k v,CO.gl⟩:Env).cw k v=E.cw k v:=fun k v hk=>if_neg (by omega);generalize PG:(⟨CO.F,fun k v=>if k<mem.length then CO.cw k v else E.cw k v,CO.gl⟩:Env)=E2 at qO vI;have kM:E2.F=CO.F:=by rw [← PG]
 have pO:∀ k v t,k<mem.length→E.cw k v=some t→(E.cut mem.length).cw k v=some t:=fun k v t hk h=>(if_pos hk).trans h;have hle:E.le E2:=⟨fun ad y hy=>by rw [kM];exact iz.le.F _ _ hy,fun k v t hk=>by (rcases br k mem.length with fN|fN);(·rw [qO k v fN];exact iz.le.cw _ _ _ (pO _ _ _ fN hk));rw [vI k v fN];exact hk⟩;have Qy:CO.le E2:=⟨fun ad y hy=>by rw [kM];exact hy,fun k v t hk=>by rw [qO k v (aeL _ _ _ hk)];exact hk⟩;have AR:∀ k v g e c,mem.length≤k→E.cw k v=some (g,e,c)→∀ k0 v0 e0 c0,(E.cut mem.length).cw k0 v0≠some (g,e0,c0):=fun k v g e c hk hb k0 v0 e0 c0 h=>by obtain⟨h1,h2⟩:=o7 _ _ _ h;have:=hs.apart _ _ _ _ _ _ _ _ _ h2 hb;omega
 have get:∀ {k:Nat} {B:bm},(bV++l)[k]?=some B→(k<mem.length∧bV[k]?=some B)∨(mem.length≤k∧(mem++l)[k]?=some B):=fun {k B} h=>by (rcases br k mem.length with hk|hk);(·rw [bx (by omega)] at h;exact .inl ⟨hk,h⟩);rw [a6 (by omega),hlen] at h;exact .inr ⟨hk,by rw [a6 hk];exact h⟩
 refine⟨E2,⟨hle,fun k v g e c hk=>?_,fun ad y hy=>?_,iz.os,iz.tape,iz.output,iz.size,fun b hb cK=>iz.heap b hb fun k v e c h=>cK _ _ _ _ (o7 _ _ _ h).2⟩,⟨fun ad y hy=>uP.F _ _ (by rw [← kM];exact hy),fun k v g e c hk=>?_,fun k B hk=>?_,fun k hk v=>?_,fun k B hk v hv=>?_,fun k k' v v' g e1 c1 e2 c2 h5 h6=>?_,.nil _⟩,Qy⟩;·(rcases br k mem.length with fN|fN);(·rw [qO k v fN] at hk;(rcases iz.cw _ _ _ _ _ hk with ⟨k0,v0,e0,c0,h⟩|h);(·exact .inl ⟨_,_,_,_,(o7 _ _ _ h).2⟩);exact .inr h);rw [vI k v fN] at hk;exact .inl ⟨_,_,_,_,hk⟩
 ·rw [kM] at hy;(rcases iz.F _ _ hy with h|h|⟨k0,v0,e0,c0,h⟩);(·exact .inl h);(·exact .inr (.inl h));exact .inr (.inr ⟨_,_,_,_,(o7 _ _ _ h).2⟩)
 ·(rcases br k mem.length with fN|fN);(·rw [qO k v fN] at hk;exact uP.lt _ _ _ _ _ hk);rw [vI k v fN] at hk;exact rL (hs.lt _ _ _ _ _ hk) iz.size
 ·(rcases get hk with ⟨fN,hB⟩|⟨fN,hB⟩);(·exact (uP.mem k B hB).mono Qy (fun v hv=>by rw [qO k v fN];exact hv) (fun _ _ _ _=>rfl) fun g e c o _ hn=>by rw [kM];exact hn);refine (hs.mem k B hB).mono hle (fun v hv=>by rw [vI k v fN];exact hv) (fun g e c hb=>iz.heap g (hs.lt _ _ _ _ _ hb) fun k0 v0 e0 c0 h=>AR _ _ _ _ _ fN hb _ _ _ _ h) fun g e c o hb hn=>?_;rw [kM];cases hy:CO.F ⟨g,o,none⟩ with|none=>rfl|some y =>(rcases iz.F _ _ hy with h|h|⟨k0,v0,e0,c0,h⟩);(·have h':E.F ⟨g,o,none⟩=some y:=h;rw [hn] at h';cases h');(·have:=hs.lt _ _ _ _ _ hb;simp at h;omega);exact absurd h (AR _ _ _ _ _ fN hb _ _ _ _)
 ·dsimp only at hk;simp only [bc] at hk;rw [vI k v (by omega)];exact hs.top k (by simp;omega) v
 ·(rcases get hk with ⟨fN,hB⟩|⟨fN,hB⟩);(·rw [qO k v fN];exact uP.dF k B hB v hv);rw [vI k v fN];exact hs.dF k B hB v hv
 have mixed:∀ k k' v v' g e1 c1 e2 c2,k<mem.length→mem.length≤k'→CO.cw k v=some (g,e1,c1)→E.cw k' v'=some (g,e2,c2)→k=k':=fun k k' v v' g e1 c1 e2 c2 hk kX h h'=>by (rcases iz.cw _ _ _ _ _ h with ⟨k0,v0,e0,c0,h0⟩|h0);(·exact absurd h0 (AR _ _ _ _ _ kX h' _ _ _ _));have:=hs.lt _ _ _ _ _ h';omega
 rcases br k mem.length with iA|iA <;> rcases br k' mem.length with lr|lr
 ·rw [qO k _ iA] at h5;rw [qO k' _ lr] at h6;exact uP.apart _ _ _ _ _ _ _ _ _ h5 h6
 ·rw [qO k _ iA] at h5;rw [vI k' _ lr] at h6;exact mixed _ _ _ _ _ _ _ _ _ iA lr h5 h6
 ·rw [vI k _ iA] at h5;rw [qO k' _ lr] at h6;exact (mixed _ _ _ _ _ _ _ _ _ lr iA h6 h5).symm
 rw [vI k _ iA] at h5;rw [vI k' _ lr] at h6;exact hs.apart _ _ _ _ _ _ _ _ _ h5 h6
theorem Hz {E:Env} {w:World} {mem l:List bm} (hs:cY E w { tmps := #[],defers:=[] } { fr:=[],mem:=mem++l }) (hb:mem.all (aS mem.length)=true):cY (E.cut mem.length) w { tmps := #[],defers:=[] } { fr:=[],mem:=mem }:=by have h:=hs.cut (n:=mem.length) rfl (by rw [rM];exact hb);rwa [rM] at h
theorem cJ.below {E:Env} {n:Nat} {vs:List V} {xs:List Value} (h:cJ E vs xs) (hb:vs.all (aG n)=true):cJ (E.cut n) vs xs :=
 ⟨h.1,fun i v x hv hx=>jJ (h.2 i v x hv hx) (aX.1 hb v (ay hv))⟩
theorem bw.frame {P:Program} {f:FuncId} {vs:List V} {r:V} {mem bV:List bm} (h:bw P f vs mem r bV) (hv:vs.all (aG mem.length)=true) (hm:mem.all (aS mem.length)=true) (hr:aG mem.length r=true) (hlen:bV.length=mem.length) (hm':bV.all (aS mem.length)=true) (l:List bm) :
  bw P f vs (mem++l) r (bV++l):=by refine⟨h.1,fun E w xs hs hx=>?_⟩;refine (h.2 _ w xs (Hz hs hm) (hx.below hv)).mono ?_;rintro en w' ⟨E',x,rfl,iz,qc,nB⟩;obtain⟨E2,h1,h2,h3⟩:=A8 hs iz qc hlen hm';exact⟨E2,x,rfl,h1,h2,(jJ nB hr).mono h3⟩
theorem JN.frame {P:Program} {k:Nat} {vs:List V} {mem bV:List bm} {b:Bool} (h:JN P k vs mem b bV) (hk:k<mem.length) (hv:vs.all (aG mem.length)=true) (hm:mem.all (aS mem.length)=true) (hlen:bV.length=mem.length) (hm':bV.all (aS mem.length)=true) (l:List bm) :
  JN P k vs (mem++l) b (bV++l):=by intro E w xs lp e c hs hx hb;obtain⟨fn,tmps,assign,body,h1,h2⟩:=h _ w xs lp e c (Hz hs hm) (hx.below hv) ((if_pos hk).trans hb);refine⟨fn,tmps,assign,body,h1,h2.mono ?_⟩;rintro en w' ⟨E',rfl,iz,qc⟩;obtain⟨E2,h3,h4,-⟩:=A8 hs iz qc hlen hm';exact⟨E2,rfl,h3,h4⟩
mutual
theorem pD {n m:Nat} (h:n≤m):∀ {v:V},aG n v=true→aG m v=true
 | .ms _ _ _ _,hv=>by simp [aG] at hv ⊢;omega
 | .ptr _ _,hv=>by simp [aG] at hv ⊢;omega
 | .km _,hv=>by simp [aG] at hv ⊢;omega
 | .mp _,hv=>by simp [aG] at hv ⊢;omega
 | .iw _ _ _ _,hv=>by simp [aG] at hv ⊢;omega
 | .undef,_=>rfl
 | .sc _,_=>rfl
 | .slice _,_=>rfl
 | .eW _,_=>rfl
 | .gn,_=>rfl
 | .full _,_=>rfl
 | .agg cs,hv=>by simp only [aG] at hv ⊢;exact nF h hv
 | .ec cs,hv=>by simp only [aG] at hv ⊢;exact nF h hv
 | .dU f a b,hv=>by simp only [aG,aD] at hv ⊢;exact⟨nF h hv.1,nF h hv.2⟩
theorem nF {n m:Nat} (h:n≤m):∀ {l:List V},a8 n l=true→a8 m l=true
 | [],_=>rfl
 | c :: r,hv=>by simp only [a8,aD] at hv ⊢;exact⟨pD h hv.1,nF h hv.2⟩
end
theorem yX {n m:Nat} (h:n≤m) {B:bm} (hv:aS n B=true):aS m B=true:=by cases B with|box cs=>simp only [aS,aX] at hv ⊢;exact fun x hx=>pD h (hv x hx)|loop a b fr c d e=>simp only [aS,aX] at hv ⊢;exact fun x hx=>pD h (hv x hx)|map dK c=>simp only [aS,aX] at hv ⊢;exact fun x hx=>pD h (hv x hx)|jR m s se l=>simp only [aS,decide_eq_true_eq] at hv ⊢;omega|_=>rfl
theorem rj {n m:Nat} (h:n≤m) {l:List bm} (hv:l.all (aS n)=true):l.all (aS m)=true:=aX.2 fun x hx=>yX h (aX.1 hv x hx)
theorem aeM:(false==true)=false:=rfl
theorem aeN:(true==false)=false:=rfl
theorem VT (mem:List bm) (ts:Array TypeId) (P:Program) (r:List V):xz mem ts P [.slice r]=none:=rfl
theorem VU (mem:List bm) (ts:Array TypeId) (P:Program) (b v s l:Nat):xz mem ts P [.ms b v s l]=none:=rfl
theorem VV (mem:List bm) (ts:Array TypeId) (P:Program) (x:Value):xz mem ts P [.sc x]=none:=rfl
theorem ep {P:Program} {tt:Table} {all:Array Oper} {base:Nat}:∀ (k:Nat) {l:List Oper} {ps:List Pl} {st:St} {K:St→Prop},k≤l.length→k≤ps.length →
  (∀ K1:St→Prop,(∀ s,runM P tt all base (l.drop k) (ps.drop k) s K→K1 s)→runM P tt all base (l.take k) (ps.take k) st K1)→runM P tt all base l ps st K
 | 0,l,ps,st,K,_,_,h=>by
  have:=h (fun s=>runM P tt all base l ps s K) fun s hs=>hs
  simpa [runM] using this
 | k+1,[],ps,st,K,hl,_,h=>by simp at hl
 | k+1,o :: r,[],st,K,_,hp,h=>by simp at hp
 | k+1,o :: r,p :: ps,st,K,hl,hp,h=>by
  simp only [runM]
  have h1:=h (fun s=>runM P tt all base (r.drop k) (ps.drop k) s K) fun s hs=>hs
  simp only [ZQ,runM] at h1
  exact rf (fun s hs=>ep k (by simpa using hl) (by simpa using hp) fun K1 lZ=>DG hs lZ) h1
where
 DG {P:Program} {tt:Table} {all:Array Oper} {base:Nat}:∀ {l:List Oper} {ps:List Pl} {st:St} {K K':St→Prop},runM P tt all base l ps st K→(∀ s,K s→K' s)→runM P tt all base l ps st K'
  | [],_,_,_,_,h,hk=>hk _ h
  | o :: r,[],_,_,_,h,_=>by simp [runM] at h
  | o :: r,p :: ps,st,K,K',h,hk=>by
   simp only [runM] at h ⊢
   exact rf (fun s hs=>DG hs hk) h
end Go.Eng
end
section
namespace Go.Eng
variable [bk]
theorem oL {α:Type} {l:List α} {t:Nat} {x:α} (h:l[t]?=some x):l.set t x=l:=by
 apply dq;intro i;rw [bK];split;·rename_i hi;subst hi;rw [if_pos (aq.1 h).1,h]
 rfl
section
variable {P:Program} {ρ:Option Nat} {n0:Nat} {Q:Exit→St→Prop} {c:Code} {st:St}
theorem cY.xS {E:Env} {w:World} {a:Act} (hs:cY E w a st) {k t:Nat} {cs:List V} (hk:st.mem[k]?=some (.box cs)) (hp:cs.all jm=true) (h0:st.fr[t]?=some (.ptr k 0)) :
  ∃ E',cY E' w a { fr:=st.fr.set t (.eW cs),mem:=st.mem.set k .dead }∧il E w E' w:=by
 obtain⟨g,T,xs,hb,hh,hr,hf⟩:=hs.mem k _ hk;have hF:∀ ad x,E.F ad=some x→(if ad.block=g then w.cell? ad else E.F ad)=some x:=fun ad x h=>by split;(·exact hs.F ad x h);exact h
 obtain⟨E',hE⟩:∃ E':Env,E' = { F:=fun ad=>if ad.block=g then w.cell? ad else E.F ad,cw:=E.cw,gl:=E.gl.mono hF }:=⟨_,rfl⟩;have eF:∀ ad,E'.F ad=if ad.block=g then w.cell? ad else E.F ad:=fun ad=>by rw [hE]
 have eb:E'.cw=E.cw:=by rw [hE]
 have hle:E.le E':=⟨fun ad x h=>by rw [eF];exact hF ad x h,fun _ _ _ h=>by rw [eb];exact h⟩;obtain⟨x,hx,hrx⟩:=hs.fr.get h0;have hxv:x = .pointer (some ⟨g,0,none⟩):=by cases hrx with|ptr _ _ _ g' e c kV=>rw [hb] at kV;cases kV;rfl
 subst hxv;have hpu:=cJ.pure hr hp;have nB:cV E' (.eW cs) (.pointer (some ⟨g,0,none⟩)):=by (have h1:∀ j,(Addr.mk g 0 none).add j=⟨g,j,none⟩:=fun j=>by unfold Addr.add;by_cases hj:j=0 <;> simp [hj]);refine .eW _ _ _ (fun j=>(xs[j]?).getD undef) (fun j c hj=>?_) fun j c hj=>?_;(·obtain⟨y,hy,-⟩:=hpu.get hj;rw [h1,eF,if_pos rfl,ph hh];simp only [eN] at hy;rw [hy];rfl);obtain⟨y,hy,At⟩:=hpu.get hj;simp only [eN] at hy;rw [hy];exact At.mono (Env.lA hle)
 have zY:cJ E' (st.fr.set t (.eW cs)) a.tmps.toList:=by have:=cJ.set (n:=t) (hs.fr.mono hle) nB;rwa [oL hx] at this
 refine⟨E',⟨fun ad y hy=>?_,fun k' v g' e c h=>hs.lt k' v g' e c (by rwa [eb] at h),fun k' B hB=>?_,fun k' kX v=>?_,fun k' B hB v hv=>?_,fun k1 k2 v1 v2 g' e c e' c' q1 q2=>?_,zY⟩,?_⟩;·rw [eF] at hy;split at hy;(·exact hy);exact hs.F ad y hy
 ·rw [bK] at hB;split at hB;(·split at hB;(·cases hB;exact trivial);cases hB);rename_i cK;refine (hs.mem k' B hB).mono hle (fun v h=>by rw [eb];exact h) (fun _ _ _ _=>rfl) fun g' e c o q1 q2=>?_;rw [eF];split;(·rename_i hg;have hg:g'=g:=hg;subst hg;exact absurd (hs.apart _ _ _ _ _ _ _ _ _ hb q1) cK);exact q2
 ·rw [eb];exact hs.top k' (by simpa using kX) v
 ·rw [eb];rw [bK] at hB;split at hB;(·rename_i hke;split at hB;(·cases hB;subst hke;exact hs.dF k _ hk v hv);cases hB);exact hs.dF k' B hB v hv
 ·rw [eb] at q1 q2;exact hs.apart _ _ _ _ _ _ _ _ _ q1 q2
 refine⟨hle,fun k' v g' e c h=>.inl ⟨k',v,e,c,by rwa [eb] at h⟩,fun ad y hy=>?_,rfl,rfl,rfl,ax _,fun _ _ _=>rfl⟩;rw [eF] at hy;split at hy;·rename_i hg;exact .inr (.inr ⟨k,0,0,0,by rw [hg];exact hb⟩)
 exact .inl hy
end
theorem cY.aaG {E:Env} {w:World} {m:List bm} {k:Nat} {cs:List V} {x:Value} (hs:cY E w { tmps := #[],defers:=[] } { fr:=[],mem:=m }) (hr:cV E (.ptr k 0) x) (hk:m[k]?=some (.box cs)) (hp:cs.all jm=true) :
  ∃ E',cY E' w { tmps := #[],defers:=[] } { fr:=[],mem:=m.set k .dead }∧il E w E' w∧cV E' (.eW cs) x:=by have h1:cY E w { tmps := #[x],defers:=[] } { fr:=[.ptr k 0],mem:=m }:=⟨hs.F,hs.lt,hs.mem,hs.top,hs.dF,hs.apart,.cons hr (.nil _)⟩;obtain⟨E',h2,h3⟩:=h1.xS (t:=0) hk hp rfl;obtain⟨y,ys,hy,Qz,-⟩:=h2.fr.of_cons;cases hy;exact⟨E',⟨h2.F,h2.lt,h2.mem,h2.top,h2.dF,h2.apart,.nil _⟩,h3,Qz⟩
end Go.Eng
end
