import Derived.Test.YtnboooapeopjoaaGreatDoorE2
import Derived.RangeFuncRecord
import Derived.OrdersIn
open Array renaming any_eq_true'→anY,foldl_toList→ans,getD_eq_getD_getElem?→ki,getElem?_eq_getElem→bS,getElem?_eq_none→am1,getElem?_eq_some_iff→dp,getElem?_replicate→an8,getElem?_setIfInBounds_ne→BA,getElem?_toList→eX,mapM_eq_mapM_toList→anC,toArray_toList→cL,toList_append→jr
open Bool renaming and_eq_true→aN,false_eq_true→b9,or_eq_true→am4
open Go.RowKit.Below renaming heap_alloc→dL
open List renaming all_eq_true→aY,append_nil→ou,cons_append→aj,ext_getElem?→di,flatMap_cons→gq,flatMap_nil→anm,foldl_cons→eZ,getElem?_append→Tn,getElem?_append_left→bm,getElem?_append_right→aW,getElem?_cons_zero→fb,getElem?_eq_none→dF,getElem?_eq_none_iff→an9,getElem?_eq_some_iff→ax,getElem?_map→ae,getElem?_replicate→anx,getElem?_set→bw,getElem?_set_ne→eE,getElem?_take→lX,getElem?_take_of_lt→jb,length_append→ch,length_cons→aD,length_eq_zero_iff→cd,length_nil→aM,length_set→ov,length_take→dz,mapM_cons→ani,map_congr_left→dJ,map_cons→cB,mem_append→fI,mem_append_left→dU,mem_append_right→dG,mem_cons→cp,mem_cons_of_mem→bh,mem_cons_self→bJ,mem_map→cu,mem_of_getElem?→ay,mem_range→am5,nodup_cons→anI,pairwise_append→an3,range'_succ→anN,range_eq_range'→an2,set_comm→anA,tail_drop→anj,take_left→pJ,take_of_length_le→bE,take_succ_cons→U0
open List.cons renaming injEq→ank
open Nat renaming add_assoc→nH,add_comm→am2,add_sub_cancel_left→dM,eq_zero_or_pos→anr,le_refl→aw,le_trans→AO,lt_of_lt_of_le→pI,lt_or_ge→bW,zero_add→ct
open Option renaming bind_some→ann,map_eq_some_iff→br,map_some→bz
open Option.some renaming injEq→aB
open Prod.mk renaming injEq→dQ
set_option linter.all false
section
namespace Go.Eng
variable [a6]
open Go.RowKit (Below)

theorem iN {P:Program} {s:Sem Value} {w w':World} {x:Value} (h:s.run P w = .ok x w'):(do pure (Next.value (← s)):Sem Next).run P w = .ok (.value x) w':=by simp [h]

def DY (E:Env) (w:World) (a:Act) (dst:Option Tmp) (Q:St→Prop) (v:Value) (w':World):Prop:=∃ E' st',cU E' w' (a.put dst v) st'∧gE E w E' w'∧Q st'

def WF (ρ:Option Nat):Fence := { fn:=fun _=>True,depth:=none,alive:=false,round:=ρ }
theorem yl {ρ:Option Nat} {n:Nat} {P:Program} {f:FuncId} {xs:Array Value} {w:World} {R:Ending→World→Prop} (h:Calls P f xs w R):CallsIn (WF ρ) n P f xs w R:=by have h1:CallsIn Fence.wide n P f xs w R:=callsIn_wide.2 h;cases ρ with | none=>exact h1 | some l=>exact h1.inRound l
theorem DZ {n:Nat} {P:Program} {f:FuncId} {xs:Array Value} {w:World} {R:Ending→World→Prop} (h:CallsIn (WF none) n P f xs w R):Calls P f xs w R:=callsIn_wide.1 h
theorem GF {ρ:Option Nat} {n:Nat} {P:Program} {l:Nat} {f:FuncId} {tmps:Array Value} {assign body:Code} {w:World} {R:Ending→World→Prop} (h:RoundIn Fence.wide 0 P l f tmps assign body w R):RoundIn (WF ρ) n P l f tmps assign body w R:=by refine⟨trivial,fun c cs _=>?_⟩;exact h.2 c cs (room_wide _)
section
variable {P:Program} {ρ:Option Nat} {n:Nat} {o:Oper} {a:Act} {w w':World} {next:Act→World→Prop} {Q:Exit→Act→World→Prop} (lu:∀ c,o.op ≠ .defer c)
include lu
theorem da {v:Value} (h:(execOp a.eval o).run P w = .ok (.value v) w') (hn:next (a.put o.dst v) w'):o.wpIn (WF ρ) n P a w next Q:=by refine⟨fun _ _=>trivial,?_⟩;rw [Oper.semAt_eq _ _ _ lu,h]; exact hn
theorem nn (h:(execOp a.eval o).run P w = .ok .skip w') (hn:next (a.put o.dst undef) w'):o.wpIn (WF ρ) n P a w next Q:=by refine⟨fun _ _=>trivial,?_⟩;rw [Oper.semAt_eq _ _ _ lu,h]; exact hn
theorem wB {f:FuncId} {xs:Array Value} {R:Ending→World→Prop} (h:(execOp a.eval o).run P w = .ok (.enter f xs) w) (hc:Calls P f xs w R) (hR:∀ e w',R e w'→∃ v,e = .returned v∧next (a.put o.dst v) w') :
  o.wpIn (WF ρ) n P a w next Q:=by refine⟨fun _ _=>trivial,?_⟩;rw [Oper.semAt_eq _ _ _ lu,h];refine⟨fun h=>by simp [WF] at h,(yl hc).mono fun e w' he=>?_⟩;obtain⟨v,rfl,hn⟩:=hR e w' he;exact hn
theorem wC {l:Nat} {f:FuncId} {tmps:Array Value} {assign body:Code} {R:Ending→World→Prop} (h:(execOp a.eval o).run P w = .ok (.round l f tmps assign body) w) (hc:RoundIn Fence.wide 0 P l f tmps assign body w R)
  (hR:∀ e w',R e w'→∃ v,e = .returned v∧next (a.put o.dst v) w'):o.wpIn (WF ρ) n P a w next Q:=by refine⟨fun _ _=>trivial,?_⟩;rw [Oper.semAt_eq _ _ _ lu,h];refine⟨fun h=>by simp [WF] at h,(GF hc).mono fun e w' he=>?_⟩;obtain⟨v,rfl,hn⟩:=hR e w' he;exact hn
end

theorem wD {P:Program} {E:Env} {w:World} {a:Act} {st:St} (hs:cU E w a st) {f:FuncId} {vs:List V} {dst:Option Tmp} {Q:St→Prop} (h:wz P f vs st dst Q) {xs:Array Value} (hx:cz E vs xs.toList) :
  ((callFunc f xs).run P w = .ok (.enter f xs) w∧Calls P f xs w fun e w'=>∃ v,e = .returned v∧DY E w a dst Q v w')∨∃ v,(callFunc f xs).run P w = .ok (.value v) w∧DY E w a dst Q v w:=by
 rcases h with ⟨vs',r,hp,hf,hQ⟩ | ⟨r,bM,hf,hQ⟩ | ⟨R,hf,hQ⟩ | ⟨r,hf,hQ⟩
 ·refine .inl ⟨hf.1 xs w,(JW hs hx hp hf).mono ?_⟩;rintro e w' ⟨E',x,rfl,gD,oY,hr⟩;exact⟨x,rfl,E',_,oY.put dst hr,gD,hQ⟩
 ·refine .inl ⟨hf.1 xs w,(hf.2 E w xs hs.bare hx).mono ?_⟩;rintro e w' ⟨E',x,rfl,gD,oY,hr⟩;exact⟨x,rfl,E',_,(hs.DW oY gD.le).put dst hr,gD,hQ⟩
 ·refine .inl ⟨hf.1 xs w,(hf.2 E w xs hs.bare hx).mono ?_⟩;rintro e w' ⟨E',x,r,bM,rfl,hR,gD,oY,hr⟩;exact⟨x,rfl,E',_,(hs.DW oY gD.le).put dst hr,gD,hQ _ _ hR⟩
 obtain⟨x,h1,h2⟩:=hf E w xs hs.F hx;exact .inr ⟨x,h1,E,_,hs.put dst h2,gE.refl E w,hQ⟩

theorem gK {P:Program} {tt:Table} (ht:TT P tt) {E:Env} {w:World} {a:Act} {st:St} (hs:cU E w a st) {key:Nat} (hk:iR st.mem key) {o:Oper} {Q:St→Prop} (h:c8 P tt key o st Q)
  {ρ:Option Nat} {n:Nat} {next:Act→World→Prop} {Q':Exit→Act→World→Prop} (hn:∀ v w',DY E w a o.dst Q v w'→next (a.put o.dst v) w'):o.wpIn (WF ρ) n P a w next Q':=by
 obtain⟨dst,op,type,pos,after,guard⟩:=o;have lu:∀ c,op ≠ .defer c:=by rintro c rfl;simp [c8,lr] at h
 unfold c8 at h;dsimp only at h;split at h;·rename_i T;split at h;(·rename_i i hi;obtain⟨info,Ao,-,-,z,hz,DK⟩:=ht.size T i hi;(have hr:cz E (i.zero.map V.sc) z.cells.toList:=by rw [DK]; exact⟨by simp,fun k c x hc hx=>by simp only [ae,hx,bz,aB] at hc; subst hc; exact .sc _ _⟩);obtain⟨E',h1,h2,h3⟩:=hs.LV hk hr T;refine da lu (v:=.pointer (some ⟨w.heap.size,0,none⟩)) (w':=w.alloc (.cells z.cells T (0,0))) ?_ (hn _ _ ⟨E',_,h1.put dst h3,h2,h⟩);(have Zp:(zeroValue T).run P w = .ok z w:=by simp [zeroValue,gg Ao,hz]);simp [execOp,Instr.alloc,Zp,newVar,newRow]);exact h.elim
 ·rename_i T x;split at h;(·rename_i cs BB;obtain⟨hr,-⟩:=o4 (hs.eval x) BB;obtain⟨E',h1,h2,h3⟩:=hs.LV hk hr T;refine da lu (v:=.pointer (some ⟨w.heap.size,0,none⟩)) (w':=w.alloc (.cells (a.eval x).cells T (0,0))) ?_ (hn _ _ ⟨E',_,h1.put dst h3,h2,h⟩);simp [execOp,Instr.box,newVar,newRow]);exact h.elim
 ·split at h;(·rename_i v hv;obtain⟨x,h1,h2⟩:=tI ht hs hv;exact da lu (c6 h1) (hn _ _ ⟨E,_,hs.put dst h2,gE.refl E w,h⟩));exact h.elim
 ·rename_i T len parts;split at h;(·rename_i size rs hl;obtain⟨Z,e,h1,h2,h3,h4⟩:=BU ht (fun p _=>hs.eval p.2) hl;obtain⟨E',h5,h6,h7⟩:=hs.tz hk (xs:=Z) (rs:=rs) (c:=len) e h2 (by omega) h4;rw [h3] at h7;exact da lu (iN h1) (hn _ _ ⟨E',_,h5.put dst h7,h6,h⟩));split at h;(·rename_i size rs hl;unfold Q6 at hl;split at hl;(·rename_i vs' TE;obtain⟨E1,sA,Q7,Mh⟩:=hs.freeze TE;(have IA:∀ (l:List (Nat×Operand)) (us Mb:List V),us=l.map (fun p=>st.eval p.2)→fh st.mem us=some Mb→cz E1 Mb (l.map fun p=>a.eval p.2)→∀ p∈l,cK E1 (evP st.mem st.eval p.2) (a.eval p.2):=by intro l;induction l with | nil=>intro us Mb _ _ _ p hp; simp at hp | cons q r ih =>intro us Mb hu hp hr p Vr;subst hu;simp only [cB,fh] at hp;split at hp;(·rename_i c' hc;split at hp;(·rename_i r' Dr;cases hp;obtain⟨y,ys,hy,g1,g2⟩:=hr.of_cons;simp only [cB,ank] at hy;obtain⟨rfl,rfl⟩:=hy;(rcases cp.1 Vr with rfl | Vr);(·unfold evP; rw [hc]; exact g1);exact ih _ _ rfl Dr g2 p Vr);cases hp);cases hp);(have u6:cz E (parts.toList.map fun p=>st.eval p.2) (parts.toList.map fun p=>a.eval p.2):=by refine⟨by simp,fun i v x hv hx=>?_⟩;simp only [ae,br] at hv hx;obtain⟨q,hq,rfl⟩:=hv;obtain⟨q',QG,rfl⟩:=hx;rw [hq] at QG; cases QG;exact hs.eval q.2);have afz:=IA parts.toList _ _ rfl TE (Mh _ u6);(have ji:iR ({ st with mem:=ey st.mem (B8 st.eval parts.toList) }:St).mem key:=by unfold iR;dsimp only;rw [o6,sm];(rcases hk with hk | hk);(·rw [hk]; exact .inl rfl);exact .inr hk);obtain⟨Z,e,h1,h2,h3,h4⟩:=BU ht (w:=w) afz hl;obtain⟨E',h5,h6,h7⟩:=sA.tz ji (xs:=Z) (rs:=rs) (c:=len) e h2 (by omega) h4;rw [h3] at h7;exact da lu (iN h1) (hn _ _ ⟨E',_,h5.put dst h7,Q7.trans h6,h⟩));cases hl);exact h.elim
 ·rename_i T p x;split at h;(·rename_i bM hm;obtain⟨w',h1,h2,h3⟩:=tB ht hs (hs.eval _) (hs.eval _) hm;refine nn lu (w':=w') ?_ (hn _ _ ⟨E,_,h2.put dst (.sc _ _),h3,h⟩);simp [execOp,h1]);split at h;(·rename_i bM hm;unfold B9 at hm;split at hm;(·rename_i v' xR;obtain⟨E1,sA,Q7,Mh⟩:=hs.freeze (vs:=[st.eval x]) (vs':=[v']) (by simp [fh,xR]);simp only [gq,anm,ou] at sA;obtain⟨z,r,hz,h4,-⟩:=(Mh [a.eval x] (.cons (hs.eval x) (.nil _))).of_cons;simp only [ank] at hz;obtain⟨rfl,-⟩:=hz;obtain⟨w',h1,h2,h3⟩:=tB ht sA ((hs.eval p).mono Q7.le) h4 hm;refine nn lu (w':=w') ?_ (hn _ _ ⟨E1,_,h2.put dst (.sc _ _),Q7.trans h3,h⟩);simp [execOp,h1]);cases hm);exact h.elim
 ·rename_i xs ts;split at h;(·rename_i s x Q8;split at h;(·rename_i size sD rows ha;have he:=hs.oB xs;rw [Q8] at he;obtain⟨y,r1,hy,Dn,he⟩:=he.of_cons;obtain⟨z,r2,hz,Dq,he⟩:=he.of_cons;have:=he.of_nil;subst this; subst hz;(have u6:xs.map a.eval = #[y,z]:=by rw [← cL (xs:=xs.map a.eval),hy]);obtain⟨v,w',E',h1,h2,h3,h4⟩:=Av ht hs (ty:=type) hk Dn Dq ha;refine da lu (v:=v) (w':=w') ?_ (hn _ _ ⟨E',_,h2.put dst h4,h3,h⟩);simp only [execOp,resolve,Sem.run_bind,Sem.run_pure,Result.andThen_ok,invoke,builtin,u6,h1]);unfold wA at h;split at h;(·rename_i size b v l rs news ha;have he:=hs.oB xs;rw [Q8] at he;obtain⟨y,r1,hy,Dn,he⟩:=he.of_cons;obtain⟨z,r2,hz,Dq,he⟩:=he.of_cons;have:=he.of_nil;subst this; subst hz;(have u6:xs.map a.eval = #[y,z]:=by rw [← cL (xs:=xs.map a.eval),hy]);obtain⟨u,w',E',o',mo,h1,Vs,LC,h2,h3,h4⟩:=Az ht hs (ty:=type) Dn Dq ha;refine da lu (v:=u) (w':=w') ?_ (hn _ _ ⟨E',_,h2.put dst h4,h3,h o' mo Vs LC⟩);simp only [execOp,resolve,Sem.run_bind,Sem.run_pure,Result.andThen_ok,invoke,builtin,u6,h1]);exact h.elim);exact h.elim
 ·rename_i f xs ts;split at h;(·rename_i k YD;have hf:=hs.eval f;rw [YD] at hf;generalize hfx:a.eval f=fx at hf;cases hf with | jz _ _ l e c hb =>(rcases h with ⟨b,bM,hy,hQ⟩ | ⟨R,hy,hQ⟩);rotate_left;(·obtain⟨fn,tmps,assign,body,h1,h2⟩:=hy E w (xs.map a.eval) l e c hs.bare (hs.oB xs) hb;refine wC lu (l:=l) (f:=fn) (tmps:=tmps) (assign:=assign) (body:=body) ?_ h2 fun e w' ⟨E',b,bM,he,hR,gD,oY⟩=>⟨_,he,hn _ _ ⟨E',_,(hs.DW oY gD.le).put dst (.sc _ _),gD,hQ _ _ hR⟩⟩;rw [← h1];simp [execOp,resolve,hfx,Deferred.ofValue,invoke]);obtain⟨fn,tmps,assign,body,h1,h2⟩:=hy E w (xs.map a.eval) l e c hs.bare (hs.oB xs) hb;refine wC lu (l:=l) (f:=fn) (tmps:=tmps) (assign:=assign) (body:=body) ?_ h2 fun e w' ⟨E',he,gD,oY⟩=>⟨_,he,hn _ _ ⟨E',_,(hs.DW oY gD.le).put dst (.sc _ _),gD,hQ⟩⟩;rw [← h1];simp [execOp,resolve,hfx,Deferred.ofValue,invoke]);rename_i YD;split at h;(·rename_i g vs hg;obtain⟨ys,h1,h2⟩:=qs (P:=P) (w:=w) (hs.eval f) (hs.oB xs) hg;(rcases wD hs h h1 with ⟨h3,h4⟩ | ⟨v,h3,h4⟩);(·refine wB lu (f:=g) (xs:=ys) ?_ h4 fun e w' ⟨v,hv,ha⟩=>⟨v,hv,hn _ _ ha⟩;rw [← h3,← h2];simp only [execOp,resolve]);refine da lu (v:=v) ?_ (hn _ _ h4);rw [← h3,← h2];simp only [execOp,resolve]);exact h.elim
 ·split at h;(·rename_i size rs cap hm;obtain⟨E',w',h1,h2,h3,h4⟩:=DQ (P:=P) ht hs hk (hs.eval _) (hs.eval _) hm;exact da lu (iN h1) (hn _ _ ⟨E',_,h2.put dst h4,h3,h⟩));exact h.elim
 ·obtain⟨E',w',h1,h2,h3,h4⟩:=Ax (P:=P) hs hk _;exact da lu (iN h1) (hn _ _ ⟨E',_,h2.put dst h4,h3,h⟩)
 ·split at h;(·rename_i bM hm;obtain⟨w',h1,h2,h3⟩:=sk (P:=P) hs (hs.eval _) (hs.eval _) (hs.eval _) hm;refine nn lu (w':=w') ?_ (hn _ _ ⟨E,_,h2.put dst (.sc _ _),h3,h⟩);simp [execOp,h1]);exact h.elim
 ·split at h;(·rename_i bM hm;obtain⟨w',h1,h2,h3⟩:=sk (P:=P) hs (hs.eval _) (hs.eval _) (hs.eval _) hm;refine nn lu (w':=w') ?_ (hn _ _ ⟨E,_,h2.put dst (.sc _ _),h3,h⟩);simp [execOp,h1]);exact h.elim
 ·split at h;(·rename_i bM v hm;obtain⟨z,w',h1,h2,h3,h4⟩:=BZ (P:=P) hs (hs.eval _) (hs.eval _) hm;exact da lu (iN h1) (hn _ _ ⟨E,_,h2.put dst h4,h3,h⟩));exact h.elim
 ·rename_i T m s x;split at h;(·rename_i bM hm;obtain⟨w',h1,h2,h3⟩:=B4 (P:=P) (T:=T) hs (hs.eval _) (hs.eval _) (hs.eval _) hm;refine nn lu (w':=w') ?_ (hn _ _ ⟨E,_,h2.put dst (.sc _ _),h3,h⟩);simp [execOp,h1]);exact h.elim
 ·rename_i xs ts;split at h;(·rename_i bM hm;obtain⟨w',h1,h2,h3⟩:=Aw (ty:=type) hs (hs.oB xs) hm;refine da lu (v:=.tuple #[]) (w':=w') ?_ (hn _ _ ⟨E,_,h2.put dst (.sc _ _),h3,h⟩);simp only [execOp,resolve,Sem.run_bind,Sem.run_pure,Result.andThen_ok,invoke,builtin,h1]);exact h.elim
 ·split at h;(·rename_i B hB;obtain⟨E',w',h1,h2,h3,h4⟩:=yc (P:=P) hs hk (hs.eval _) hB;exact da lu (iN h1) (hn _ _ ⟨E',_,h2.put dst h4,h3,h⟩));exact h.elim
 ·obtain⟨z,w',st',h1,h2,h3,h4⟩:=DP (P:=P) (ty:=type) hs (hs.eval _) h;exact da lu (iN h1) (hn _ _ ⟨E,st',h2,h3,h4⟩)
 ·rename_i op T x y yT;split at h;(·rename_i m hm;obtain⟨b,hb,fZ⟩:=B7 (P:=P) (w:=w) ht x y (hs.eval x) (hs.eval y) hm;exact da lu (c6 fZ) (hn _ _ ⟨E,_,hs.put dst (.sc _ _),gE.refl E w,h b hb⟩));split at h;(·rename_i v hv;obtain⟨x,h1,h2⟩:=rh ht hs hv;exact da lu h1 (hn _ _ ⟨E,_,hs.put dst h2,gE.refl E w,h⟩));exact h.elim
 split at h;·rename_i v hv;obtain⟨x,h1,h2⟩:=rh ht hs hv;exact da lu h1 (hn _ _ ⟨E,_,hs.put dst h2,gE.refl E w,h⟩)
 exact h.elim

def fE (all:Array Oper) (fr:List V) (o:Oper):Option Bool :=
 match o.guard with
 | none=>some true
 | some (j,want)=>match (all[j]?).bind (·.dst) with
  | none=>some false
  | some d=>match fr[d]? with
   | some (.sc (.bool b))=>some (b==want)
   | some (.sc _)=>some false
   | some _=>none
   | none=>some false

theorem l7 {E:Env} {w:World} {a:Act} {st:St} (hs:cU E w a st) {all:Array Oper} {o:Oper} {b:Bool} (h:fE all st.fr o=some b):Region.wanted o (yielded all a.tmps)=b:=by
 unfold fE at h;unfold Region.wanted;split at h;·rename_i hg; rw [hg]; simpa using h
 rename_i j want hg;rw [hg];dsimp only;unfold yielded;split at h;·rename_i hd; rw [hd]; simp at h; subst h; rfl
 rename_i d hd;rw [hd];split at h;·rename_i bb hf;obtain⟨x,hx,hr⟩:=hs.fr.get hf;obtain rfl:=fY hr;simp only [aB] at h; subst h;(have:a.tmps[d]?=some (.bool bb):=by simpa using hx);simp [this]
 ·rename_i v dK hf;obtain⟨x,hx,hr⟩:=hs.fr.get hf;obtain rfl:=fY hr;simp only [aB] at h; subst h;(have:a.tmps[d]?=some x:=by simpa using hx);simp only [ann,this];cases x <;> first | rfl | exact absurd rfl (dK _)
 ·cases h
 rename_i hf;simp only [aB] at h; subst h;have hl:st.fr.length=a.tmps.size:=by have:=hs.fr.1; simpa using this
 have:a.tmps[d]?=none:=by rw [an9] at hf;exact am1 (by omega)
 simp [this]

def fq (P:Program) (tt:Table) (all:Array Oper):List Oper→St→(St→Prop)→Prop
 | [],st,Q=>Q st
 | o :: r,st,Q=>match fE all st.fr o with
  | some true=>c8 P tt st.mem.length o st fun st'=>fq P tt all r st' Q
  | some false=>fq P tt all r (st.put o.dst (.sc undef)) Q
  | none=>False

@[congr] theorem TF {P:Program} {f f':FuncId} {vs vs':List V} {st st':St} {dst:Option Tmp} {Q:St→Prop} (hf:f=f') (hv:vs=vs') (h:st=st'):wz P f vs st dst Q=wz P f' vs' st' dst Q:=by rw [hf,hv,h]
theorem put_defers (a:Act) (dst:Option Tmp) (v:Value):(a.put dst v).defers=a.defers:=by cases dst <;> rfl
theorem Ca {P:Program} {tt:Table} (ht:TT P tt) {ρ:Option Nat} {n:Nat} {all:Array Oper} {Q:St→Prop} {Q':Exit→Act→World→Prop}:∀ (Zu pre:List Oper),all.toList=pre++Zu →
  ∀ {E:Env} {w:World} {a:Act} {st:St},cU E w a st→fq P tt all Zu st Q→(∀ a' w',a'.defers=a.defers→(∃ E' st',cU E' w' a' st'∧gE E w E' w'∧Q st')→Q' .normal a' w')→wpOpsIn (WF ρ) n P all Q' (List.range' pre.length Zu.length) a w:=by intro Zu;induction Zu with | nil=>intro pre _ E w a st hs h hq; exact hq _ _ rfl ⟨E,st,hs,gE.refl E w,h⟩ | cons o r ih =>intro pre er E w a st hs h hq;(have js:all[pre.length]?=some o:=by rw [← eX,er,aW (aw _)]; simp);(have Zv:all.toList=(pre++[o])++r:=by rw [er]; simp);have ih':=@ih (pre++[o]) Zv;simp only [ch,aD,aM,ct] at ih';rw [aD,anN,wpOpsIn,js];dsimp only;simp only [fq] at h;split at h;(·rename_i hw;rw [if_pos (l7 hs hw)];refine gK ht hs (.inr rfl) h ?_;rintro v w' ⟨E',st',h1,h2,h3⟩;exact ih' h1 h3 fun a'' w'' hd ⟨Ds,Vu,h4,h5,h6⟩=>hq _ _ (hd.trans (put_defers _ _ _)) ⟨Ds,Vu,h4,h2.trans h5,h6⟩);(·rename_i hw;rw [if_neg (by rw [l7 hs hw]; simp)];exact⟨fun _ _=>trivial,ih' (hs.put o.dst (.sc _ _)) h fun a'' w'' hd h=>hq _ _ (hd.trans (put_defers _ _ _)) h⟩);exact h.elim

def Marks (E:Env) (w:World) (base:Nat) (ds:List Deferred):Prop :=
 ∃ rs:List Nat,ds=rs.map (fun r => { target:=.collected r,args := #[] })∧rs.Nodup∧∀ r∈rs,base≤r∧w.heap[r]?=some (.deferred (some []))∧∀ k v e c,E.cj k v≠some (r,e,c)
theorem Marks.LD {E E':Env} {w w':World} {base:Nat} {ds:List Deferred} (h:Marks E w base ds) (he:gE E w E' w'):Marks E' w' base ds:=by
 obtain⟨rs,h1,h2,h3⟩:=h;refine⟨rs,h1,h2,fun r hr=>?_⟩;obtain⟨h6,h4,h5⟩:=h3 r hr;have bX:r<w.heap.size:=by (rcases bW r w.heap.size with h | h);(·exact h);rw [am1 h] at h4; cases h4
 refine⟨h6,(he.heap r bX h5).trans h4,fun k v e c hk=>?_⟩;rcases he.cj _ _ _ _ _ hk with ⟨k0,v0,e0,c0,h⟩ | h
 ·exact h5 _ _ _ _ h
 omega
theorem Marks.nil (E:Env) (w:World) (base:Nat):Marks E w base []:=⟨[],rfl,.nil,fun r h=>by simp at h⟩

def Vv (E0:Env) (w0:World) (Q:Exit→St→Prop):Exit→Act→World→Prop:=fun ex a' w'=>∃ E' st',cU E' w' a' st'∧gE E0 w0 E' w'∧Marks E' w' w0.heap.size a'.defers∧Q ex st'

def dN (P:Program) (ρ:Option Nat) (n0:Nat) (c:Code) (st:St) (Q:Exit→St→Prop):Prop :=
 ∀ (E0:Env) (w0:World),(∀ k,n0≤k→∀ v,E0.cj k v=none)→∀ (E:Env) (w:World) (a:Act),gE E0 w0 E w→cU E w a st→Marks E w w0.heap.size a.defers→c.wpIn (WF ρ) 0 P (Vv E0 w0 Q) a w

def gz (next:St→Prop) (Q:Exit→St→Prop):Exit→St→Prop
 | .normal,st=>next st
 | e,st=>Q e st
def jC (id:Nat) (Q:Exit→St→Prop):Exit→St→Prop
 | .exit j,st=>if j=id then Q .normal st else Q (.exit j) st
 | e,st=>Q e st

section
variable {P:Program} {tt:Table} {ρ:Option Nat} {n0:Nat} {st:St} {Q:Exit→St→Prop}
theorem dN.mono {c:Code} {Q':Exit→St→Prop} (h:dN P ρ n0 c st Q) (hq:∀ e st',Q e st'→Q' e st'):dN P ρ n0 c st Q' :=
 fun E0 w0 h0 E w a he hs hm=>wpIn_mono (h E0 w0 h0 E w a he hs hm) fun _ _ _ ⟨E',st',h1,h2,h4,h3⟩=>⟨E',st',h1,h2,h4,hq _ _ h3⟩
theorem bZ (h:Q .normal st):dN P ρ n0 .skip st Q:=fun E0 w0 h0 E w a he hs hm=>wpIn_skip ⟨E,st,hs,he,hm,h⟩
theorem bK (h:Q .ret st):dN P ρ n0 .ret st Q:=fun E0 w0 h0 E w a he hs hm=>wpIn_ret ⟨E,st,hs,he,hm,h⟩
theorem dZ {id:Nat} (h:Q (.exit id) st):dN P ρ n0 (.exit id) st Q:=fun E0 w0 h0 E w a he hs hm=>wpIn_exit ⟨E,st,hs,he,hm,h⟩
theorem bj {x y:Code} (h:dN P ρ n0 x st (gz (fun st'=>dN P ρ n0 y st' Q) Q)):dN P ρ n0 (.seq x y) st Q:=fun E0 w0 h0 E w a he hs hm=>by refine wpIn_seq (wpIn_mono (h E0 w0 h0 E w a he hs hm) ?_);rintro e a' w' ⟨E',st',h1,h2,h4,h3⟩;cases e with | normal=>exact h3 E0 w0 h0 E' w' a' h2 h1 h4 | _=>exact⟨E',st',h1,h2,h4,h3⟩
theorem aU {c:Operand} {x y:Code} {b:Bool} (hc:st.eval c = .sc (.bool b)) (h:dN P ρ n0 (if b=true then x else y) st Q):dN P ρ n0 (.cond c x y) st Q:=fun E0 w0 h0 E w a he hs hm=>by have:=hs.eval c;rw [hc] at this;exact wpIn_cond (t:=b) (fY this) (h E0 w0 h0 E w a he hs hm)
theorem bP {id:Nat} {c:Code} (h:dN P ρ n0 c st (jC id Q)):dN P ρ n0 (.block id c) st Q:=fun E0 w0 h0 E w a he hs hm=>by refine wpIn_block (wpIn_mono (h E0 w0 h0 E w a he hs hm) ?_);rintro e a' w' ⟨E',st',h1,h2,h4,h3⟩;cases e with | exit j =>simp only [Exit.inBlock,jC] at h3 ⊢;split;(·rename_i hj; rw [if_pos hj] at h3; exact⟨E',st',h1,h2,h4,h3⟩);rename_i hj; rw [if_neg hj] at h3; exact⟨E',st',h1,h2,h4,h3⟩ | _=>exact⟨E',st',h1,h2,h4,h3⟩
theorem lL (ht:TT P tt) {id:Nat} {ops:Array Oper} (h:fq P tt ops ops.toList st (Q .normal)):dN P ρ n0 (.region id ops false) st Q:=fun E0 w0 h0 E w a he hs hm=>by refine wpIn_region ?_;have:=Ca ht (ρ:=ρ) (n:=0) (Q':=Vv E0 w0 Q) ops.toList [] (by simp) hs h (fun a' w' hd ⟨E',st',h1,h2,h3⟩=>⟨E',st',h1,he.trans h2,by rw [hd]; exact hm.LD h2,h3⟩);rw [an2];simpa using this

def k9 (P:Program) (ρ:Option Nat) (n0:Nat) (c:Code):Nat→St→(Exit→St→Prop)→Prop
 | 0,_,_=>False
 | n+1,st,Q=>dN P ρ n0 c st (gz (fun st'=>k9 P ρ n0 c n st' Q) Q)
theorem qt {c:Code} (n:Nat) (h:k9 P ρ n0 c n st Q):dN P ρ n0 (.loop c) st Q:=fun E0 w0 h0 E w a he hs hm=>by
 refine wpIn_loop_rounds n ?_;have key:∀ (n:Nat) (E1:Env) (w1:World) (a1:Act) (rW:St),cU E1 w1 a1 rW→gE E0 w0 E1 w1→Marks E1 w1 w0.heap.size a1.defers→k9 P ρ n0 c n rW Q→Code.roundsIn (WF ρ) 0 P c (Vv E0 w0 Q) n a1 w1:=by intro n;induction n with | zero=>intro E1 w1 a1 rW _ _ _ h; exact h.elim | succ n ih =>intro E1 w1 a1 rW h1 h2 h5 h3;refine wpIn_mono (h3 E0 w0 h0 E1 w1 a1 h2 h1 h5) ?_;rintro e a' w' ⟨E',st',h4,h5,h7,h6⟩;cases e with | normal=>exact ih E' w' a' st' h4 h5 h7 h6 | _=>exact⟨E',st',h4,h5,h7,h6⟩
 exact key n E w a st hs he hm h

theorem qu {c:Code} {st':St} (hw:∀ E w a,cU E w a st→cU E w a st') (h:dN P ρ n0 c st' Q):dN P ρ n0 c st Q :=
 fun E0 w0 h0 E w a he hs hm=>h E0 w0 h0 E w a he (hw E w a hs) hm


mutual
def aH (n:Nat):V→Bool
 | .ms b _ _ _=>decide (b<n)
 | .ptr b _=>decide (b<n)
 | .jz b=>decide (b<n)
 | .mp b=>decide (b<n)
 | .gC b _ _ _=>decide (b<n)
 | .undef=>true
 | .sc _=>true
 | .slice _=>true
 | .eL _=>true
 | .gn=>true
 | .full _=>true
 | .agg cs=>aO n cs
 | .eC cs=>aO n cs
 | .cC _ first cap=>aO n first&&aO n cap
def aO (n:Nat):List V→Bool
 | []=>true
 | c :: r=>aH n c&&aO n r
end
theorem fN (n:Nat) (l:List V):aO n l=l.all (aH n):=by induction l with | nil=>rfl | cons c r ih=>simp [aO,ih]
def aI (n:Nat):ba→Bool
 | .box cs=>cs.all (aH n)
 | .loop _ _ fr _ _ _=>fr.all (aH n)
 | .map dq _=>dq.all (fun k=>aH n k.2.2)
 | .jc m _ _ _=>decide (m<n)
 | _=>true
def Env.cut (E:Env) (n:Nat):Env := { F:=E.F,cj:=fun k v=>if k<n then E.cj k v else none,gl:=E.gl }

theorem iU {E:Env} {n:Nat} {v:V} {x:Value} (h:cK E v x) (hb:aH n v=true):cK (E.cut n) v x:=by induction h with | undef=>exact .undef _ _ | sc=>exact .sc _ _ | slice E rows a cap sy ad xf ha mW hz hF h1 hR ih=>exact .slice _ _ _ _ sy ad xf ha mW hz hF h1 hR | ms E b v s l g e c a cap fA hl h0 AS=>exact .ms _ _ _ _ _ g e c _ _ ((if_pos (by simpa [aH] using hb)).trans fA) hl h0 AS | iz=>exact .iz _ _ _ _ | ptr E b o g e c fA=>exact .ptr _ _ _ g e c ((if_pos (by simpa [aH] using hb)).trans fA) | jz E b l e c fA=>exact .jz _ _ l e c ((if_pos (by simpa [aH] using hb)).trans fA) | mp E b l e c fA=>exact .mp _ _ l e c ((if_pos (by simpa [aH] using hb)).trans fA) | gC E b v i o g e c fA=>exact .gC _ _ _ _ _ g e c ((if_pos (by simpa [aH] using hb)).trans fA) | eL E cs ad xf hF hR ih=>exact .eL _ _ _ xf hF hR | gn=>exact .gn _ | full E rows a h ih=>exact .full _ _ _ (ih rfl) | agg E cs xs hl hh ih =>rw [aH,fN] at hb;exact .agg _ _ _ hl fun i c x hc hx=>ih i c x hc hx (aY.1 hb c (ay hc)) | eC E cs xs hl hh ih =>rw [aH,fN] at hb;exact .eC _ _ _ hl fun i c x hc hx=>ih i c x hc hx (aY.1 hb c (ay hc)) | cC E f first cap xs ys hx hy h1 h2 U3 U4 =>rw [aH,fN,fN,aN] at hb;exact .cC _ _ _ _ _ _ hx hy (fun i c x hc hx=>U3 i c x hc hx (aY.1 hb.1 c (ay hc))) fun i c x hc hx=>U4 i c x hc hx (aY.1 hb.2 c (ay hc))

theorem cU.cut {E:Env} {w:World} {a:Act} {st:St} (hs:cU E w a st) {n:Nat} (hf:st.fr.all (aH n)=true) (hm:(st.mem.take n).all (aI n)=true):cU (E.cut n) w a { st with mem:=st.mem.take n }:=by
 have gI:∀ k v,k<n→(E.cut n).cj k v=E.cj k v:=fun k v h=>if_pos h;have jw:∀ k v,n≤k→(E.cut n).cj k v=none:=fun k v h=>if_neg (by omega);have bX:∀ {k v t},(E.cut n).cj k v=some t→k<n∧E.cj k v=some t:=fun {k v t} h=>by by_cases hk:k<n;(·rw [gI k v hk] at h; exact⟨hk,h⟩);rw [jw k v (by omega)] at h; cases h
 have js:∀ {k:Nat} {B:ba},(st.mem.take n)[k]?=some B→k<n∧st.mem[k]?=some B:=fun {k B} h=>by rw [lX] at h;split at h;(·exact⟨by assumption,h⟩);cases h
 refine⟨hs.F,fun k v g e c h=>hs.lt _ _ _ _ _ (bX h).2,fun k B hk=>?_,fun k hk v=>?_,fun k B hk v hv=>?_,fun k k' v v' g e1 c1 e2 c2 h5 h6=>hs.apart _ _ _ _ _ _ _ _ _ (bX h5).2 (bX h6).2,⟨hs.fr.1,fun i v x hv hx=>iU (hs.fr.2 i v x hv hx) (aY.1 hf v (ay hv))⟩⟩;·obtain⟨la,jA⟩:=js hk;have er:=aY.1 hm B (ay hk);have h:=hs.mem k B jA;cases B with | hole=>(exact fun v=>by rw [gI k v la]; exact h v) | dead=>trivial | box cs =>obtain⟨g,T,xs,h1,h2,h3,h4⟩:=h;exact⟨g,T,xs,(gI k 0 la).trans h1,h2,⟨h3.1,fun i v x hv hx=>iU (h3.2 i v x hv hx) (aY.1 er v (ay hv))⟩,h4⟩ | loop s mX fr params assign body =>obtain⟨l,fn,tmps,db,h1,h2,h3,h4⟩:=h;exact⟨l,fn,tmps,db,(gI k 0 la).trans h1,h2,⟨h3.1,fun i v x hv hx=>iU (h3.2 i v x hv hx) (aY.1 er v (ay hv))⟩,h4⟩ | map dq clock =>obtain⟨g,es,h1,h2,h3,h4⟩:=h;exact⟨g,es,(gI k 0 la).trans h1,h2,⟨h3.1,fun i kb e hk he=>let ⟨p1,p2,p3⟩:=h3.2 i kb e hk he; ⟨p1,p2,iU p3 (aY.1 er kb (ay hk))⟩⟩,h4⟩ | jc m since seen last =>obtain⟨g,gm,e,c,h1,h2,h3,h4⟩:=h;(have hmn:m<n:=by simpa [aI] using er);exact⟨g,gm,e,c,(gI k 0 la).trans h1,(gI m 0 hmn).trans h2,h3,h4⟩ | mS s pos =>obtain⟨g,h1,h2,h3⟩:=h;exact⟨g,(gI k 0 la).trans h1,h2,h3⟩ | nh =>obtain⟨g,h1,h2,h3⟩:=h;exact⟨g,(gI k 0 la).trans h1,h2,h3⟩ | rows v e rs =>((rcases h with ⟨h1,h2⟩ | ⟨g,T,xs,c,h1,h2⟩);(·exact .inl ⟨h1,(gI k v la).trans h2⟩);exact .inr ⟨g,T,xs,c,(gI k v la).trans h1,h2⟩) | tv v e rs =>(rcases h with ⟨h1,h2⟩ | ⟨g,c,h1,h2⟩);(·exact .inl ⟨h1,(gI k v la).trans h2⟩);exact .inr ⟨g,c,(gI k v la).trans h1,h2⟩
 ·by_cases la:k<n;(·rw [gI k v la];refine hs.top k ?_ v;dsimp only at hk;rw [dz] at hk; omega);exact jw k v (by omega)
 obtain⟨la,jA⟩:=js hk;rw [gI k v la]; exact hs.dw k B jA v hv

def forget (wE:List Nat) (fr:List V):List V:=wE.foldl (fun fr i=>fr.set i .undef) fr
theorem cU.forget {E:Env} {w:World} {a:Act} (wE:List Nat):∀ {st:St},cU E w a st→cU E w a { st with fr:=Eng.forget wE st.fr }:=by induction wE with | nil=>intro st hs; exact hs | cons i r ih =>intro st hs;(have:cU E w a { st with fr:=st.fr.set i .undef }:=by refine⟨hs.F,hs.lt,hs.mem,hs.top,hs.dw,hs.apart,⟨by simpa using hs.fr.1,fun j v x hv hx=>?_⟩⟩;dsimp only at hv;rw [bw] at hv;split at hv;(·split at hv;(·cases hv; exact .undef _ _);cases hv);exact hs.fr.2 j v x hv hx);exact ih this

theorem ym {c:Code} (n:Nat) (wE:List Nat) (hn:n0≤n) (hf:(forget wE st.fr).all (aH n)=true) (hm:(st.mem.take n).all (aI n)=true)
  (h:dN P ρ n0 c { fr:=forget wE st.fr,mem:=st.mem.take n } Q):dN P ρ n0 c st Q:=fun E0 w0 h0 E w a he hs Dt=>by
 have h1:=(hs.forget wE).cut (n:=n) hf hm
 refine h E0 w0 h0 (E.cut n) w a ⟨⟨he.le.F,fun k v t hk=>?_⟩,fun k v g e c hk=>?_,he.F,he.os,he.tape,he.output,he.size,he.heap⟩ h1 ?_
 rotate_left 2
 ·obtain⟨rs,m1,m2,m3⟩:=Dt
  refine⟨rs,m1,m2,fun r hr=>⟨(m3 r hr).1,(m3 r hr).2.1,fun k v e c hk=>?_⟩⟩
  have:E.cj k v=some (r,e,c):=by
   by_cases la:k<n
   ·exact ((if_pos la).symm.trans hk:E.cj k v=_)
   have h2:(E.cut n).cj k v=none:=if_neg la
   rw [h2] at hk; cases hk
  exact (m3 r hr).2.2 _ _ _ _ this
 ·have:k<n:=by
   rcases bW k n with bX | jw
   ·exact bX
   rw [h0 k (by omega) v] at hk; cases hk
  exact (if_pos this).trans (he.le.cj _ _ _ hk)
 have:E.cj k v=some (g,e,c):=by
  by_cases la:k<n
  ·exact ((if_pos la).symm.trans hk:E.cj k v=_)
  have h2:(E.cut n).cj k v=none:=if_neg la
  rw [h2] at hk; cases hk
 exact he.cj _ _ _ _ _ this

theorem cU.Q9 {E:Env} {w:World} {a:Act} {st:St} (hs:cU E w a st) {i b v:Nat} (h:st.fr[i]?=some (.sc (.slice none 0 0))):cU E w a { st with fr:=st.fr.set i (.ms b v 0 0) }:=by
 refine⟨hs.F,hs.lt,hs.mem,hs.top,hs.dw,hs.apart,⟨by simpa using hs.fr.1,fun j u x hu hx=>?_⟩⟩;dsimp only at hu;rw [bw] at hu;split at hu;·rename_i Gd;subst Gd;split at hu;(·cases hu;have:=hs.fr.2 _ _ _ h hx;rw [fY this];exact .iz _ _ _ _);cases hu
 exact hs.fr.2 j u x hu hx
end

def oe (tt:Table) (st:St):ResultVar→Option V
 | .tmp t=>some (st.fr.getD t .undef)
 | .cell a T=>pM tt st.mem T (st.fr.getD a .undef)
def mZ (tt:Table) (st:St):List ResultVar→Option (List V)
 | []=>some []
 | r :: rs=>match oe tt st r with
  | some v=>match mZ tt st rs with | some l=>some (v :: l) | none=>none
  | none=>none
def pV (tt:Table) (rs:Array ResultVar) (st:St):Option V :=
 match mZ tt st rs.toList with
 | some [v]=>DR st.mem v
 | some vs=>DR st.mem (.eC vs)
 | none=>none

theorem np {P:Program} {tt:Table} (ht:TT P tt) {E:Env} {w:World} {a:Act} {st:St} (hs:cU E w a st):∀ (rs:List ResultVar) (vs:List V),mZ tt st rs=some vs →
  ∃ xs:List Value,(rs.mapM (fun | .tmp t=>pure (a.tmps.getD t undef) | .cell p t=>do loadVar t (← asAddr (a.tmps.getD p undef))):Sem (List Value)).run P w = .ok xs w∧cz E vs xs
 | [],vs,h=>by simp [mZ] at h; subst h; exact⟨[],rfl,.nil _⟩
 | r :: rs,vs,h=>by
  simp only [mZ] at h
  split at h
  ·rename_i v hv
   split at h
   ·rename_i l hl
    simp only [aB] at h; subst h
    obtain⟨xs,h1,h2⟩:=np ht hs rs l hl
    have hx:∃ x,((match r with | .tmp t=>pure (a.tmps.getD t undef) | .cell p t=>do loadVar t (← asAddr (a.tmps.getD p undef))):Sem Value).run P w = .ok x w∧cK E v x:=by
     cases r with
     | tmp t =>
      simp only [oe,aB] at hv; subst hv
      exact⟨_,rfl,hs.eval (.tmp t)⟩
     | cell p t =>
      simp only [oe] at hv
      have hp:=hs.eval (.tmp p)
      obtain⟨y,h3,h4⟩:=wk ht hs hp hv
      refine⟨y,?_,h4⟩
      have LF:∃ ad,a.tmps.getD p undef = .pointer (some ad):=by
       have YE:cK E (st.fr.getD p .undef) (a.tmps.getD p undef):=hp
       revert YE hv
       generalize st.fr.getD p .undef=q
       generalize a.tmps.getD p undef=z
       intro hv YE
       cases YE with
       | ptr=>exact⟨_,rfl⟩
       | gC=>exact⟨_,rfl⟩
       | eL=>exact⟨_,rfl⟩
       | _=>simp [pM] at hv
      obtain⟨ad,had⟩:=LF
      have h3':(Instr.loadAt t (a.tmps.getD p undef)).run P w = .ok y w:=h3
      show ((do loadVar t (← asAddr (a.tmps.getD p undef))):Sem Value).run P w=_
      rw [had] at h3' ⊢
      simpa [Instr.loadAt,Instr.sureAddr,asAddr] using h3'
    obtain⟨x,h3,h4⟩:=hx
    refine⟨x :: xs,?_,.cons h4 h2⟩
    simp only [ani,Sem.run_bind]
    rw [h3]
    simp only [Result.andThen_ok]
    rw [h1]
    rfl
   cases h
  cases h

theorem GG {P:Program} {tt:Table} (ht:TT P tt) {E:Env} {w:World} {a:Act} {st:St} (hs:cU E w a st) {fn:Func} {r:V} (h:pV tt fn.results st=some r) :
  ∃ keys x,(results fn a.tmps).run P w = .ok x w∧cK (E.oX w keys).pure r x:=by
 unfold pV at h
 have run:∀ xs:List Value,(fn.results.toList.mapM (fun | .tmp t=>pure (a.tmps.getD t undef) | .cell p t=>do loadVar t (← asAddr (a.tmps.getD p undef))):Sem (List Value)).run P w = .ok xs w →
   (results fn a.tmps).run P w = .ok (if h:xs.toArray.size=1 then xs.toArray[0] else .tuple xs.toArray) w:=fun xs hx=>by
  unfold results
  rw [anC]
  simp only [Sem.run_bind,Sem.run_map]
  erw [hx]
  rfl
 split at h;·rename_i v hv;obtain⟨xs,h1,h2⟩:=np ht hs _ _ hv;obtain⟨x,ys,rfl,h3,h4⟩:=h2.of_cons;have:=h4.of_nil; subst this;exact⟨refs v,x,run _ h1,AZ hs h3 h fun k hk=>hk⟩
 ·rename_i vs dK hv;obtain⟨xs,h1,h2⟩:=np ht hs _ _ hv;(have hl:xs.toArray.size≠1:=by have:=h2.1;intro he;match vs,xs,this,he with | [v],_,_,_=>exact dK v rfl | [],[],_,he=>simp at he | [],_ :: _,h,_=>simp at h | _ :: _ :: _,[],h,_=>simp at h | _ :: _ :: _,_ :: [],h,_=>simp at h | _ :: _ :: _,_ :: _ :: _,_,he=>simp at he);have h3:=run _ h1;rw [dif_neg hl] at h3;exact⟨refs (.eC vs),_,h3,AZ hs (.eC _ _ _ (by simpa using h2.1) fun i c x hc hx=>h2.2 i c x hc (by simpa using hx)) h fun k hk=>hk⟩
 cases h

def cn (fn:Func) (args:List V) (mem:List ba):St := { fr:=args++List.replicate (fn.ntmps-args.length) (.sc undef),mem:=mem }
theorem wF {E:Env} (fn:Func) {args:List V} {mem:List ba} {xs:Array Value} (hx:cz E args xs.toList):cz E (cn fn args mem).fr (xs++Array.replicate (fn.ntmps-xs.size) undef).toList:=by
 have hl:args.length=xs.size:=by have:=hx.1; simpa using this
 simp only [cn,jr,Array.toList_replicate,hl];refine hx.append ⟨by simp,fun i v x hv hx=>?_⟩;rw [anx] at hv hx;split at hv;·rename_i hi; rw [if_pos hi] at hx; cases hv; cases hx; exact .sc _ _
 cases hv

theorem Cb {P:Program} {w:World} {r:Nat} (h:w.heap[r]?=some (.deferred (some []))):(Instr.takeDeferred r).run P w = .ok [] { w with heap:=w.heap.setIfInBounds r (.deferred none) }:=by simp [Instr.takeDeferred,getObj,setObj,Sem.run,h,bind,Sem.bind,pure]

theorem o8 {P:Program} {fn:Func} {tmps:Array Value} {R:Ending→World→Prop}:∀ (rs:List Nat) (w:World),rs.Nodup→(∀ r∈rs,w.heap[r]?=some (.deferred (some []))) →
  (∀ w',w'.os=w.os→w'.tape=w.tape→w'.output=w.output→w'.heap.size=w.heap.size→(∀ b,b ∉ rs→w'.heap[b]?=w.heap[b]?)→∃ v,(results fn tmps).run P w' = .ok v w'∧R (.returned v) w') →
  LeavesInM (WF none) 0 P fn tmps R (rs.map (fun r => { target:=.collected r,args := #[] })) .returning w
 | [],w,_,_,h=>by
  obtain⟨v,h1,h2⟩:=h w rfl rfl rfl rfl fun _ _=>rfl
  exact⟨v,h1,h2⟩
 | r :: rs,w,hn,hr,h=>by
  refine⟨by simp,.inl ⟨r,_,rfl,Cb (hr r (bJ ..)),?_⟩⟩
  rw [anI] at hn
  have yn:∀ b,b≠r→(w.heap.setIfInBounds r (.deferred none))[b]?=w.heap[b]?:=fun b hb=>BA (fun e=>hb e.symm)
  refine o8 rs _ hn.2 (fun r' Dr=>?_) fun w' h1 h2 h3 h4 h5=>?_
  ·rw [yn r' (fun e=>hn.1 (e ▸ Dr))]; exact hr r' (bh _ Dr)
  exact h w' h1 h2 h3 (by rw [h4]; simp) fun b hb=>by
   simp only [cp,not_or] at hb
   rw [h5 b hb.2,yn b hb.1]

theorem cU.Mi {E:Env} {w w':World} {a:Act} {st:St} (hs:cU E w a st) {rs:List Nat} (hr:∀ r∈rs,w.heap[r]?=some (.deferred (some []))∧∀ k v e c,E.cj k v≠some (r,e,c)) (lZ:w'.heap.size=w.heap.size)
  (hh:∀ b,b ∉ rs→w'.heap[b]?=w.heap[b]?):cU E w' a st:=by
 refine⟨fun ad x hx=>?_,fun k v g e c h=>by rw [lZ]; exact hs.lt _ _ _ _ _ h,fun k B hk=>?_,hs.top,hs.dw,hs.apart,hs.fr⟩;·have hc:=hs.F ad x hx;(have:ad.block ∉ rs:=fun n8=>by have:=(hr _ n8).1;simp [World.cell?,this] at hc);rw [← hc]; simp [World.cell?,hh _ this]
 exact (hs.mem k B hk).mono E.le_refl (fun _ h=>h) (fun g e c h=>hh g fun n8=>(hr g n8).2 _ _ _ _ h) fun _ _ _ _ _ h=>h

theorem je {P:Program} {tt:Table} (ht:TT P tt) {f:FuncId} {fn:Func} {body:Code} {args:List V} {r:V} (hf:P.funcs[f]?=some fn) (hb:fn.body=some body)
  (fR:∀ (xs:Array Value) (w:World),(callFunc f xs).run P w = .ok (.enter f xs) w)
  (h:dN P none 0 body (cn fn args []) fun ex st'=>(ex = .ret∨ex = .normal)∧pV tt fn.results st'=some r):bG P f args r:=by
 refine⟨fR,fun F hg w xs hF hx=>DZ (n:=0) (callsIn_of_wp_marks hf hb trivial ?_)⟩;have hs:cU ⟨F,fun _ _=>none,hg⟩ w { tmps:=xs++Array.replicate (fn.ntmps-xs.size) undef,defers:=[] } (cn fn args []):=by refine⟨hF,(fun k v g e c h=>by cases h),(fun k B h=>by simp [cn] at h),(fun k _ v=>rfl),(fun k B h=>by simp [cn] at h),(fun k k' v v' g e c e' c' h=>by cases h),wF fn hx⟩
 refine wpIn_mono (h _ w (fun k _ v=>rfl) _ w _ (gE.refl _ w) hs (.nil _ _ _)) ?_;rintro e a' w' ⟨E',st',h1,h2,⟨rs,hd,lu,LX⟩,he,hr⟩
 have post:LeavesInM (WF none) 0 P fn a'.tmps (fun e w'=>∃ F' x,e = .returned x∧(∀ ad y,F ad=some y→F' ad=some y)∧(∀ ad y,F' ad=some y→w'.cell? ad=some y)∧(∀ ad y,F' ad=some y→F ad=some y∨w.heap.size≤ad.block) ∧
   (∃ DT,cK ⟨F',fun _ _=>none,DT⟩ r x)∧Below w.heap.size w w') a'.defers .returning w':=by
  rw [hd]
  refine o8 rs w' lu (fun r hr=>(LX r hr).2.1) fun w2 k1 k2 k3 k4 k5=>?_
  have Lx:=h1.Mi (fun r hr=>(LX r hr).2) k4 k5
  obtain⟨keys,x,h3,h4⟩:=GG ht Lx hr
  have hold:∀ r∈rs,w.heap.size≤r:=fun r hr=>(LX r hr).1
  refine⟨x,h3,(E'.oX w2 keys).F,x,rfl,fun ad y hy=>(Env.vo E' w2 keys).F _ _ (h2.le.F _ _ hy),fun ad y hy=>Env.Iy Lx.F hy,fun ad y hy=>?_,⟨_,h4⟩,⟨k1.trans h2.os,k2.trans h2.tape,k3.trans h2.output,by rw [k4]; exact h2.size,fun b hb=>(k5 b fun n8=>by have:=hold b n8; omega).trans (h2.heap b hb (by simp))⟩⟩
  rcases Env.B6 hy with h | ⟨k,-,e,c,h⟩
  ·rcases h2.F _ _ h with h | h | ⟨k0,v0,e0,c0,h⟩
   ·exact .inl h
   ·exact .inr h
   cases h
  rcases h2.cj _ _ _ _ _ h with ⟨k0,v0,e0,c0,h⟩ | h
  ·cases h
  exact .inr h
 rcases he with rfl | rfl <;> exact post
end Go.Eng
end

section
namespace Go.Eng
variable [a6]

def rl:List (Nat×Ti)→Table
 | [],_=>none
 | (k,i) :: r,t=>if t=k then some i else rl r t

def Cc:Value→Value→Bool
 | .bool a,.bool b=>a==b
 | .int k n,.int k' n'=>k==k'&&n==n'
 | .string a,.string b=>a.data==b.data
 | .pointer none,.pointer none=>true
 | .slice none a b,.slice none c d=>a==c&&b==d
 | .map none,.map none=>true
 | .nilFunc,.nilFunc=>true
 | .nilIface,.nilIface=>true
 | _,_=>false
def nT:List Value→List Value→Bool
 | [],[]=>true
 | a :: r,b :: s=>Cc a b&&nT r s
 | _,_=>false
theorem A1 {a b:Value} (h:Cc a b=true):a=b:=by
 unfold Cc at h;split at h;·simp at h; rw [h]
 ·simp at h; rw [h.1,h.2]
 ·rename_i a b;(have:a.data=b.data:=by simpa using h);congr 1;cases a; cases b; simp_all
 ·rfl
 ·simp at h; rw [h.1,h.2]
 ·rfl
 ·rfl
 ·rfl
 cases h
theorem o9:∀ {a b:List Value},nT a b=true→a=b
 | [],[],_=>rfl
 | x :: r,y :: s,h=>by
  simp only [nT,aN] at h
  rw [A1 h.1,o9 h.2]
 | [],_ :: _,h=>by simp [nT] at h
 | _ :: _,[],h=>by simp [nT] at h

def vp (P:Program):List Field→List (Nat×Nat)→Bool
 | [],[]=>true
 | f :: r,p :: s=>f.offset==p.1&&p.2 != 0&&(match P.info? f.type with | some i=>i.size==p.2 | none=>false)&&vp P r s
 | _,_=>false

def Ra (P:Program) (t:TypeId) (i:Ti):Bool :=
 match P.info? t with
 | none=>false
 | some info=>info.size==i.size&&info.bytes==i.bytes&&(match info.zero with | some z=>nT z.cells.toList i.zero | none=>false) &&
  match P.underlying t with
  | none=>false
  | some d=>(i.agg==(match d with | .struct _=>true | .array _ _=>true | _=>false)) &&
   (match i.elem with | none=>true | some e=>(match d with | .slice e'=>e'==e | _=>false)) &&
   (match i.bd with | []=>true | fl=>(match d with | .struct fs=>vp P fs.toList fl | _=>false))

def IB (P:Program):List (Nat×Ti)→Bool
 | []=>true
 | (t,i) :: r=>Ra P t i&&IB P r

theorem yp {P:Program}:∀ {fs:List Field} {fl:List (Nat×Nat)},vp P fs fl=true→fs.length=fl.length∧∀ (k off sz:Nat),fl[k]?=some (off,sz)→∃ f inf,fs[k]?=some f∧f.offset=off∧P.info? f.type=some inf∧inf.size=sz∧sz≠0
 | [],[],_=>⟨rfl,fun k off sz h=>by simp at h⟩
 | f :: r,p :: s,h=>by
  simp only [vp,aN,beq_iff_eq,bne_iff_ne] at h
  obtain⟨⟨⟨h1,h2⟩,h3⟩,h4⟩:=h
  obtain⟨h5,h6⟩:=yp h4
  refine⟨by simp [h5],fun k off sz hk=>?_⟩
  cases k with
  | zero =>
   simp only [fb,aB] at hk; subst hk
   split at h3
   ·rename_i inf hi
    exact⟨f,inf,rfl,h1,hi,by simpa using h3,h2⟩
   cases h3
  | succ k=>exact h6 k off sz (by simpa using hk)
 | [],_ :: _,h=>by simp [vp] at h
 | _ :: _,[],h=>by simp [vp] at h

theorem IC {P:Program} {t:TypeId} {i:Ti} (h:Ra P t i=true) :
  (∃ info,P.info? t=some info∧info.size=i.size∧info.bytes=i.bytes∧∃ z,info.zero=some z∧z.cells.toList=i.zero) ∧
  (∃ d,P.underlying t=some d∧(i.agg=true↔((∃ fs,d = .struct fs)∨∃ n e,d = .array n e))∧(∀ e,i.elem=some e→d = .slice e) ∧
   (∀ (f off sz:Nat),i.bd[f]?=some (off,sz)→∃ fs fd inf,d = .struct fs∧fs.size=i.bd.length∧fs[f]?=some fd∧fd.offset=off∧P.info? fd.type=some inf∧inf.size=sz∧sz≠0)):=by
 unfold Ra at h;split at h;·cases h
 rename_i info Zw;simp only [aN,beq_iff_eq] at h;obtain⟨⟨⟨h1,h2⟩,h3⟩,h4⟩:=h;split at h3;·rename_i z hz;refine⟨⟨info,Zw,h1,h2,z,hz,o9 h3⟩,?_⟩;split at h4;(·cases h4);rename_i d hd;simp only [aN,beq_iff_eq] at h4;obtain⟨⟨h5,h6⟩,h7⟩:=h4;refine⟨d,hd,?_,?_,?_⟩;(·rw [h5];cases d <;> simp);(·intro e he;rw [he] at h6;dsimp only at h6;split at h6;(·simp at h6; rw [h6]);cases h6);intro f off sz hf;split at h7;(·rename_i Me; rw [Me] at hf; simp at hf);split at h7;(·rename_i fs;obtain⟨h8,h9⟩:=yp h7;obtain⟨fd,inf,Mj,Vw⟩:=h9 f off sz hf;exact⟨fs,fd,inf,rfl,by simpa using h8,by simpa using Mj,Vw⟩);cases h7
 cases h3

theorem vq {P:Program}:∀ {l:List (Nat×Ti)},IB P l=true→∀ t i,rl l t=some i→Ra P t i=true
 | [],_,t,i,h=>by simp [rl] at h
 | (k,j) :: r,h,t,i,ht=>by
  simp only [IB,aN] at h
  simp only [rl] at ht
  split at ht
  ·rename_i hk; subst hk; cases ht; exact h.1
  exact vq h.2 t i ht
theorem tt_of {P:Program} {l:List (Nat×Ti)} (h:IB P l=true):TT P (rl l) :=
 ⟨fun t i ht=>(IC (vq h t i ht)).1,fun t i ht=>(IC (vq h t i ht)).2⟩
end Go.Eng
end

section
namespace Go.Eng
variable [a6]

section
variable {P:Program} {tt:Table} {ρ:Option Nat} {n0:Nat} {st:St} {Q:Exit→St→Prop}
theorem af (ht:TT P tt) {id:Nat} {ops:Array Oper} {y:Code} (h:∀ K:St→Prop,(∀ st',dN P ρ n0 y st' Q→K st')→fq P tt ops ops.toList st K):dN P ρ n0 (.seq (.region id ops false) y) st Q :=
 bj (lL ht (h (fun st'=>dN P ρ n0 y st' Q) fun _ h=>h))
theorem aV (ht:TT P tt) {id:Nat} {ops:Array Oper} (h:∀ K:St→Prop,(∀ st',Q .normal st'→K st')→fq P tt ops ops.toList st K):dN P ρ n0 (.region id ops false) st Q :=
 lL ht (h (Q .normal) fun _ h=>h)
def bp:List Bool→List V→List V
 | _,[]=>[]
 | [],_ :: r=>.undef :: bp [] r
 | b :: m,v :: r=>(if b=true then v else .undef) :: bp m r
theorem sH {E:Env}:∀ (m:List Bool) {vs:List V} {xs:List Value},cz E vs xs→cz E (bp m vs) xs
 | m,[],xs,h=>by rw [h.of_nil]; cases m <;> exact .nil _
 | [],v :: r,xs,h=>by
  obtain⟨x,ys,rfl,h1,h2⟩:=h.of_cons
  exact .cons (.undef _ _) (sH [] h2)
 | b :: m,v :: r,xs,h=>by
  obtain⟨x,ys,rfl,h1,h2⟩:=h.of_cons
  refine .cons ?_ (sH m h2)
  cases b
  ·exact .undef _ _
  exact h1
theorem cU.mask {E:Env} {w:World} {a:Act} {st:St} (hs:cU E w a st) (m:List Bool):cU E w a { st with fr:=bp m st.fr } :=
 ⟨hs.F,hs.lt,hs.mem,hs.top,hs.dw,hs.apart,sH m hs.fr⟩
theorem oE {c:Code} (n:Nat) (m:List Bool) (hn:n0≤n) (hf:(bp m st.fr).all (aH n)=true) (hm:(st.mem.take n).all (aI n)=true)
  (h:dN P ρ n0 c { fr:=bp m st.fr,mem:=st.mem.take n } Q):dN P ρ n0 c st Q :=
 qu (st' := { st with fr:=bp m st.fr }) (fun E w a hs=>hs.mask m) (ym n [] hn hf hm h)
def D0 (n0:Nat) (st:St) (I:St→Prop):Prop :=
 ∃ (n:Nat) (m:List Bool),n0≤n∧(bp m st.fr).all (aH n)=true∧(st.mem.take n).all (aI n)=true∧I { fr:=bp m st.fr,mem:=st.mem.take n }
theorem sI {c:Code}:∀ {n n':Nat} {st:St},n≤n'→k9 P ρ n0 c n st Q→k9 P ρ n0 c n' st Q
 | 0,_,_,_,h=>h.elim
 | n+1,0,_,hn,_=>by omega
 | n+1,n'+1,st,hn,h=>dN.mono h fun e st' hq=>by
  cases e with
  | normal=>exact sI (by omega) hq
  | _=>exact hq
theorem cR {c:Code} (I:Nat→St→Prop) (N:Nat) (h0:D0 n0 st (I N))
  (step:∀ n st,I n st→dN P ρ n0 c st (gz (fun st'=>∃ k,k<n∧D0 n0 st' (I k)) Q)):dN P ρ n0 (.loop c) st Q:=by
 have key:∀ (n:Nat) (st:St),I n st→k9 P ρ n0 c (n+1) st Q:=by intro n;induction n using Nat.strongRecOn with | _ n ih =>intro st hi;refine dN.mono (step n st hi) fun e st' hq=>?_;cases e with | normal =>(obtain⟨k,hk,n1,m,h1,h2,h3,h4⟩:=hq;have:=ih k hk _ h4;have:k9 P ρ n0 c n { fr:=bp m st'.fr,mem:=st'.mem.take n1 } Q:=sI (by omega) this;cases n with | zero=>omega | succ n=>exact oE n1 m h1 h2 h3 this) | _=>exact hq
 obtain⟨n1,m,h1,h2,h3,h4⟩:=h0;exact oE n1 m h1 h2 h3 (qt (N+1) (key N _ h4))
theorem D1 {c:Code} (h:∃ n,k9 P ρ n0 c n st Q):dN P ρ n0 (.loop c) st Q:=let ⟨n,hn⟩:=h; qt n hn
end

theorem nU {α β:Type} (P:Program) (s:Sem α) (f:α→Sem β):dv P (s >>= f)=(dv P s).bind fun a=>dv P (f a):=by show dv P (s.bind f)=_;induction s with | pure a=>rfl | program k ih=>exact ih P | mark m k ih=>exact ih | _=>rfl
theorem tJ {P:Program} {T:TypeId} {d:TypeDesc} (h:P.underlying T=some d):dv P (underlying T)=some d:=by simp [underlying,nU,program,dv,h,pure]
theorem wG {P:Program} {T:TypeId} (hT:P.underlying T=some .bool) (p q:Bool):dv P (Op.equal T (.bool p) (.bool q))=some (p==q):=by show dv P (Op.equalIn (9999+1) T (.bool p) (.bool q))=_;rw [Op.equalIn,nU,tJ hT];rfl

section ints
variable (P:Program) (T:TypeId) (x y:Operand) (k:IntKind) (a b:Int)
theorem Vx:eM P (rU .add T x y) (.sc (.int k a)) (.sc (.int k b))=some (.sc (.int k (k.wrap (a+b)))):=by simp [eM,fw,rU,binOp,Op.intArith,eqGuard,dv,kx,bind,pure,Sem.bind]
theorem Vy:eM P (rU .sub T x y) (.sc (.int k a)) (.sc (.int k b))=some (.sc (.int k (k.wrap (a-b)))):=by simp [eM,fw,rU,binOp,Op.intArith,eqGuard,dv,kx,bind,pure,Sem.bind]
theorem Vz:eM P (rU .mul T x y) (.sc (.int k a)) (.sc (.int k b))=some (.sc (.int k (k.wrap (a*b)))):=by simp [eM,fw,rU,binOp,Op.intArith,eqGuard,dv,kx,bind,pure,Sem.bind]
theorem VB:eM P (rU .lss T x y) (.sc (.int k a)) (.sc (.int k b))=some (.sc (.bool (decide (a<b)))):=by simp [eM,fw,rU,binOp,Op.intCmp,eqGuard,dv,kx,bind,pure,Sem.bind]
theorem VE:eM P (rU .leq T x y) (.sc (.int k a)) (.sc (.int k b))=some (.sc (.bool (decide (a≤b)))):=by simp [eM,fw,rU,binOp,Op.intCmp,eqGuard,dv,kx,bind,pure,Sem.bind]
theorem VH:eM P (rU .gtr T x y) (.sc (.int k a)) (.sc (.int k b))=some (.sc (.bool (decide (b<a)))):=by simp [eM,fw,rU,binOp,Op.intCmp,eqGuard,dv,kx,bind,pure,Sem.bind]
theorem VI:eM P (rU .geq T x y) (.sc (.int k a)) (.sc (.int k b))=some (.sc (.bool (decide (b≤a)))):=by simp [eM,fw,rU,binOp,Op.intCmp,eqGuard,dv,kx,bind,pure,Sem.bind]
theorem VJ:eM P (rU .eql T x y) (.sc (.int k a)) (.sc (.int k b))=some (.sc (.bool (decide (a=b)))):=by simp [eM,fw,rU,binOp,Op.intCmp,eqGuard,dv,kx,bind,pure,Sem.bind];rfl
theorem VK:eM P (rU .neq T x y) (.sc (.int k a)) (.sc (.int k b))=some (.sc (.bool (!decide (a=b)))):=by simp [eM,fw,rU,binOp,Op.intCmp,eqGuard,dv,kx,bind,pure,Sem.bind];rfl
theorem VL (ts:Array TypeId) (ty:TypeId):kZ P (Builtin.max_ ts ty) [.sc (.int k a),.sc (.int k b)]=some (.sc (.int k (if a<b then b else a))):=by simp [kZ,oa,fw,Builtin.max_,Builtin.max2,dv,kx,bind,pure,Sem.bind]
theorem VM (t:Bool):sg P (Op.unary .not) (.sc (.bool t))=some (.sc (.bool (!t))):=by simp [sg,fw,Op.unary,dv,kx,pure]
end ints

section strings
variable (P:Program) (T:TypeId) (x y:Operand) (a b:ByteArray)
theorem Rb:eM P (rU .eql T x y) (.sc (.string a)) (.sc (.string b))=some (.sc (.bool (a.toList==b.toList))):=by simp [eM,fw,rU,binOp,Op.stringOp,eqGuard,dv,kx,bind,pure,Sem.bind]
theorem Rc:eM P (rU .neq T x y) (.sc (.string a)) (.sc (.string b))=some (.sc (.bool (!(a.toList==b.toList)))):=by simp [eM,fw,rU,binOp,Op.stringOp,eqGuard,dv,kx,bind,pure,Sem.bind]
theorem Cd (h:((a.size+b.size:Nat):Int)≤IntKind.i64.max):eM P (rU .add T x y) (.sc (.string a)) (.sc (.string b))=some (.sc (.string (a++b))):=by
 have h':¬ ((a.size+b.size:Nat):Int)>IntKind.i64.max:=by omega
 simp only [eM,fw,rU,binOp,Op.stringOp,if_neg h'];simp [eqGuard,dv,kx,bind,pure,Sem.bind]
theorem mr {P:Program} {T:TypeId} (hT:P.underlying T=some .string) (k:IntKind) (n:Int) (h0:0≤n) {c:UInt8} (hc:a[n.toNat]?=some c):eM P (Instr.index T) (.sc (.string a)) (.sc (.int k n))=some (.sc (.int .u8 c.toNat)):=by simp [eM,fw,Instr.index,asIntOf,underlying,hT,h0,hc,dv,kx,bind,pure,Sem.bind,program]
theorem l8 {P:Program} {tt:Table} {T:TypeId} (hT:P.underlying T=some .string) (ty:TypeId):BI P tt #[T] ty [.sc (.string a)]=some (.sc (.int .i64 a.size)):=by simp [BI,kZ,oa,fw,Builtin.len_,underlying,hT,dv,kx,bind,pure,Sem.bind,program,goInt]
theorem GH {P:Program} {tt:Table} {mem:List ba} {T:TypeId} (hT:P.underlying T=some .string) (k:IntKind) (n:Int) (h0:0≤n) (hn:n≤a.size) :
  BG P tt mem T (.sc (.string a)) (some (.sc (.int k n))) none=some (.sc (.string (a.extract n.toNat a.size))):=by simp [BG,eM,fw,Instr.sliceAt,Instr.slice,Instr.sliceBounds,Instr.sliceBound,asIntOf,underlying,hT,h0,hn,dv,kx,bind,pure,Sem.bind,program]
theorem Re {P:Program} {T:TypeId} (hT:P.underlying T=some .bool) (p q:Bool):eM P (rU .eql T x y) (.sc (.bool p)) (.sc (.bool q))=some (.sc (.bool (p==q))):=by
 have:dv P (do eqGuard .eql T x y (.bool p) (.bool q); binOp .eql T (.bool p) (.bool q))=some (.bool (p==q)):=by show dv P ((Op.equal T (.bool p) (.bool q)) >>= fun r=>Pure.pure (Value.bool r))=_;rw [nU,wG hT]; rfl
 simp only [eM,fw,rU,this]; rfl
theorem Ce {P:Program} {T:TypeId} (hT:P.underlying T=some .bool) (p q:Bool):eM P (rU .neq T x y) (.sc (.bool p)) (.sc (.bool q))=some (.sc (.bool (!(p==q)))):=by
 have:dv P (do eqGuard .neq T x y (.bool p) (.bool q); binOp .neq T (.bool p) (.bool q))=some (.bool (!(p==q))):=by show dv P ((Op.equal T (.bool p) (.bool q)) >>= fun r=>Pure.pure (Value.bool !r))=_;rw [nU,wG hT]; rfl
 simp only [eM,fw,rU,this]; rfl
theorem Rf {P:Program} {src dst:TypeId} {d:TypeDesc} {k':IntKind} (hs:P.underlying src=some d) (hd:P.underlying dst=some (.int k')) (k:IntKind) (n:Int):sg P (convert src dst) (.sc (.int k n))=some (.sc (.int k' (k'.wrap n))):=by simp [sg,fw,convert,underlying,hs,hd,Conv.intToInt,dv,kx,bind,pure,Sem.bind,program]
end strings
end Go.Eng
end

section
namespace Go.Eng
variable [a6]
open Go.RowKit (Below)

theorem gE.cut {E E':Env} {w w':World} (h:gE E w E' w') {n:Nat} (hn:∀ k,n≤k→∀ v,E.cj k v=none):gE E w (E'.cut n) w':=by
 refine⟨⟨h.le.F,fun k v t hk=>?_⟩,fun k v g e c hk=>?_,h.F,h.os,h.tape,h.output,h.size,h.heap⟩;·(have:k<n:=by (rcases bW k n with bX | jw);(·exact bX);rw [hn k jw v] at hk; cases hk);exact (if_pos this).trans (h.le.cj _ _ _ hk)
 have:E'.cj k v=some (g,e,c):=by by_cases la:k<n;(·exact ((if_pos la).symm.trans hk:E'.cj k v=_));have h2:(E'.cut n).cj k v=none:=if_neg la;rw [h2] at hk; cases hk
 exact h.cj _ _ _ _ _ this

def ka (tt:Table) (rs:Array ResultVar) (st:St):Option V :=
 match mZ tt st rs.toList with
 | some [v]=>some v
 | some vs=>some (.eC vs)
 | none=>none

theorem Cf {P:Program} {tt:Table} (ht:TT P tt) {E:Env} {w:World} {a:Act} {st:St} (hs:cU E w a st) {fn:Func} {r:V} (h:ka tt fn.results st=some r):∃ x,(results fn a.tmps).run P w = .ok x w∧cK E r x:=by
 unfold ka at h
 have run:∀ xs:List Value,(fn.results.toList.mapM (fun | .tmp t=>pure (a.tmps.getD t undef) | .cell p t=>do loadVar t (← asAddr (a.tmps.getD p undef))):Sem (List Value)).run P w = .ok xs w →
   (results fn a.tmps).run P w = .ok (if h:xs.toArray.size=1 then xs.toArray[0] else .tuple xs.toArray) w:=fun xs hx=>by
  unfold results
  rw [anC]
  simp only [Sem.run_bind,Sem.run_map]
  erw [hx]
  rfl
 split at h;·rename_i v hv;simp only [aB] at h; subst h;obtain⟨xs,h1,h2⟩:=np ht hs _ _ hv;obtain⟨x,ys,rfl,h3,h4⟩:=h2.of_cons;have:=h4.of_nil; subst this;exact⟨x,run _ h1,h3⟩
 ·rename_i vs dK hv;simp only [aB] at h; subst h;obtain⟨xs,h1,h2⟩:=np ht hs _ _ hv;(have hl:xs.toArray.size≠1:=by have:=h2.1;intro he;match vs,xs,this,he with | [v],_,_,_=>exact dK v rfl | [],[],_,he=>simp at he | [],_ :: _,h,_=>simp at h | _ :: _ :: _,[],h,_=>simp at h | _ :: _ :: _,_ :: [],h,_=>simp at h | _ :: _ :: _,_ :: _ :: _,_,he=>simp at he);have h3:=run _ h1;rw [dif_neg hl] at h3;exact⟨_,h3,.eC _ _ _ (by simpa using h2.1) fun i c x hc hx=>h2.2 i c x hc (by simpa using hx)⟩
 cases h

theorem Mk {P:Program} {tt:Table} (ht:TT P tt) {f:FuncId} {fn:Func} {body:Code} {args:List V} {mem:List ba} {R:V→List ba→Prop} (hf:P.funcs[f]?=some fn) (hb:fn.body=some body)
  (fR:∀ (xs:Array Value) (w:World),(callFunc f xs).run P w = .ok (.enter f xs) w)
  (h:dN P none mem.length body (cn fn args mem) fun ex st'=>(ex = .ret∨ex = .normal)∧∃ r n,mem.length≤n∧ka tt fn.results st'=some r∧aH n r=true∧(st'.mem.take n).all (aI n)=true∧R r (st'.mem.take n)):dR P f args mem R:=by
 refine⟨fR,fun E w xs LG hx=>DZ (n:=0) (callsIn_of_wp_marks hf hb trivial ?_)⟩;have hs:cU E w { tmps:=xs++Array.replicate (fn.ntmps-xs.size) undef,defers:=[] } (cn fn args mem):=⟨LG.F,LG.lt,LG.mem,LG.top,LG.dw,LG.apart,wF fn hx⟩;refine wpIn_mono (h E w LG.top E w _ (gE.refl _ w) hs (.nil _ _ _)) ?_;rintro e a' w' ⟨E',st',h1,h2,⟨rs,hd,lu,LX⟩,he,r,n,hn,hr,hbr,QB,hR⟩;have post:LeavesInM (WF none) 0 P fn a'.tmps (fun e w'=>∃ E' x r bM,e = .returned x∧R r bM∧gE E w E' w'∧cU E' w' { tmps := #[],defers:=[] } { fr:=[],mem:=bM }∧cK E' r x) a'.defers .returning w':=by rw [hd];refine o8 rs w' lu (fun r hr=>(LX r hr).2.1) fun w2 k1 k2 k3 k4 k5=>?_;have Lx:=h1.Mi (fun r hr=>(LX r hr).2) k4 k5;obtain⟨x,h3,h4⟩:=Cf ht Lx hr;have gD:gE E w E' w2:=⟨h2.le,h2.cj,h2.F,k1.trans h2.os,k2.trans h2.tape,k3.trans h2.output,by rw [k4]; exact h2.size,fun b hb dK=>(k5 b fun n8=>by have:=(LX b n8).1; omega).trans (h2.heap b hb dK)⟩;exact⟨x,h3,E'.cut n,x,r,_,rfl,hR,gD.cut fun k hk v=>LG.top k (by dsimp only; omega) v,Lx.bare.cut (by rfl) QB,iU h4 hbr⟩
 rcases he with rfl | rfl <;> exact post

theorem jD {P:Program} {tt:Table} (ht:TT P tt) {f:FuncId} {fn:Func} {body:Code} {args:List V} {mem:List ba} {r:V} {bM:List ba} (n:Nat) (hn:mem.length≤n) (hf:P.funcs[f]?=some fn) (hb:fn.body=some body)
  (fR:∀ (xs:Array Value) (w:World),(callFunc f xs).run P w = .ok (.enter f xs) w)
  (h:dN P none mem.length body (cn fn args mem) fun ex st'=>(ex = .ret∨ex = .normal)∧ka tt fn.results st'=some r∧aH n r=true∧(st'.mem.take n).all (aI n)=true∧bM=st'.mem.take n):bk P f args mem r bM :=
 (Mk ht hf hb fR (R:=fun r' m'=>r'=r∧m'=bM) (h.mono fun ex st' ⟨h1,h2,h3,h4,h5⟩=>⟨h1,r,n,hn,h2,h3,h4,rfl,h5.symm⟩)).det

def nV:List Tmp→List V→List V→List V
 | t :: ts,v :: vs,fr=>nV ts vs (fr.set t v)
 | _,_,fr=>fr
theorem A2 {E:Env}:∀ (ts:List Tmp) {vs:List V} {xs:List Value} {fr:List V} {tmps:Array Value},cz E vs xs→cz E fr tmps.toList→cz E (nV ts vs fr) ((ts.zip xs).foldl (fun (tmps:Array Value) (p:Tmp×Value)=>tmps.setIfInBounds p.1 p.2) tmps).toList
 | [],vs,xs,fr,tmps,_,h=>by cases vs <;> exact h
 | t :: ts,[],xs,fr,tmps,hv,h=>by rw [hv.of_nil]; exact h
 | t :: ts,v :: vs,xs,fr,tmps,hv,h=>by
  obtain⟨x,ys,rfl,h1,h2⟩:=hv.of_cons
  simp only [nV,List.zip_cons_cons,eZ]
  exact A2 ts h2 (by simpa using h.set t h1)

def qv:Exit→Option (Option Code)
 | .normal=>some none
 | .ret=>some (some .ret)
 | .exit id=>some (some (.exit id))
 | .goto l=>some (some (.goto l))
 | _=>none

theorem tK {P:Program} {k:Nat} {fr vs:List V} {params:Array Tmp} {assign body:Code} {mem:List ba} {R:Bool→List ba→Prop} (hk:mem[k]?=some (.loop .ready none fr params assign body)) (hlen:vs.length=params.size)
  (h:∀ l,dN P (some l) mem.length assign { fr:=nV params.toList vs fr,mem:=mem } fun ex rW=>ex = .normal∧∃ TG p1 Rg Rh,rW.mem[k]?=some (.loop .ready none TG p1 Rg Rh) ∧
   dN P (some l) mem.length body { rW with mem:=rW.mem.set k (.loop .busy none TG p1 Rg Rh) } fun ex xx=>∃ n jump s2 pe2 Ri p2 Ml Mm,mem.length≤n∧qv ex=some jump∧xx.mem[k]?=some (.loop s2 pe2 Ri p2 Ml Mm) ∧
    ((xx.mem.set k (.loop (if jump.isNone then .ready else .done) jump Ri p2 Ml Mm)).take n).all (aI n)=true ∧
    R jump.isNone ((xx.mem.set k (.loop (if jump.isNone then .ready else .done) jump Ri p2 Ml Mm)).take n)) :
  JX P k vs mem R:=by
 intro E w xs l e c hs hx hb;obtain⟨l',fn,tmps,db,j9,hh,hr,hf⟩:=hs.mem k _ hk;rw [hb] at j9; cases j9;have js:∀ {W:World} {R:Loop},W.heap[l]?=some (.loop R)→(Instr.getLoop l).run P W = .ok R W:=fun {W R} hW=>by simp [Instr.getLoop,getObj,Sem.run,hW,bind,Sem.bind,pure]
 have yn:∀ {W:World} {R:Loop} {o:Obj},W.heap[l]?=some (.loop R)→(setObj l o).run P W = .ok () { W with heap:=W.heap.setIfInBounds l o }:=fun {W R o} hW=>by simp [setObj,Sem.run,hW]
 have hxl:xs.size=params.size:=by have:=hx.1; simp at this; omega
 refine⟨fn,(params.zip xs).foldl (fun tmps (p:Tmp×Value)=>tmps.setIfInBounds p.1 p.2) tmps,assign,body,?_,?_⟩;·simp only [Instr.yield,Sem.run_bind,js hh,Result.andThen_ok,hxl,ne_eq,not_true_eq_false,if_false];rfl
 refine roundIn_of_wpIn trivial ?_;have sA:cU E w { tmps:=(params.zip xs).foldl (fun tmps (p:Tmp×Value)=>tmps.setIfInBounds p.1 p.2) tmps,defers:=[] } { fr:=nV params.toList vs fr,mem:=mem }:=by refine⟨hs.F,hs.lt,hs.mem,hs.top,hs.dw,hs.apart,?_⟩;have:=A2 (E:=E) params.toList hx hr;rw [← ans,Array.toList_zip];exact this
 refine wpIn_mono (h l E w hs.top E w _ (gE.refl E w) sA (.nil _ _ _)) ?_;rintro ex a1 w1 ⟨E1,rW,h1,h2,hm1,rfl,TG,p1,Rg,Rh,ji,h3⟩;obtain⟨l1,fn1,TH,db1,l6,YB,Dn,Zr⟩:=h1.mem k _ ji;have Zx:E1.cj k 0=some (l,0,0):=h2.le.cj _ _ _ hb;rw [Zx] at l6; cases l6;have only:∀ (W:World) (o:Obj),tA W { W with heap:=W.heap.setIfInBounds l o } l:=fun W o=>⟨rfl,rfl,rfl,by simp,fun b hb=>BA (fun e=>hb e.symm)⟩;have bX:∀ {W:World} {o:Obj},W.heap[l]?=some o→l<W.heap.size:=fun {W o} hW=>(dp.1 hW).1;have t1:=h1.DI ji rfl (B':=.loop .busy none TG p1 Rg Rh) rfl Zx Zr (only w1 (.loop { state:=.busy,pending:=none,fn:=fn1,tmps:=TH,params:=p1,assign:=Rg,body:=Rh,defers:=db1 })) ⟨l,fn1,TH,db1,Zx,by simp [bX YB],Dn,Zr⟩;refine⟨_,by simp [Instr.beginRound,js YB,yn YB]; rfl,?_⟩;refine wpIn_mono (h3 E w hs.top E1 _ a1 (h2.trans t1.2) t1.1 ?_) ?_;·exact hm1.LD t1.2
 rintro ex a2 w2 ⟨E2,xx,h4,h5,-,n,jump,s2,pe2,Ri,p2,Ml,Mm,hmn,hj,l9,QB,hR⟩;obtain⟨l2,fn2,Mn,db2,yd,Tz,Dq,hf2⟩:=h4.mem k _ l9;have VN:E2.cj k 0=some (l,0,0):=h5.le.cj _ _ _ hb;rw [VN] at yd; cases yd;have t2:=h4.DI l9 rfl (B':=.loop (if jump.isNone then .ready else .done) jump Ri p2 Ml Mm) rfl VN hf2 (only w2 (.loop { state:=if jump.isNone then .ready else .done,pending:=jump,fn:=fn2,tmps:=Mn,params:=p2,assign:=Ml,body:=Mm,defers:=db2 })) ⟨l,fn2,Mn,db2,VN,by simp [bX Tz],Dq,hf2⟩;have run:(Instr.endRound l jump).run P w2 = .ok (.bool jump.isNone) { w2 with heap:=w2.heap.setIfInBounds l (.loop { state:=if jump.isNone then .ready else .done,pending:=jump,fn:=fn2,tmps:=Mn,params:=p2,assign:=Ml,body:=Mm,defers:=db2 }) }:=by simp [Instr.endRound,js Tz,yn Tz]
 have fin:∃ v w',(Instr.endRound l jump).run P w2 = .ok v w'∧∃ E' b bM,Ending.returned v = .returned (.bool b)∧R b bM∧gE E w E' w'∧cU E' w' { tmps := #[],defers:=[] } { fr:=[],mem:=bM } := ⟨_,_,run,E2.cut n,_,_,rfl,hR,(h5.trans t2.2).cut (fun k hk v=>hs.top k (AO hmn hk) v),t2.1.bare.cut (by rfl) QB⟩;cases ex <;> simp only [qv,aB,reduceCtorEq] at hj <;> subst hj <;> exact fin

theorem qw {P:Program} {k:Nat} {fr vs:List V} {params:Array Tmp} {assign body:Code} {mem bM:List ba} {b:Bool} (hk:mem[k]?=some (.loop .ready none fr params assign body)) (hlen:vs.length=params.size)
  (h:∀ l,dN P (some l) mem.length assign { fr:=nV params.toList vs fr,mem:=mem } fun ex rW=>ex = .normal∧rW.mem[k]?=some (.loop .ready none fr params assign body) ∧
   dN P (some l) mem.length body { rW with mem:=rW.mem.set k (.loop .busy none fr params assign body) } fun ex xx=>∃ jump,qv ex=some jump∧b=jump.isNone∧xx.mem[k]?=some (.loop .busy none fr params assign body) ∧
    ((xx.mem.set k (.loop (if jump.isNone then .ready else .done) jump fr params assign body)).take mem.length).all (aI mem.length)=true ∧
    bM=(xx.mem.set k (.loop (if jump.isNone then .ready else .done) jump fr params assign body)).take mem.length) :
  Ge P k vs mem b bM :=
 (tK hk hlen (R:=fun b' m'=>b'=b∧m'=bM) fun l=>(h l).mono fun ex rW ⟨h1,h2,h3⟩=>⟨h1,_,_,_,_,h2,h3.mono fun ex xx ⟨j,h4,h5,h6,h7,h8⟩=>⟨_,j,_,_,_,_,_,_,aw _,h4,h6,h7,h5.symm,h8.symm⟩⟩).det

theorem qx {P:Program} {n0:Nat} {st:St} {Q:Exit→St→Prop} {f:Operand} {params:Array Tmp} {assign body:Code} {g:FuncId} {vs:List V} {R:V→List ba→Prop} (hc:cP (st.eval f) [.jz st.mem.length]=some (g,vs))
  (YF:dR P g vs (st.mem++[.loop .ready none st.fr params assign body]) R)
  (hq:∀ r xl,R r xl→∃ s mX YG QI QJ QK,xl[st.mem.length]?=some (.loop s mX YG QI QJ QK)∧s ≠ .busy∧(match mX with | none=>Q .normal { st with mem:=xl.set st.mem.length .dead } | some c=>dN P none n0 c { st with mem:=xl.set st.mem.length .dead } Q)) :
  dN P none n0 (.rangeFunc f params assign body) st Q:=fun E0 w0 h0 E w a he hs Dt=>by
 refine wpIn_rangeFunc fun fn _=>?_
 let w1:World:=w.alloc (.deferred (some []))
 let L:Loop := { state:=.ready,pending:=none,fn:=fn,tmps:=a.tmps,params:=params,assign:=assign,body:=body,defers:=w.heap.size }
 let w2:World:=w1.alloc (.loop L)
 have la:∀ v,E.cj st.mem.length v=none:=hs.top _ (aw _)
 have hle:E.le (E.with st.mem.length 0 (w.heap.size+1,0,0)):=Env.l4 (la 0) _
 have fg:(E.with st.mem.length 0 (w.heap.size+1,0,0)).cj st.mem.length 0=some (w.heap.size+1,0,0):=if_pos ⟨rfl,rfl⟩
 have gI:∀ k v,¬ (k=st.mem.length∧v=0)→(E.with st.mem.length 0 (w.heap.size+1,0,0)).cj k v=E.cj k v:=fun k v h=>if_neg h
 have hold:∀ b,b<w.heap.size→w2.heap[b]?=w.heap[b]?:=fun b hb=>(dL w1 _ b (by simp [w1]; omega)).trans (dL w _ b hb)
 have kK:w2.heap[w.heap.size+1]?=some (.loop L):=by
  have:w1.heap.size=w.heap.size+1:=by simp [w1]
  show (w1.alloc (.loop L)).heap[w.heap.size+1]?=_
  rw [← this]; exact heap_alloc_new w1 _
 have gD:gE E w (E.with st.mem.length 0 (w.heap.size+1,0,0)) w2:=by
  refine⟨hle,fun k v g e c hk=>?_,fun ad x hx=>.inl hx,rfl,rfl,rfl,by simp [w2,w1]; omega,fun b hb _=>hold b hb⟩
  by_cases fe:k=st.mem.length∧v=0
  ·obtain⟨rfl,rfl⟩:=fe; rw [fg] at hk; cases hk; exact .inr (by omega)
  rw [gI k v fe] at hk; exact .inl ⟨_,_,_,_,hk⟩
 have hFn:∀ o,E.F ⟨w.heap.size+1,o,none⟩=none:=fun o=>by
  cases hx:E.F ⟨w.heap.size+1,o,none⟩ with
  | none=>rfl
  | some x=>have:=World.block_lt_of_cell? w _ (hs.F _ _ hx); simp at this; omega
 have Lx:cU (E.with st.mem.length 0 (w.heap.size+1,0,0)) w2 { tmps := #[],defers:=[] } { fr:=[],mem:=st.mem++[.loop .ready none st.fr params assign body] }:=by
  have js:∀ {k:Nat} {B:ba},(st.mem++[ba.loop .ready none st.fr params assign body])[k]?=some B→(k<st.mem.length∧st.mem[k]?=some B)∨(k=st.mem.length∧B = .loop .ready none st.fr params assign body):=fun {k B} h=>by
   rw [Tn] at h
   split at h
   ·rename_i bX; exact .inl ⟨bX,h⟩
   have Zy:k-st.mem.length=0:=by
    rcases anr (k-st.mem.length) with h0 | h0
    ·exact h0
    rw [dF (by simp; omega)] at h; cases h
   rw [Zy] at h; simp at h
   exact .inr ⟨by omega,h.symm⟩
  refine⟨fun ad x hx=>?_,fun k v g e c hk=>?_,fun k B hk=>?_,fun k hk v=>?_,fun k B hk v hv=>?_,fun k k' v v' g e1 c1 e2 c2 h5 h6=>?_,.nil _⟩
  ·have hc:=hs.F ad x hx
   rw [← hc]; simp [World.cell?,hold _ (World.block_lt_of_cell? w ad hc)]
  ·by_cases fe:k=st.mem.length∧v=0
   ·obtain⟨rfl,rfl⟩:=fe; rw [fg] at hk; cases hk; simp [w2,w1]
   rw [gI k v fe] at hk; have:=hs.lt _ _ _ _ _ hk; simp [w2,w1]; omega
  ·rcases js hk with ⟨bX,jA⟩ | ⟨rfl,rfl⟩
   ·exact (hs.mem k B jA).mono hle (fun v h=>by rw [gI k v (by omega)]; exact h) (fun g e c h=>hold g (hs.lt _ _ _ _ _ h)) fun _ _ _ _ _ h=>h
   exact⟨w.heap.size+1,fn,a.tmps,w.heap.size,fg,kK,hs.fr.mono hle,hFn⟩
  ·dsimp only at hk
   simp at hk
   rw [gI k v (by omega)]; exact hs.top k (by omega) v
  ·rcases js hk with ⟨bX,jA⟩ | ⟨rfl,rfl⟩
   ·rw [gI k v (by omega)]; exact hs.dw k B jA v hv
   rw [gI _ v (by simp [ba.dw] at hv; omega)]; exact la v
  by_cases fe:k=st.mem.length∧v=0 <;> by_cases BO:k'=st.mem.length∧v'=0
  ·rw [fe.1,BO.1]
  ·obtain⟨rfl,rfl⟩:=fe; rw [fg] at h5; cases h5; rw [gI k' _ BO] at h6; have:=hs.lt _ _ _ _ _ h6; omega
  ·obtain⟨rfl,rfl⟩:=BO; rw [fg] at h6; cases h6; rw [gI k _ fe] at h5; have:=hs.lt _ _ _ _ _ h5; omega
  rw [gI k _ fe] at h5; rw [gI k' _ BO] at h6
  exact hs.apart _ _ _ _ _ _ _ _ _ h5 h6
 have LO:cz (E.with st.mem.length 0 (w.heap.size+1,0,0)) [.jz st.mem.length] (#[Value.func (.yield (w.heap.size+1)) #[] #[]]:Array Value).toList:=.cons (.jz _ _ _ 0 0 fg) (.nil _)
 obtain⟨d,ys,hy,Vs,LC⟩:=yi (P:=P) (w:=w2) ((hs.eval f).mono hle) LO hc
 have afG:=Dt.LD gD
 refine⟨w.heap.size+1,[{ target:=.collected w.heap.size,args := #[] }],w2,d,w2,g,ys,w2,?_,?_,fun _ _=>trivial,LC.trans (YF.1 ys w2),fun h=>by simp [WF] at h,?_⟩
 ·exact run_enterLoop_outer _ _ _ _ _
 ·refine Eq.trans ?_ Vs
  simp only [rangeCall,resolve]
  simp [Act.eval]
 refine yl ((YF.2 _ w2 ys Lx hy).mono ?_)
 rintro e w3 ⟨E3,x,r,xl,rfl,hRR,Mo,hs3,-⟩
 obtain⟨s,mX,YG,QI,QJ,QK,hm2,Zz,TI⟩:=hq r xl hRR
 obtain⟨l3,fn3,ID,db3,gi,hh3,hr3,hf3⟩:=hs3.mem _ _ hm2
 have ZA:E3.cj st.mem.length 0=some (w.heap.size+1,0,0):=Mo.le.cj _ _ _ fg
 rw [ZA] at gi; cases gi
 have akC:w.heap.size+1<w3.heap.size:=(dp.1 hh3).1
 have ZB:(s==LoopState.busy)=false:=by cases s <;> first | rfl | exact absurd rfl Zz
 have afI:=hs.DW hs3 (Env.le_trans hle Mo.le)
 have t:=afI.DI hm2 rfl (B':=.dead) rfl ZA hf3 (w' := { w3 with heap:=w3.heap.setIfInBounds (w.heap.size+1) (.loop { state:=.exhausted,pending:=mX,fn:=fn3,tmps:=ID,params:=QI,assign:=QJ,body:=QK,defers:=db3 }) })
  ⟨rfl,rfl,rfl,by simp,fun b hb=>BA (fun e=>hb e.symm)⟩ trivial
 have ZC:gE E0 w0 E3 _:=(he.trans (gD.trans Mo)).trans t.2
 have ZD:Marks E3 { w3 with heap:=w3.heap.setIfInBounds (w.heap.size+1) (.loop { state:=.exhausted,pending:=mX,fn:=fn3,tmps:=ID,params:=QI,assign:=QJ,body:=QK,defers:=db3 }) } w0.heap.size ({ target:=.collected w.heap.size,args := #[] } :: a.defers):=by
  obtain⟨rs,m1,m2,m3⟩:=(afG.LD Mo).LD t.2
  have TJ:w2.heap[w.heap.size]?=some (.deferred (some [])):=(dL w1 _ _ (by simp [w1])).trans (heap_alloc_new w _)
  have QD:∀ k v e c,(E.with st.mem.length 0 (w.heap.size+1,0,0)).cj k v≠some (w.heap.size,e,c):=fun k v e c hk=>by
   by_cases fe:k=st.mem.length∧v=0
   ·obtain⟨rfl,rfl⟩:=fe; rw [fg] at hk; simp at hk
   rw [gI k v fe] at hk; have:=hs.lt _ _ _ _ _ hk; omega
  have one:Marks (E.with st.mem.length 0 (w.heap.size+1,0,0)) w2 w0.heap.size [{ target:=.collected w.heap.size,args := #[] }]:=⟨[w.heap.size],rfl,by simp,fun r hr=>by
   simp at hr; subst hr; exact⟨he.size,TJ,QD⟩⟩
  obtain⟨mo,n1,n2,n3⟩:=(one.LD Mo).LD t.2
  have Vc:mo=[w.heap.size]:=by
   match mo,n1 with
   | [r],h=>simp at h; rw [h]
   | [],h=>simp at h
   | _ :: _ :: _,h=>simp at h
  subst Vc
  refine⟨w.heap.size :: rs,by rw [m1]; rfl,?_,fun r hr=>?_⟩
  ·rw [anI]
   refine⟨fun n8=>?_,m2⟩
   obtain⟨rs0,q1,q2,q3⟩:=Dt
   have AU:rs=rs0:=by
    have:=m1.symm.trans q1
    have inj:∀ (xs ys:List Nat),xs.map (fun r=>({ target:=.collected r,args := #[] }:Deferred))=ys.map (fun r => { target:=.collected r,args := #[] })→xs=ys:=by
     intro xs
     induction xs with
     | nil=>intro ys h; cases ys with | nil=>rfl | cons y ys=>simp at h
     | cons x xs ih=>intro ys h; cases ys with | nil=>simp at h | cons y ys=>simp at h; rw [h.1,ih ys (by simpa using h.2)]
    exact inj _ _ this
   subst AU
   have:=(q3 _ n8).2.1
   rw [am1 (aw _)] at this; cases this
  rcases cp.1 hr with rfl | hr
  ·exact n3 _ (by simp)
  exact m3 r hr
 refine⟨mX,{ w3 with heap:=w3.heap.setIfInBounds (w.heap.size+1) (.loop { state:=.exhausted,pending:=mX,fn:=fn3,tmps:=ID,params:=QI,assign:=QJ,body:=QK,defers:=db3 }) },?_,?_⟩
 ·have hg:(Instr.getLoop (w.heap.size+1)).run P w3 = .ok { state:=s,pending:=mX,fn:=fn3,tmps:=ID,params:=QI,assign:=QJ,body:=QK,defers:=db3 } w3:=by
   simp [Instr.getLoop,getObj,Sem.run,hh3,bind,Sem.bind,pure]
  simp only [Instr.endLoop,Sem.run_bind,hg,Result.andThen_ok,ZB,b9,if_false]
  simp [setObj,Sem.run,hh3]
 cases mX with
 | none=>exact⟨E3,_,⟨t.1.F,t.1.lt,t.1.mem,t.1.top,t.1.dw,t.1.apart,t.1.fr⟩,ZC,ZD,TI⟩
 | some c=>exact TI E0 w0 h0 E3 _ { a with defers := { target:=.collected w.heap.size,args := #[] } :: a.defers } ZC ⟨t.1.F,t.1.lt,t.1.mem,t.1.top,t.1.dw,t.1.apart,t.1.fr⟩ ZD
theorem og {P:Program} {n0:Nat} {st:St} {Q:Exit→St→Prop} {f:Operand} {params:Array Tmp} {assign body:Code} {g:FuncId} {vs:List V} {r:V} {xl:List ba} (hc:cP (st.eval f) [.jz st.mem.length]=some (g,vs))
  (YF:bk P g vs (st.mem++[.loop .ready none st.fr params assign body]) r xl)
  (hq:∃ s mX YG QI QJ QK,xl[st.mem.length]?=some (.loop s mX YG QI QJ QK)∧s ≠ .busy∧(match mX with | none=>Q .normal { st with mem:=xl.set st.mem.length .dead } | some c=>dN P none n0 c { st with mem:=xl.set st.mem.length .dead } Q)) :
  dN P none n0 (.rangeFunc f params assign body) st Q :=
 qx hc YF.rel fun r' m' ⟨_,h2⟩=>by subst h2; exact hq
end Go.Eng
end

section
namespace Go.Eng
variable [a6]
open Go.RowKit (Below)

inductive Cls where
 | n | r | a | w | s | b | z | e
 deriving DecidableEq
structure Pl where
 cls:Cls
 key:Nat
 mask:List Nat
 TK:List Nat:=[]
 abs:List Nat:=[]

def D2 (m:List ba) (k:Nat):List ba:=match m[k]? with
 | some B=>if B.dw=0 then m.set k .dead else m
 | none=>m
def gL:List Nat→List ba→List ba
 | [],m=>m
 | k :: r,m=>gL r (D2 m k)
def mI (b:Bool) (B:ba):ba:=if b=true∧B.dw=0 then .dead else B
theorem JY (m:List ba) (k q:Nat):(D2 m k)[q]?=(m[q]?).map (mI (q==k)):=by
 unfold D2;by_cases hq:q=k;·subst hq;cases h:m[q]? with | none=>simp [h] | some B =>have bX:q<m.length:=(ax.1 h).1;simp only [beq_self_eq_true,bz,mI,true_and];split;(·rename_i hv; simp [bw,bX]);rename_i hv; exact h
 have hb:(q==k)=false:=by simpa using hq
 have hid:(m[q]?).map (mI (q==k))=m[q]?:=by rw [hb]; cases m[q]? <;> simp [mI]
 rw [hid];cases h:m[k]? with | none=>rfl | some B =>dsimp only;split;(·exact eE (fun e=>hq e.symm));rfl
theorem AA (b c:Bool) (B:ba):mI b (mI c B)=mI (b||c) B:=by have hd:ba.dead.dw=0:=rfl;unfold mI;cases b <;> cases c <;> by_cases hv:B.dw=0 <;> simp [hv,hd]
theorem rm:∀ (ks:List Nat) (m:List ba) (q:Nat),(gL ks m)[q]?=(m[q]?).map (mI (ks.contains q))
 | [],m,q=>by cases h:m[q]? <;> simp [gL,h,mI]
 | k :: r,m,q=>by
  rw [gL,rm r,JY]
  cases m[q]? with
  | none=>rfl
  | some B =>
   simp only [bz,AA,List.contains_cons]
   rw [Bool.or_comm]
theorem tL:∀ (ks:List Nat) (m:List ba),(gL ks m).length=m.length
 | [],m=>rfl
 | k :: r,m=>by
  rw [gL,tL r]
  unfold D2
  split
  ·split <;> simp
  rfl
theorem rn {ks:List Nat} {m:List ba} {k:Nat} {B0 B:ba} (hk:k∈ks) (hm:m[k]?=some B0) (h0:B0.dw=0) (hB:B.dw=0):gL ks (m.set k B)=gL ks m:=by
 refine di fun q=>?_;rw [rm,rm];by_cases hq:q=k;·subst hq;have bX:q<m.length:=(ax.1 hm).1;(have hc:ks.contains q=true:=by simpa using hk);rw [bw,if_pos rfl,if_pos bX,hm];simp [mI,hB,h0,hk]
 rw [eE (fun e=>hq e.symm)]

theorem cU.gL {E:Env} {w:World} {a:Act} {st:St} (hs:cU E w a st) (ks:List Nat):cU E w a { st with mem:=Eng.gL ks st.mem }:=by
 have get:∀ {k:Nat} {B:ba},(Eng.gL ks st.mem)[k]?=some B→∃ B0:ba,st.mem[k]?=some B0∧(B=B0∨B=ba.dead∧B0.dw=0):=fun {k B} h=>by rw [rm] at h;cases h0:st.mem[k]? with | none=>rw [h0] at h; cases h | some B0 =>rw [h0] at h;simp only [bz,aB] at h;refine⟨B0,rfl,?_⟩;unfold mI at h;split at h;(·rename_i hc; exact .inr ⟨h.symm,hc.2⟩);exact .inl h.symm
 refine⟨hs.F,hs.lt,fun k B hk=>?_,fun k hk=>hs.top k (by simpa [tL] using hk),fun k B hk v hv=>?_,hs.apart,hs.fr⟩;·obtain⟨B0,h0,rfl | ⟨rfl,-⟩⟩:=get hk;(·exact hs.mem k _ h0);trivial
 obtain⟨B0,h0,rfl | ⟨rfl,h1⟩⟩:=get hk;·exact hs.dw k _ h0 v hv
 exact hs.dw k _ h0 v (by rw [h1]; exact hv)


def Cg (P:Program) (f:FuncId) (vs:List V) (r:V):Prop:=bG P f vs r∨qo P f vs r
def ZE (P:Program) (f:FuncId) (vs:List V) (Q:V→Prop):Prop:=∃ vs' r,fh [] vs=some vs'∧Cg P f vs' r∧Q r

def xm (P:Program) (tt:Table) (o:Oper) (st:St):Option V :=
 match o.op with
 | .build T parts=>mH P tt T parts.toList st.eval
 | .buildSlice T len parts=>match vl tt T len parts.toList st.eval with
  | some (_,rs)=>some (.slice rs)
  | none=>none
 | _=>lr P tt st o
def rX (P:Program) (tt:Table) (o:Oper) (st:St) (Q:V→Prop):Prop :=
 match o.op with
 | .call { callee:=.value f,args:=xs,.. }=>match cP (st.eval f) (xs.toList.map st.eval) with
  | some (g,vs)=>ZE P g vs Q
  | none=>False
 | _=>match xm P tt o st with
  | some v=>Q v
  | none=>False
def ZF (P:Program) (f:FuncId) (vs:List V) (st:St) (dst:Option Tmp) (Q:St→Prop):Prop:=∃ vs' r,fh [] vs=some vs'∧Cg P f vs' r∧Q (st.put dst r)
def rY (P:Program) (tt:Table) (o:Oper) (AB st:St) (Q:St→Prop):Prop :=
 match o.op with
 | .call { callee:=.value f,args:=xs,.. }=>match cP (AB.eval f) (xs.toList.map AB.eval) with
  | some (g,vs)=>ZF P g vs st o.dst Q
  | none=>False
 | _=>match xm P tt o AB with
  | some v=>Q (st.put o.dst v)
  | none=>False
theorem xy {P:Program} {tt:Table} {o:Oper} {AB st:St} {Q:St→Prop}:rY P tt o AB st Q=rX P tt o AB fun v=>Q (st.put o.dst v):=by unfold rY rX;split <;> rfl
def jt (tt:Table) (o:Oper) (key:Nat) (st:St):Option (ba×V) :=
 match o.op with
 | .alloc T=>match tt T with
  | some i=>some (.box (i.zero.map V.sc),.ptr key 0)
  | none=>none
 | .box _ x=>match k7 (st.eval x) with
  | some cs=>some (.box cs,.ptr key 0)
  | none=>none
 | .buildSlice T len parts=>match vl tt T len parts.toList st.eval with
  | some (size,rs)=>some (.rows 0 size rs,.ms key 0 0 len)
  | none=>none
 | .makeMap _ none=>some (.map [] 0,.mp key)
 | .makeSlice T l c=>match wy tt T (st.eval l) (st.eval c) with
  | some (size,rs,_)=>some (.rows 0 size rs,.ms key 0 0 rs.length)
  | none=>none
 | _=>none
def tM (P:Program) (tt:Table) (key:Nat) (o:Oper) (st:St):Option (List ba×V) :=
 match o.op with
 | .store T p x=>match mG tt st.mem T (st.eval p) (st.eval x) with
  | some bM=>some (bM,.sc undef)
  | none=>none
 | .call { callee:=.builtin .append,args:=xs,argTypes:=ts }=>match xs.toList.map st.eval with
  | [s,x]=>match iw tt st.mem ts.toList s x with
   | some (size,sD,rows)=>some (fM st.mem key size rows sD)
   | none=>none
  | _=>none
 | .mapUpdate T m k x=>match dt P st.mem T (st.eval m) (st.eval k) (st.eval x) with
  | some bM=>some (bM,.sc undef)
  | none=>none
 | .insert T m k x=>match dt P st.mem T (st.eval m) (st.eval k) (st.eval x) with
  | some bM=>some (bM,.sc undef)
  | none=>none
 | _=>none
def pW (tt:Table) (key:Nat) (o:Oper) (st:St):Option (List ba) :=
 match o.op with
 | .store T p x=>match st.eval p with
  | .ptr b off=>if b=key then mG tt st.mem T (.ptr key off) (st.eval x) else none
  | _=>none
 | _=>none
def isHole (mem:List ba) (k:Nat):Bool:=match mem[k]? with | some .hole=>true | _=>false
theorem lM {mem:List ba} {k:Nat}:isHole mem k=true↔mem[k]?=some .hole:=by
 unfold isHole;split;·rename_i h; simp [h]
 rename_i h; simp; exact fun e=>h e

def wH (P:Program) (f:FuncId) (vs:List V) (e:Nat) (rs:List V):Prop:=∃ v,bk P f vs [] (.ms 0 v 0 rs.length) [.rows v e rs]
def pP (P:Program) (o:Oper) (ev:Operand→V) (Q:Nat→List V→Prop):Prop :=
 match o.op with
 | .call { callee:=.value f,args:=xs,.. }=>match cP (ev f) (xs.toList.map ev) with
  | some (g,vs)=>∃ vs' e rs,fh [] vs=some vs'∧wH P g vs' e rs∧Q e rs
  | none=>False
 | _=>False
theorem m8 {P:Program} {o:Oper} {ev:Operand→V} {Q:Nat→List V→Prop}:pP P o ev Q↔∃ e rs,pP P o ev (fun e' mo=>e'=e∧mo=rs)∧Q e rs:=by
 unfold pP;split;·split;(·constructor;(·rintro⟨vs',e,rs,h1,h2,h3⟩; exact⟨e,rs,⟨vs',e,rs,h1,h2,rfl,rfl⟩,h3⟩);rintro⟨e,rs,⟨vs',e',mo,h1,h2,h3,h4⟩,h5⟩; subst h3; subst h4; exact⟨vs',_,_,h1,h2,h5⟩);exact⟨fun h=>h.elim,fun ⟨_,_,h,_⟩=>h⟩
 exact⟨fun h=>h.elim,fun ⟨_,_,h,_⟩=>h⟩
def vr (st:St) (key:Nat) (dst:Option Tmp) (e:Nat) (rs:List V):St := { st with mem:=st.mem.set key (.rows 0 e rs) }.put dst (.ms key 0 0 rs.length)
def ZG (P:Program) (f:FuncId) (vs:List V) (st:St) (key:Nat) (dst:Option Tmp) (Q:St→Prop):Prop:=∃ vs' e rs,fh [] vs=some vs'∧wH P f vs' e rs∧Q (vr st key dst e rs)
def sJ (P:Program) (o:Oper) (key:Nat) (st:St) (Q:St→Prop):Prop :=
 match o.op with
 | .call { callee:=.value f,args:=xs,.. }=>match cP (st.eval f) (xs.toList.map st.eval) with
  | some (g,vs)=>ZG P g vs st key o.dst Q
  | none=>False
 | _=>False
theorem A3 {P:Program} {o:Oper} {key:Nat} {st:St} {Q:St→Prop}:sJ P o key st Q=pP P o st.eval fun e rs=>Q (vr st key o.dst e rs):=by unfold sJ pP;split <;> rfl
def gy:ba→ba
 | .box cs=>.box cs
 | _=>.dead
def pQ (tt:Table) (o:Oper) (st:St):Option V :=
 match o.op with
 | .load T x=>pM tt (st.mem.map gy) T (st.eval x)
 | _=>none
def isApp (o:Oper):Bool:=match o.op with | .call { callee:=.builtin .append,.. }=>true | _=>false
def IE (o:Oper):Bool:=match o.op with | .alloc _=>false | .box _ _=>false | _=>true
theorem JZ {P:Program} {tt:Table} {o:Oper} {st:St} {v:V} (h:pQ tt o st=some v):lr P tt st o=some v:=by
 unfold pQ at h;split at h;·rename_i T x ho;unfold lr;rw [ho];dsimp only;unfold pM at h ⊢;split;(·rename_i b off he;rw [he] at h;dsimp only at h;rw [ae] at h;cases hb:st.mem[b]? with | none=>rw [hb] at h; simp at h | some B =>rw [hb] at h;cases B <;> simp [gy] at h <;> exact h);(·rename_i b dw i off he;rw [he] at h;dsimp only at h;(have:rowOf (st.mem.map gy) b dw i=none:=by unfold rowOf;rw [ae];cases hb:st.mem[b]? with | none=>rfl | some B=>cases B <;> rfl);rw [this] at h; cases h);(·rename_i cs he;rw [he] at h; exact h);rename_i h1 h2 h3;split at h;(·rename_i he; exact absurd he (h1 _ _));(·rename_i he; exact absurd he (h2 _ _ _ _));(·rename_i he; exact absurd he (h3 _));cases h
 cases h
theorem D3 {tt:Table} {mem:List ba} {ts:List TypeId} {s x:V} {size b dw:Nat} {rows:List V} (h:iw tt mem ts s x=some (size,some (b,dw),rows)):∃ e rs,mem[b]?=some (.rows dw e rs):=by
 have hl:∀ {sz:Nat} {rs:List V},qk mem sz s=some (some (b,dw),rs)→∃ e rs,mem[b]?=some (.rows dw e rs):=fun {sz rs} h=>by unfold qk at h;split at h;(·cases h);(·split at h <;> cases h);(·split at h;(·rename_i v' e mo hb;split at h;(·rename_i hc;simp only [aB,dQ] at h;obtain⟨⟨rfl,rfl⟩,rfl⟩:=h;exact⟨_,_,by rw [hb,hc.1]⟩);cases h);cases h);cases h
 unfold iw at h;split at h;·split at h;(·split at h;(·split at h;(·split at h;(·split at h;(·split at h;(·rename_i sD rs ZH;split at h;(·split at h;(·split at h;(case isFalse=>cases h);simp only [aB,dQ] at h;obtain⟨-,rfl,-⟩:=h;exact hl ZH);cases h);cases h);cases h);cases h);cases h);cases h);cases h);cases h
 cases h
theorem Mp {P:Program} {tt:Table} {key:Nat} {o:Oper} {st:St} {m:List ba} {v:V} (ha:isApp o=true) (hh:st.mem[key]?=some .hole) (h:tM P tt key o st=some (m,v)):m.map gy=st.mem.map gy:=by
 have yn:∀ (k:Nat) (B0 B:ba),st.mem[k]?=some B0→gy B=gy B0→(st.mem.set k B).map gy=st.mem.map gy:=fun k B0 B h0 hB=>by apply di;intro q;rw [ae,ae,bw];split;(·rename_i hq; subst hq;rw [if_pos (ax.1 h0).1,h0,bz,bz,hB]);rfl
 unfold isApp at ha;split at ha;·rename_i ho;unfold tM at h;rw [ho] at h;dsimp only at h;split at h;(·split at h;(·rename_i size sD rows hap;simp only [aB] at h;cases sD with | none =>simp only [fM,dQ] at h;obtain⟨rfl,-⟩:=h;unfold c7;rw [if_pos (ax.1 hh).1];exact yn _ _ _ hh rfl | some p =>obtain⟨b,dw⟩:=p;simp only [fM,dQ] at h;obtain⟨rfl,-⟩:=h;(have hb:∃ e rs,st.mem[b]?=some (.rows dw e rs):=by exact D3 hap);obtain⟨e,rs,hb⟩:=hb;exact yn _ _ _ hb rfl);cases h);cases h
 cases ha
def oF (P:Program) (o:Oper) (st:St) (Q:St→Prop):Prop :=
 match o.op with
 | .call { callee:=.value f,args:=xs,.. }=>match cP (st.eval f) (xs.toList.map st.eval) with
  | some (g,vs)=>∃ vs' r,fh st.mem vs=some vs'∧bG P g vs' r∧Q ({ st with mem:=fQ st.mem (vs.flatMap eR) r }.put o.dst r)
  | none=>False
 | _=>False
theorem yq {P:Program} {o:Oper} {st:St} {K K':St→Prop} (h:oF P o st K) (hk:∀ s,K s→K' s):oF P o st K':=by
 unfold oF at h ⊢;split at h;·split at h;(·obtain⟨vs',r,h1,h2,h3⟩:=h;exact⟨vs',r,h1,h2,hk _ h3⟩);exact h.elim
 exact h.elim
def Mq (P:Program) (g:FuncId) (vs:List V) (k:Nat) (st:St) (dst:Option Tmp) (Q:St→Prop):Prop :=
 ∃ v B0 B,B0.dw=0∧B.dw=0∧st.mem[k]?=some B0∧bk P g vs st.mem v (st.mem.set k B)∧Q ({ st with mem:=st.mem.set k B }.put dst v)
def tN (P:Program) (tt:Table) (o:Oper) (k:Nat) (st:St) (Q:St→Prop):Prop :=
 match o.op with
 | .call { callee:=.value f,args:=xs,.. }=>match cP (st.eval f) (xs.toList.map st.eval) with
  | some (g,vs)=>Mq P g vs k st o.dst Q
  | none=>False
 | _=>match pW tt k o st with
  | some m=>Q ({ st with mem:=m }.put o.dst (.sc undef))
  | none=>False
def D4 (P:Program) (tt:Table) (o:Oper) (k:Nat) (st:St) (v:V) (m:List ba):Prop :=
 match o.op with
 | .call { callee:=.value f,args:=xs,.. }=>match cP (st.eval f) (xs.toList.map st.eval) with
  | some (g,vs)=>∃ B0 B,B0.dw=0∧B.dw=0∧st.mem[k]?=some B0∧bk P g vs st.mem v (st.mem.set k B)∧m=st.mem.set k B
  | none=>False
 | _=>v = .sc undef∧pW tt k o st=some m
theorem J0 {P:Program} {tt:Table} {o:Oper} {k:Nat} {st:St} {Q:St→Prop}:tN P tt o k st Q↔∃ v m,D4 P tt o k st v m∧Q ({ st with mem:=m }.put o.dst v):=by
 unfold tN D4;split;·split;(·constructor;(·rintro⟨v,B0,B,h1,h2,h3,h4,h5⟩; exact⟨v,_,⟨B0,B,h1,h2,h3,h4,rfl⟩,h5⟩);rintro⟨v,m,⟨B0,B,h1,h2,h3,h4,rfl⟩,h5⟩; exact⟨v,B0,B,h1,h2,h3,h4,h5⟩);exact⟨fun h=>h.elim,fun ⟨_,_,h,_⟩=>h.elim⟩
 split;·rename_i m hb; exact⟨fun h=>⟨_,m,⟨rfl,hb⟩,h⟩,fun ⟨u,m',⟨h1,h2⟩,h4⟩=>by rw [hb] at h2; cases h2; subst h1; exact h4⟩
 rename_i hb; exact⟨fun h=>h.elim,fun ⟨_,_,⟨_,h⟩,_⟩=>by rw [hb] at h; cases h⟩
def gv (P:Program) (tt:Table) (all:Array Oper) (base:Nat) (o:Oper) (p:Pl) (st:St) (Q:St→Prop):Prop :=
 match fE all st.fr o with
 | some true=>match p.cls with
  | .n=>rY P tt o { st with mem:=[] } st Q
  | .r=>rY P tt o { st with mem:=gL (p.mask.map (base + ·)++p.abs) st.mem } st Q
  | .a=>isHole st.mem (base+p.key)=true∧match jt tt o (base+p.key) st with
   | some (B,v)=>Q ({ st with mem:=st.mem.set (base+p.key) B }.put o.dst v)
   | none=>sJ P o (base+p.key) st Q
  | .w=>isHole st.mem (base+p.key)=true∧match tM P tt (base+p.key) o st with
   | some (m,v)=>Q ({ st with mem:=m }.put o.dst v)
   | none=>False
  | .s=>match pW tt (base+p.key) o st with
   | some m=>Q ({ st with mem:=m }.put o.dst (.sc undef))
   | none=>False
  | .b=>match pQ tt o st with
   | some v=>Q (st.put o.dst v)
   | none=>False
  | .z=>oF P o st Q
  | .e=>tN P tt o p.key st Q
 | some false=>Q (st.put o.dst (.sc undef))
 | none=>False

@[congr] theorem VO {P:Program} {tt:Table} {o:Oper} {sv sv' st st':St} {Q:St→Prop} (hv:sv=sv') (h:st=st'):rY P tt o sv st Q=rY P tt o sv' st' Q:=by rw [hv,h]
def rZ (P:Program) (tt:Table) (all:Array Oper) (base:Nat) (o:Oper) (p:Pl) (st:St) (v:V) (m:List ba):Prop :=
 match fE all st.fr o with
 | some true=>match p.cls with
  | .n=>rX P tt o { st with mem:=[] } (fun u=>u=v)∧m=st.mem
  | .r=>rX P tt o { st with mem:=gL (p.mask.map (base + ·)++p.abs) st.mem } (fun u=>u=v)∧m=st.mem
  | .a=>isHole st.mem (base+p.key)=true∧∃ B,(jt tt o (base+p.key) st=some (B,v)∨jt tt o (base+p.key) st=none∧pP P o st.eval (fun e rs=>B = .rows 0 e rs∧v = .ms (base+p.key) 0 0 rs.length))∧m=st.mem.set (base+p.key) B
  | .w=>isHole st.mem (base+p.key)=true∧tM P tt (base+p.key) o st=some (m,v)
  | .s=>v = .sc undef∧pW tt (base+p.key) o st=some m
  | .b=>pQ tt o st=some v∧m=st.mem
  | .z=>False
  | .e=>D4 P tt o p.key st v m
 | some false=>v = .sc undef∧m=st.mem
 | none=>False

theorem D5 {P:Program} {tt:Table} {o:Oper} {st:St} {Q:V→Prop}:rX P tt o st Q↔∃ v,rX P tt o st (fun u=>u=v)∧Q v:=by
 unfold rX;split;·split;(·constructor;(·rintro⟨vs',r,h1,h2,h3⟩; exact⟨r,⟨vs',r,h1,h2,rfl⟩,h3⟩);rintro⟨v,⟨vs',r,h1,h2,rfl⟩,h3⟩; exact⟨vs',r,h1,h2,h3⟩);exact⟨fun h=>h.elim,fun ⟨_,h,_⟩=>h⟩
 split;·exact⟨fun h=>⟨_,rfl,h⟩,fun ⟨_,h,hq⟩=>by subst h; exact hq⟩
 exact⟨fun h=>h.elim,fun ⟨_,h,_⟩=>h⟩

theorem jj {P:Program} {tt:Table} {all:Array Oper} {base:Nat} {o:Oper} {p:Pl} {st:St} {Q:St→Prop} (hz:p.cls ≠ .z) :
  gv P tt all base o p st Q↔∃ v m,rZ P tt all base o p st v m∧Q ({ st with mem:=m }.put o.dst v):=by
 unfold gv rZ;split;·split;(·rw [xy,D5]; exact⟨fun ⟨v,h1,h2⟩=>⟨v,st.mem,⟨h1,rfl⟩,h2⟩,fun ⟨v,m,⟨h1,h2⟩,h3⟩=>⟨v,h1,by subst h2; exact h3⟩⟩);(·rw [xy,D5]; exact⟨fun ⟨v,h1,h2⟩=>⟨v,st.mem,⟨h1,rfl⟩,h2⟩,fun ⟨v,m,⟨h1,h2⟩,h3⟩=>⟨v,h1,by subst h2; exact h3⟩⟩);(·split;(·rename_i B v hb;refine⟨fun ⟨h1,h2⟩=>⟨v,_,⟨h1,B,.inl hb,rfl⟩,h2⟩,fun ⟨u,m,⟨h1,B',h2,h3⟩,h4⟩=>?_⟩;(rcases h2 with h2 | ⟨h2,-⟩);(·rw [hb] at h2; cases h2; subst h3; exact⟨h1,h4⟩);rw [hb] at h2; cases h2);rename_i hb;rw [A3];constructor;(·rintro⟨h1,h2⟩;obtain⟨e,rs,h3,h4⟩:=m8.1 h2;exact⟨_,_,⟨h1,.rows 0 e rs,.inr ⟨hb,m8.2 ⟨e,rs,h3,rfl,rfl⟩⟩,rfl⟩,h4⟩);rintro⟨u,m,⟨h1,B',h2,h3⟩,h4⟩;(rcases h2 with h2 | ⟨-,h2⟩);(·rw [hb] at h2; cases h2);obtain⟨e,rs,h5,h6,h7⟩:=m8.1 h2;subst h6; subst h7; subst h3;exact⟨h1,m8.2 ⟨e,rs,h5,h4⟩⟩);(·split;(·rename_i m v hb; exact⟨fun ⟨h1,h2⟩=>⟨v,m,⟨h1,hb⟩,h2⟩,fun ⟨u,m',⟨h1,h2⟩,h4⟩=>by rw [hb] at h2; cases h2; exact⟨h1,h4⟩⟩);rename_i hb; exact⟨fun h=>h.2.elim,fun ⟨_,_,⟨_,h⟩,_⟩=>by rw [hb] at h; cases h⟩);(·split;(·rename_i m hb; exact⟨fun h=>⟨_,m,⟨rfl,hb⟩,h⟩,fun ⟨u,m',⟨h1,h2⟩,h4⟩=>by rw [hb] at h2; cases h2; subst h1; exact h4⟩);rename_i hb; exact⟨fun h=>h.elim,fun ⟨_,_,⟨_,h⟩,_⟩=>by rw [hb] at h; cases h⟩);(·split;(·rename_i v hb; exact⟨fun h=>⟨v,st.mem,⟨hb,rfl⟩,h⟩,fun ⟨u,m',⟨h1,h2⟩,h4⟩=>by rw [hb] at h1; cases h1; subst h2; exact h4⟩);rename_i hb; exact⟨fun h=>h.elim,fun ⟨_,_,⟨h,_⟩,_⟩=>by rw [hb] at h; cases h⟩);(·rename_i hc; exact absurd hc hz);exact J0
 ·exact⟨fun h=>⟨_,_,⟨rfl,rfl⟩,h⟩,fun ⟨v,m,⟨h1,h2⟩,h3⟩=>by subst h1; subst h2; exact h3⟩
 exact⟨fun h=>h.elim,fun ⟨_,_,h,_⟩=>h⟩


theorem jk {ρ ρ':Operand→V} {xs:Array Operand} (h:∀ x∈xs,ρ x=ρ' x):xs.toList.map ρ=xs.toList.map ρ' :=
 dJ fun x hx=>h x (by simpa using hx)
theorem wI {bd:List (Nat×Nat)} {ρ ρ':Operand→V}:∀ {ps:List (Nat×Operand)} {cs:List V},(∀ p∈ps,ρ p.2=ρ' p.2)→tH bd ρ ps cs=tH bd ρ' ps cs
 | [],cs,_=>rfl
 | (i,x) :: r,cs,h=>by
  simp only [tH,h (i,x) (by simp)]
  split
  ·split
   ·split
    ·exact wI fun p hp=>h p (by simp [hp])
    rfl
   rfl
  rfl
theorem qy {ρ ρ':Operand→V}:∀ {ps:List (Nat×Operand)},(∀ p∈ps,ρ p.2=ρ' p.2)→mq ρ ps=mq ρ' ps
 | [],_=>rfl
 | (i,x) :: r,h=>by
  simp only [mq,h (i,x) (by simp)]
  rw [qy fun p hp=>h p (by simp [hp])]
theorem Ch {P:Program} {tt:Table} {T:TypeId} {ρ ρ':Operand→V} {ps:List (Nat×Operand)} (h:∀ p∈ps,ρ p.2=ρ' p.2):mH P tt T ps ρ=mH P tt T ps ρ':=by
 unfold mH;split;·rw [wI h,qy h]
 rfl
theorem yr {tt:Table} {T:TypeId} {len:Nat} {ρ ρ':Operand→V} {ps:List (Nat×Operand)} (h:∀ p∈ps,ρ p.2=ρ' p.2):vl tt T len ps ρ=vl tt T len ps ρ':=by unfold vl;have:(ps.map fun p=>ρ p.2)=ps.map fun p=>ρ' p.2:=dJ h;rw [this]

theorem J1 {P:Program} {tt:Table} {o:Oper} {st st':St} (h:∀ x∈o.op.operands,st.eval x=st'.eval x) (hm:st.mem=st'.mem):lr P tt st o=lr P tt st' o:=by
 obtain⟨dst,op,type,pos,after,guard⟩:=o;cases op <;> simp only [Op.operands] at h <;> try rfl
 case slice T x lo hi mx =>
  cases mx <;> cases lo <;> cases hi <;> try rfl
  all_goals (simp only [lr]; simp_all)
 case makeFunc fn first captured =>
  simp only [lr]
  rw [jk (xs:=first) fun x hx=>h x (by simp [hx]),jk (xs:=captured) fun x hx=>h x (by simp [hx])]
 case call c =>
  obtain⟨callee,args,ts⟩:=c
  have mU:args.toList.map st.eval=args.toList.map st'.eval:=jk fun x hx=>h x (by simp [Call.operands,hx])
  cases callee with
  | builtin b=>cases b <;> simp only [lr,mU,hm]
  | _=>rfl
 all_goals (simp only [lr]; simp_all)
theorem GI {P:Program} {tt:Table} {o:Oper} {st st':St} (h:∀ x∈o.op.operands,st.eval x=st'.eval x) (hm:st.mem=st'.mem):xm P tt o st=xm P tt o st':=by
 have h0:=J1 (P:=P) (tt:=tt) h hm;obtain⟨dst,op,type,pos,after,guard⟩:=o;cases op <;> try exact h0
 case build T ps=>exact Ch fun p hp=>h p.2 (by simp only [Op.operands]; simpa using ⟨p.1,by simpa using hp⟩)
 case buildSlice T len ps =>
  simp only [xm]
  rw [yr fun p hp=>h p.2 (by simp only [Op.operands]; simpa using ⟨p.1,by simpa using hp⟩)]
theorem yu {P:Program} {tt:Table} {o:Oper} {st st':St} {Q:V→Prop} (h:∀ x∈o.op.operands,st.eval x=st'.eval x) (hm:st.mem=st'.mem):rX P tt o st Q=rX P tt o st' Q:=by
 have h0:=GI (P:=P) (tt:=tt) h hm;unfold rX;rw [h0];split;·rename_i f xs ts heq;rw [heq] at h;have mU:xs.toList.map st.eval=xs.toList.map st'.eval:=jk fun x hx=>h x (by simp [Op.operands,Call.operands,hx]);have hf:st.eval f=st'.eval f:=h f (by simp [Op.operands,Call.operands]);rw [mU,hf]
 rfl
theorem tO {tt:Table} {o:Oper} {key:Nat} {st st':St} (h:∀ x∈o.op.operands,st.eval x=st'.eval x):jt tt o key st=jt tt o key st':=by
 obtain⟨dst,op,type,pos,after,guard⟩:=o;cases op <;> try rfl
 case makeMap t r=>cases r <;> rfl
 case makeSlice t l c=>simp only [jt]; rw [h l (by simp [Op.operands]),h c (by simp [Op.operands])]
 case box T x=>simp only [jt]; rw [h x (by simp [Op.operands])]
 case buildSlice T len ps =>
  simp only [jt]
  rw [yr fun p hp=>h p.2 (by simp only [Op.operands]; simpa using ⟨p.1,by simpa using hp⟩)]
theorem wJ {P:Program} {o:Oper} {ρ ρ':Operand→V} {Q:Nat→List V→Prop} (h:∀ x∈o.op.operands,ρ x=ρ' x):pP P o ρ Q=pP P o ρ' Q:=by
 unfold pP;split;·rename_i f xs ts heq;rw [heq] at h;have mU:xs.toList.map ρ=xs.toList.map ρ':=jk fun x hx=>h x (by simp [Op.operands,Call.operands,hx]);have hf:ρ f=ρ' f:=h f (by simp [Op.operands,Call.operands]);rw [mU,hf]
 rfl
theorem GJ {P:Program} {tt:Table} {o:Oper} {key:Nat} {st st':St} (h:∀ x∈o.op.operands,st.eval x=st'.eval x) (hm:st.mem=st'.mem):tM P tt key o st=tM P tt key o st':=by
 obtain⟨dst,op,type,pos,after,guard⟩:=o;cases op <;> try rfl
 case store T p x=>simp only [tM,hm]; rw [h p (by simp [Op.operands]),h x (by simp [Op.operands])]
 case mapUpdate T m k x=>simp only [tM,hm]; rw [h m (by simp [Op.operands]),h k (by simp [Op.operands]),h x (by simp [Op.operands])]
 case insert T m k x=>simp only [tM,hm]; rw [h m (by simp [Op.operands]),h k (by simp [Op.operands]),h x (by simp [Op.operands])]
 case call c =>
  obtain⟨callee,args,ts⟩:=c
  have mU:args.toList.map st.eval=args.toList.map st'.eval:=jk fun x hx=>h x (by simp [Op.operands,Call.operands,hx])
  cases callee with
  | builtin b=>cases b <;> simp only [tM,mU,hm]
  | _=>rfl

theorem yv {tt:Table} {o:Oper} {key:Nat} {st st':St} (h:∀ x∈o.op.operands,st.eval x=st'.eval x) (hm:st.mem=st'.mem):pW tt key o st=pW tt key o st':=by
 obtain⟨dst,op,type,pos,after,guard⟩:=o;cases op <;> try rfl
 case store T p x=>simp only [pW,hm]; rw [h p (by simp [Op.operands]),h x (by simp [Op.operands])]
theorem D6 {tt:Table} {o:Oper} {key:Nat} {st:St} {m:List ba} (h:pW tt key o st=some m) :
  ∃ B0 B:ba,B0.dw=0∧B.dw=0∧st.mem[key]?=some B0∧m=st.mem.set key B∧∀ mem:List ba,mem[key]?=some B0→pW tt key o { st with mem:=mem }=some (mem.set key B):=by
 have ev:∀ (mem:List ba) (x:Operand),St.eval { st with mem:=mem } x=st.eval x:=fun mem x=>by cases x <;> rfl
 unfold pW at h ⊢;obtain⟨dst,op,type,pos,after,guard⟩:=o;cases op <;> try (cases h)
 case store T p x =>
  simp only [ev]
  dsimp only at h
  split at h
  ·rename_i b off hp
   split at h
   ·rename_i hb
    subst hb
    unfold mG at h
    split at h
    ·cases h
    rename_i new hn
    split at h
    ·rename_i lZ
     dsimp only at h
     split at h
     ·rename_i cs BB
      split at h
      ·rename_i hle
       cases h
       refine⟨.box cs,.box (jW cs off new),rfl,rfl,BB,rfl,fun mem hm=>?_⟩
       simp only [hp,if_true]
       unfold mG
       simp only [hn,lZ,if_true,hm,hle]
      cases h
     cases h
    cases h
   cases h
  cases h

theorem eval_put {st:St} {dst:Option Tmp} {v:V} {x:Operand} (h:∀ d,dst=some d→x ≠ .tmp d):(st.put dst v).eval x=st.eval x:=by cases dst with | none=>rfl | some d =>cases x with | tmp t =>have dK:d≠t:=fun e=>h d rfl (e ▸ rfl);simp [St.eval,St.put,List.getD,eE dK] | _=>rfl
theorem Rj (st:St) (dst:Option Tmp) (v:V):(st.put dst v).mem=st.mem:=by cases dst <;> rfl
theorem AE {all:Array Oper} {o:Oper} {d:Tmp} (h:d ∉ o.looksAt all):∀ x∈o.op.operands,x ≠ .tmp d:=by rintro x hx rfl;exact h (by unfold Oper.looksAt; exact dU _ (List.mem_filterMap.2 ⟨.tmp d,by simpa using hx,rfl⟩))
theorem D7 {all:Array Oper} {o:Oper} {st:St} {dst:Option Tmp} {v:V} (h:∀ d,dst=some d→d ∉ o.looksAt all):fE all (st.put dst v).fr o=fE all st.fr o:=by cases dst with | none=>rfl | some d =>have hd:=h d rfl;unfold fE;split;(·rfl);rename_i j want hg;split;(·rfl);rename_i e he;(have dK:d≠e:=by rintro rfl;exact hd (by unfold Oper.looksAt; exact dG _ (by rw [hg]; simp only []; rw [he]; simp)));simp only [St.put,eE dK]

section
variable {P:Program} {tt:Table} {all:Array Oper} {base:Nat}
theorem D8 {o:Oper} {st st':St} (h:∀ x∈o.op.operands,st.eval x=st'.eval x) (hm:st.mem=st'.mem):pQ tt o st=pQ tt o st':=by
 unfold pQ;split;·rename_i T x ho;rw [hm,h x (by rw [ho]; simp [Op.operands])]
 rfl
theorem GK {P:Program} {tt:Table} {o:Oper} {k:Nat} {st st':St} {v:V} {m:List ba} (h:∀ x∈o.op.operands,st.eval x=st'.eval x) (hm:st.mem=st'.mem):D4 P tt o k st v m=D4 P tt o k st' v m:=by
 have hs:=yv (tt:=tt) (key:=k) h hm;unfold D4;split;·rename_i f xs ts heq;rw [heq] at h;have mU:xs.toList.map st.eval=xs.toList.map st'.eval:=dJ fun x hx=>h x (by simp [Op.operands,Call.operands]; exact .inr (by simpa using hx));have hf:st.eval f=st'.eval f:=h f (by simp [Op.operands,Call.operands]);rw [mU,hf,hm]
 rw [hs]
theorem Mr {P:Program} {tt:Table} {o:Oper} {k:Nat} {st:St} {v:V} {m:List ba} (h:D4 P tt o k st v m):∃ B0 B:ba,B0.dw=0∧B.dw=0∧st.mem[k]?=some B0∧m=st.mem.set k B:=by
 unfold D4 at h;split at h;·split at h;(·obtain⟨B0,B,h1,h2,h3,h4,h5⟩:=h;exact⟨B0,B,h1,h2,h3,h5⟩);exact h.elim
 obtain⟨B0,B,h1,h2,h3,h4,-⟩:=D6 h.2;exact⟨B0,B,h1,h2,h3,h4⟩
theorem J2 {o:Oper} {p:Pl} {st st':St} {v:V} {m:List ba} (hw:fE all st.fr o=fE all st'.fr o) (h:∀ x∈o.op.operands,st.eval x=st'.eval x) (hm:st.mem=st'.mem) :
  rZ P tt all base o p st v m=rZ P tt all base o p st' v m:=by
 have e1:∀ (mem:List ba) (x:Operand),St.eval { st with mem:=mem } x=st.eval x:=fun mem x=>by cases x <;> rfl
 have e2:∀ (mem:List ba) (x:Operand),St.eval { st' with mem:=mem } x=st'.eval x:=fun mem x=>by cases x <;> rfl
 unfold rZ;rw [hw,tO h,GJ h hm,yv h hm,D8 h hm,GK h hm,hm];simp only [wJ h]
 rw [yu (st := { st with mem:=[] }) (st' := { st' with mem:=[] }) (fun x hx=>by rw [e1,e2]; exact h x hx) rfl,
  yu (st := { st with mem:=gL (p.mask.map (base + ·)++p.abs) st'.mem }) (st' := { st' with mem:=gL (p.mask.map (base + ·)++p.abs) st'.mem }) (fun x hx=>by rw [e1,e2]; exact h x hx) rfl]
theorem IF {o:Oper} {p:Pl} {st:St} {dst:Option Tmp} {u v:V} {m:List ba} (h:∀ d,dst=some d→d ∉ o.looksAt all):rZ P tt all base o p (st.put dst u) v m=rZ P tt all base o p st v m :=
 J2 (D7 h) (fun x hx=>eval_put fun d hd=>AE (h d hd) x hx) (Rj _ _ _)

def vt (all:Array Oper) (x:Oper) (px:Pl) (y:Oper) (py:Pl):Bool :=
 px.cls != .z&&py.cls != .z&&x.apart all y&&(px.cls == .n||py.cls == .n||(px.cls == .r&&py.cls == .r)||((px.cls == .a||px.cls == .s)&&py.cls == .r&&py.mask.contains px.key)||(px.cls == .r&&(py.cls == .a||py.cls == .s)&&px.mask.contains py.key)||((px.cls == .a||px.cls == .s)&&(py.cls == .a||py.cls == .s)&&px.key != py.key)||(px.cls == .b&&(py.cls == .r||py.cls == .b||(py.cls == .w&&isApp y)||(py.cls == .a&&IE y)))||(py.cls == .b&&(px.cls == .r||(px.cls == .w&&isApp x)||(px.cls == .a&&IE x)))||(px.cls == .e&&py.cls == .r&&py.abs.contains px.key)||(px.cls == .r&&py.cls == .e&&px.abs.contains py.key))

theorem GL {o:Oper} {key:Nat} {st:St} {B:ba} {v:V} (h:jt tt o key st=some (B,v)):B.dw=0:=by
 unfold jt at h;split at h;·split at h <;> cases h <;> rfl
 ·split at h <;> cases h <;> rfl
 ·split at h <;> cases h <;> rfl
 ·cases h; rfl
 ·split at h <;> cases h <;> rfl
 cases h

theorem vu {o:Oper} {p:Pl} (hp:p.cls = .n) {st:St} {v:V} {m:List ba} (h:rZ P tt all base o p st v m) (mem:List ba):m=st.mem∧rZ P tt all base o p { st with mem:=mem } v mem:=by
 unfold rZ at h ⊢;dsimp only;split at h;·rename_i hw;rw [hp] at h;simp only [hw,hp];exact⟨h.2,h.1,trivial⟩
 ·rename_i hw; simp only [hw]; exact⟨h.2,h.1,trivial⟩
 exact h.elim
theorem gF {o:Oper} {p:Pl} (hp:p.cls = .r) {st:St} {v:V} {m:List ba} (h:rZ P tt all base o p st v m) {mem:List ba} (hm:gL (p.mask.map (base + ·)++p.abs) mem=gL (p.mask.map (base + ·)++p.abs) st.mem) :
  m=st.mem∧rZ P tt all base o p { st with mem:=mem } v mem:=by
 unfold rZ at h ⊢;dsimp only;split at h;·rename_i hw;rw [hp] at h;simp only [hw,hp];exact⟨h.2,by rw [hm]; exact h.1,trivial⟩
 ·rename_i hw; simp only [hw]; exact⟨h.2,h.1,trivial⟩
 exact h.elim
theorem rq {o:Oper} {p:Pl} (hp:p.cls = .a∨p.cls = .s) {st:St} {v:V} {m:List ba} (h:rZ P tt all base o p st v m) :
  (m=st.mem∧∀ mem,rZ P tt all base o p { st with mem:=mem } v mem) ∨
  ∃ B0 B:ba,B0.dw=0∧B.dw=0∧st.mem[base+p.key]?=some B0∧m=st.mem.set (base+p.key) B∧∀ mem:List ba,mem[base+p.key]?=some B0→rZ P tt all base o p { st with mem:=mem } v (mem.set (base+p.key) B):=by
 unfold rZ at h;split at h;·rename_i hw;(rcases hp with hp | hp);(·rw [hp] at h;obtain⟨h1,B,h2,h3⟩:=h;(have Zc:B.dw=0:=by (rcases h2 with h2 | ⟨-,h2⟩);(·exact GL h2);obtain⟨e,rs,-,h5,-⟩:=m8.1 h2;rw [h5]; rfl);refine .inr ⟨.hole,B,rfl,Zc,lM.1 h1,h3,fun mem hm=>?_⟩;unfold rZ;simp only [hw,hp];refine⟨lM.2 hm,B,?_,rfl⟩;(have e0:jt tt o (base+p.key) { st with mem:=mem }=jt tt o (base+p.key) st:=tO fun x _=>by cases x <;> rfl);rw [e0];(have e1:∀ Q,pP P o (St.eval { st with mem:=mem }) Q=pP P o st.eval Q:=fun Q=>wJ fun x _=>by cases x <;> rfl);rw [e1];exact h2);rw [hp] at h;obtain⟨h1,h2⟩:=h;obtain⟨B0,B,h3,h4,h5,h6,h7⟩:=D6 h2;refine .inr ⟨B0,B,h3,h4,h5,h6,fun mem hm=>?_⟩;unfold rZ;simp only [hw,hp];exact⟨h1,h7 mem hm⟩
 ·rename_i hw;refine .inl ⟨h.2,fun mem=>?_⟩;unfold rZ;simp only [hw];exact⟨h.1,trivial⟩
 exact h.elim

theorem A4 {o:Oper} {p:Pl} (hp:p.cls = .e) {st:St} {v:V} {m:List ba} (h:rZ P tt all base o p st v m) :
  m=st.mem∨∃ B0 B:ba,B0.dw=0∧B.dw=0∧st.mem[p.key]?=some B0∧m=st.mem.set p.key B:=by
 unfold rZ at h;split at h;·rw [hp] at h;exact .inr (Mr h)
 ·exact .inl h.2
 exact h.elim

theorem vw {o:Oper} {p:Pl} (hp:p.cls = .b) {st:St} {v:V} {m:List ba} (h:rZ P tt all base o p st v m) :
  m=st.mem∧∀ mem:List ba,mem.map gy=st.mem.map gy→rZ P tt all base o p { st with mem:=mem } v mem:=by
 unfold rZ at h ⊢;dsimp only;split at h;·rename_i hw;rw [hp] at h;simp only [hw,hp];refine⟨h.2,fun mem hm=>⟨?_,trivial⟩⟩;have h1:=h.1;unfold pQ at h1 ⊢;split at h1;(·rename_i T x ho;(have e:St.eval { st with mem:=mem } x=st.eval x:=by cases x <;> rfl);show pM tt (mem.map gy) T (St.eval { st with mem:=mem } x)=some v;rw [hm,e]; exact h1);cases h1
 ·rename_i hw; simp only [hw]; exact⟨h.2,fun _ _=>⟨h.1,trivial⟩⟩
 exact h.elim
theorem A5 {o:Oper} {p:Pl} (hp:p.cls = .w) (ha:isApp o=true) {st:St} {v:V} {m:List ba} (h:rZ P tt all base o p st v m):m.map gy=st.mem.map gy:=by
 unfold rZ at h;split at h;·rw [hp] at h;exact Mp ha (lM.1 h.1) h.2
 ·rw [h.2]
 exact h.elim
theorem yw {o:Oper} {p:Pl} (hp:p.cls = .a) (ha:IE o=true) {st:St} {v:V} {m:List ba} (h:rZ P tt all base o p st v m):m.map gy=st.mem.map gy:=by
 unfold rZ at h;split at h;·rw [hp] at h;obtain⟨h1,B,h2,rfl⟩:=h;(have hB:gy B = .dead:=by (rcases h2 with h2 | ⟨-,h2⟩);(·unfold jt at h2;unfold IE at ha;split at h2;(·rename_i he; rw [he] at ha; cases ha);(·rename_i he; rw [he] at ha; cases ha);(·split at h2 <;> cases h2; rfl);(·cases h2; rfl);(·split at h2 <;> cases h2; rfl);cases h2);obtain⟨e,rs,-,h5,-⟩:=m8.1 h2;rw [h5]; rfl);have hh:=lM.1 h1;apply di;intro q;rw [ae,ae,bw];split;(·rename_i hq; subst hq;rw [if_pos (ax.1 hh).1,hh,bz,bz,hB]; rfl);rfl
 ·rw [h.2]
 exact h.elim
theorem St.put_comm (st:St) {x y:Option Tmp} (v u:V) (h:∀ d,x=some d→y≠some d):(st.put x v).put y u=(st.put y u).put x v:=by cases x with | none=>rfl | some d =>cases y with | none=>rfl | some e =>have dK:d≠e:=fun he=>h d rfl (he ▸ rfl);simp [St.put,anA _ _ dK]
theorem D9 (st:St) (x:Option Tmp) (v:V) (m:List ba) : { st.put x v with mem:=m }=St.put { st with mem:=m } x v:=by cases x <;> rfl

theorem GM {x y:Oper} {px py:Pl} (gh:vt all x px y py=true) {st:St} {Q:St→Prop} (h:gv P tt all base x px st fun st'=>gv P tt all base y py st' Q) :
  gv P tt all base y py st fun st'=>gv P tt all base x px st' Q:=by
 unfold vt at gh;rw [aN,aN,aN] at gh;obtain⟨⟨⟨TL,hzy⟩,hap⟩,n9⟩:=gh;have TL:px.cls ≠ .z:=by simpa using TL
 have hzy:py.cls ≠ .z:=by simpa using hzy
 obtain⟨hxy,Ms,hyx⟩:=Oper.apart_spec hap;obtain⟨v,m1,h1,h2⟩:=(jj TL).1 h;obtain⟨u,m2,h3,h4⟩:=(jj hzy).1 h2;rw [IF hxy] at h3;have fin:∀ ZI , rZ P tt all base y py st u ZI→rZ P tt all base x px { st with mem:=ZI } v m2→gv P tt all base y py st fun st'=>gv P tt all base x px st' Q:=fun ZI h5 h6=>by refine (jj hzy).2 ⟨u,ZI,h5,(jj TL).2 ⟨v,m2,by rw [IF hyx]; exact h6,?_⟩⟩;(have e1:({ (St.put { st with mem:=m1 } x.dst v) with mem:=m2 }:St).put y.dst u=({ (St.put { st with mem:=ZI } y.dst u) with mem:=m2 }:St).put x.dst v:=by rw [D9,D9];exact St.put_comm _ _ _ Ms);rw [← e1]; exact h4
 have back:∀ (m:List ba) (z:Oper) (pz:Pl) (c:V) (m':List ba),rZ P tt all base z pz { ({ st with mem:=m }:St) with mem:=st.mem } c m'=rZ P tt all base z pz st c m':=fun _ _ _ _ _=>rfl;simp only [am4,aN,beq_iff_eq,bne_iff_ne] at n9;rcases n9 with ((((((((hn | hn) | ⟨hr,Dr⟩) | ⟨⟨ha,hr⟩,hm⟩) | ⟨⟨hr,ha⟩,hm⟩) | ⟨⟨ha,ZJ⟩,dK⟩) | ⟨hb,hy⟩) | ⟨hb,hx⟩) | ⟨⟨he,hr⟩,hm⟩) | ⟨⟨hr,he⟩,hm⟩
 ·obtain⟨rfl,-⟩:=vu hn h1 [];exact fin m2 h3 (vu hn h1 m2).2
 ·obtain⟨h5,h6⟩:=vu hn h3 st.mem;dsimp only at h5; subst h5;exact fin st.mem h6 h1
 ·obtain⟨rfl,-⟩:=gF hr h1 rfl;obtain⟨h5,h6⟩:=gF Dr h3 (mem:=st.mem) rfl;dsimp only at h5; subst h5;exact fin st.mem h6 h1
 ·(rcases rq ha h1 with ⟨rfl,-⟩ | ⟨B0,B,LU,hv,hh,rfl,-⟩);(·obtain⟨h5,h6⟩:=gF hr h3 (mem:=st.mem) rfl;dsimp only at h5; subst h5;exact fin st.mem h6 h1);have Dt:gL (py.mask.map (base + ·)++py.abs) (st.mem.set (base+px.key) B)=gL (py.mask.map (base + ·)++py.abs) st.mem:=rn (dU _ (cu.2 ⟨_,by simpa using hm,rfl⟩)) hh LU hv;obtain⟨h5,h6⟩:=gF hr h3 (mem:=st.mem) Dt.symm;dsimp only at h5; subst h5;exact fin st.mem h6 h1
 ·obtain⟨rfl,-⟩:=gF hr h1 rfl;(rcases rq ha h3 with ⟨h5,h6⟩ | ⟨B0,B,LU,hv,hh,h5,h6⟩);(·dsimp only at h5; subst h5;exact fin st.mem h3 h1);dsimp only at h5 hh; subst h5;have Dt:gL (px.mask.map (base + ·)++px.abs) (st.mem.set (base+py.key) B)=gL (px.mask.map (base + ·)++px.abs) st.mem:=rn (dU _ (cu.2 ⟨_,by simpa using hm,rfl⟩)) hh LU hv;exact fin _ h3 (gF hr h1 Dt).2
 ·(rcases rq ha h1 with ⟨rfl,hx⟩ | ⟨B0,B,LU,hv,hh,rfl,hx⟩);(·exact fin m2 h3 (hx m2));(rcases rq ZJ h3 with ⟨h5,h6⟩ | ⟨B0',B',akG,xR,QE,h5,h6⟩);(·dsimp only at h5; subst h5;exact fin st.mem (h6 st.mem) h1);dsimp only at h5 QE; subst h5;(have LP:base+px.key≠base+py.key:=by omega);rw [eE LP] at QE;have h7:=h6 st.mem QE;have h8:=hx (st.mem.set (base+py.key) B') (by rw [eE (fun e=>LP e.symm)]; exact hh);refine fin _ h7 ?_;rw [anA _ _ LP];exact h8
 ·obtain⟨rfl,h5⟩:=vw hb h1;refine fin m2 h3 (h5 m2 ?_);(rcases hy with ((hy | hy) | ⟨hy,ha⟩) | ⟨hy,ha⟩);(·rw [(gF hy h3 rfl).1]);(·rw [(vw hy h3).1]);(·exact A5 hy ha h3);exact yw hy ha h3
 ·obtain⟨h5,h6⟩:=vw hb h3;dsimp only at h5; subst h5;refine fin st.mem (h6 st.mem ?_) h1;(rcases hx with (hx | ⟨hx,ha⟩) | ⟨hx,ha⟩);(·rw [(gF hx h1 rfl).1]);(·exact (A5 hx ha h1).symm);exact (yw hx ha h1).symm
 ·(rcases A4 he h1 with rfl | ⟨B0,B,LU,hv,hh,rfl⟩);(·obtain⟨h5,h6⟩:=gF hr h3 (mem:=st.mem) rfl;dsimp only at h5; subst h5;exact fin st.mem h6 h1);have Dt:gL (py.mask.map (base + ·)++py.abs) (st.mem.set px.key B)=gL (py.mask.map (base + ·)++py.abs) st.mem:=rn (dG _ (by simpa using hm)) hh LU hv;obtain⟨h5,h6⟩:=gF hr h3 (mem:=st.mem) Dt.symm;dsimp only at h5; subst h5;exact fin st.mem h6 h1
 obtain⟨rfl,-⟩:=gF hr h1 rfl;rcases A4 he h3 with h5 | ⟨B0,B,LU,hv,hh,h5⟩
 ·dsimp only at h5; subst h5;exact fin st.mem h3 h1
 dsimp only at h5 hh; subst h5;have Dt:gL (px.mask.map (base + ·)++px.abs) (st.mem.set py.key B)=gL (px.mask.map (base + ·)++px.abs) st.mem:=rn (dG _ (by simpa using hm)) hh LU hv;exact fin _ h3 (gF hr h1 Dt).2
end
end Go.Eng
end

section
namespace Go.Eng
variable [a6]
open Go.RowKit (Below)

theorem ru {mem:List ba} {size:Nat} {l:Int} {h:Option Int} {x v:V} (hc:cutAt [] size l h x=some v):cutAt mem size l h x=some v:=by
 unfold cutAt at hc ⊢;split at hc;·exact hc
 ·simp [lJ] at hc
 cases hc
theorem Mt {P:Program} {tt:Table} {mem:List ba} {T:TypeId} {x v:V} {lo hi:Option V} (hc:BG P tt [] T x lo hi=some v):BG P tt mem T x lo hi=some v:=by
 unfold BG at hc ⊢;split;·exact hc
 rename_i dK;split at hc;·exact absurd rfl (dK _)
 split at hc;·cases hc
 split at hc;·cases hc
 split at hc;·split at hc;(·exact ru hc);split at hc;(·exact ru hc);cases hc
 split at hc;·cases hc
 split at hc;·exact ru hc
 split at hc;·exact ru hc
 cases hc
theorem J3 {tt:Table} {mem:List ba} {T:TypeId} {p v:V} (h:pM tt [] T p=some v):pM tt mem T p=some v:=by cases p <;> simp [pM,rowOf] at h ⊢;exact h
theorem GO {tt:Table} {mem:List ba} {T:TypeId} {p i v:V} (h:nj tt [] T p i=some v):nj tt mem T p i=some v:=by
 unfold nj at h ⊢;split at h;·split at h;(·split at h;(·cases p <;> simp [indexAt,lJ] at h ⊢;exact h);cases h);cases h
 cases h
theorem GQ {tt:Table} {mem:List ba} {T:TypeId} {b o:Nat} {i:V}:nj tt mem T (.ptr b o) i=none:=by
 unfold nj;split;·split;(·split <;> rfl);rfl
 rfl
theorem GR {P:Program} {tt:Table} {mem:List ba} {T:TypeId} {p i v:V} (h:(match nj tt [] T p i with | some v=>some v | none=>xV P tt T p i)=some v):(match nj tt mem T p i with | some v=>some v | none=>xV P tt T p i)=some v:=by
 split at h;·rename_i u hu;cases h;rw [GO hu]
 have hp:∃ b o,p = .ptr b o:=by unfold xV at h;split at h;(·exact⟨_,_,rfl⟩);cases h
 obtain⟨b,o,rfl⟩:=hp;rw [GQ]; exact h
theorem Ea {P:Program} {mem:List ba} {T:TypeId} {m i v:V} {ok:Bool} (h:jV P [] T m i ok=some v):jV P mem T m i ok=some v:=by
 unfold jV at h ⊢;split at h;·split at h;(·split at h;(·rename_i hk;rw [if_pos hk];unfold oA at h ⊢;split at h;(·simp at h);(·exact h);cases h);cases h);cases h
 cases h
theorem Mu {mem:List ba} {it v:V} (h:JN [] it=some v):JN mem it=some v:=by
 unfold JN at h;split at h;·simp at h
 cases h
theorem Mv {P:Program} {tt:Table} {mem:List ba} {ts:Array TypeId} {ty:TypeId} {xs:List V} {v:V} (h:(match vh [] ts P xs with | some v=>some v | none=>BI P tt ts ty xs)=some v) :
  (match vh mem ts P xs with | some v=>some v | none=>BI P tt ts ty xs)=some v:=by
 by_cases hx:∃ b,xs=[.mp b];·obtain⟨b,rfl⟩:=hx;simp [vh,BI,kZ,oa,fw] at h
 have hn:∀ m,vh m ts P xs=none:=fun m=>by unfold vh;split;(·exact absurd ⟨_,rfl⟩ hx);rfl
 rw [hn] at h ⊢;exact h
theorem J4 (st:St) (mem:List ba) (x:Operand):St.eval { st with mem:=mem } x=st.eval x:=by cases x <;> rfl
theorem ft (st:St) (mem:List ba):St.eval { st with mem:=mem }=st.eval:=funext fun x=>J4 st mem x
theorem J5 {P:Program} {mem:List ba} {s d:TypeId} {x v:V} (h:xU P [] s d x=some v):xU P mem s d x=some v:=by cases x <;> first | exact h | (simp [xU] at h)
theorem Rk {P:Program} {tt:Table} {st:St} {o:Oper} {v:V} (h:lr P tt { st with mem:=[] } o=some v):lr P tt st o=some v:=by
 obtain⟨dst,op,type,pos,after,guard⟩:=o;cases op;case load T x=>simp only [lr,ft] at h ⊢; exact J3 h
 case indexAddr T x i=>simp only [lr,ft] at h ⊢; exact GR h
 case entry it=>simp only [lr,ft] at h ⊢; exact Mu h
 case convert s d x=>simp only [lr,ft] at h ⊢; exact J5 h
 case lookup T x i ok=>simp only [lr,ft] at h ⊢; exact Ea h
 case slice T x lo hi mx =>
  cases mx
  ·simp only [lr,ft] at h ⊢; exact Mt h
  cases lo <;> cases hi <;> simp only [lr,ft,reduceCtorEq] at h ⊢
  exact h
 case call c =>
  obtain⟨callee,args,ts⟩:=c
  cases callee with
  | builtin b=>cases b <;> first | (simp only [lr,ft] at h ⊢; exact h) | (simp only [lr,ft] at h ⊢; exact Mv h) | (simp [lr] at h)
  | _=>simp [lr] at h
 all_goals first | (simp only [lr,ft] at h ⊢; exact h) | (simp [lr] at h)

theorem wK {mem:List ba} {v v':V} (h:dg [] v=some v'):dg mem v=some v'∧kr v=[]:=by
 unfold dg at h;split at h;·exact⟨h,rfl⟩
 ·exact⟨h,rfl⟩
 ·exact⟨h,rfl⟩
 ·exact⟨h,rfl⟩
 ·exact⟨h,rfl⟩
 ·exact⟨h,rfl⟩
 ·simp at h
 ·exact⟨h,rfl⟩
 cases h
theorem tP {mem:List ba}:∀ {vs vs':List V},gJ [] vs=some vs'→gJ mem vs=some vs'∧vs.flatMap kr=[]
 | [],vs',h=>⟨h,rfl⟩
 | c :: r,vs',h=>by
  simp only [gJ] at h ⊢
  split at h
  ·rename_i c' hc
   split at h
   ·rename_i r' hr
    obtain⟨h1,h2⟩:=wK (mem:=mem) hc
    obtain⟨h3,h4⟩:=tP (mem:=mem) hr
    rw [h1,h3]
    exact⟨h,by simp [gq,h2,h4]⟩
   cases h
  cases h
theorem Mw {mem:List ba} {v v':V} (h:gu [] v=some v'):gu mem v=some v'∧eR v=[]:=by
 unfold gu at h;split at h;·rename_i cs;split at h;(·rename_i l hl;obtain⟨h1,h2⟩:=tP (mem:=mem) hl;exact⟨by simp only [gu,h1]; exact h,h2⟩);cases h
 rename_i dK;obtain⟨h1,h2⟩:=wK (mem:=mem) h;exact⟨by cases v <;> first | exact h1 | exact absurd rfl (dK _),by cases v <;> first | exact h2 | exact absurd rfl (dK _)⟩
theorem tQ {mem:List ba}:∀ {vs vs':List V},fh [] vs=some vs'→fh mem vs=some vs'∧vs.flatMap eR=[]
 | [],vs',h=>⟨h,rfl⟩
 | c :: r,vs',h=>by
  simp only [fh] at h ⊢
  split at h
  ·rename_i c' hc
   split at h
   ·rename_i r' hr
    obtain⟨h1,h2⟩:=Mw (mem:=mem) hc
    obtain⟨h3,h4⟩:=tQ (mem:=mem) hr
    rw [h1,h3]
    exact⟨h,by simp [gq,h2,h4]⟩
   cases h
  cases h
theorem pR {v v':V} (h:dg [] v=some v') {E:Env} {x:Value} (hr:cK E v x):cK E v' x:=by
 unfold dg at h;split at h;·cases h; exact hr
 ·cases h; exact oC hr
 ·cases h; exact hr
 ·cases h; cases hr with | full _ _ _ h=>exact h
 ·cases h; exact hr
 ·cases h; exact hr
 ·simp at h
 ·cases h;cases hr with | cC _ f _ _ xs ys hx hy h1 h2 =>(have e1:xs = #[]:=by simpa using hx.symm);(have e2:ys = #[]:=by simpa using hy.symm);subst e1; subst e2; exact .sc _ _
 cases h
theorem oG {E:Env}:∀ {vs vs':List V} {xs:List Value},gJ [] vs=some vs'→cz E vs xs→cz E vs' xs
 | [],vs',xs,h,hr=>by cases h; exact hr
 | c :: r,vs',xs,h,hr=>by
  obtain⟨x,ys,rfl,h1,h2⟩:=hr.of_cons
  simp only [gJ] at h
  split at h
  ·rename_i c' hc
   split at h
   ·rename_i r' Dr
    cases h
    exact .cons (pR hc h1) (oG Dr h2)
   cases h
  cases h
theorem Ci {v v':V} (h:gu [] v=some v') {E:Env} {x:Value} (hr:cK E v x):cK E v' x:=by
 unfold gu at h;split at h;·rename_i cs;split at h;(·rename_i l hl;cases h;cases hr with | agg _ _ xs hlen hh =>have:=oG hl (E:=E) (xs:=xs.toList) ⟨by simpa using hlen,fun i c x hc hx=>hh i c x hc (by simpa using hx)⟩;exact .agg _ _ _ (by simpa using this.1) fun i c x hc hx=>this.2 i c x hc (by simpa using hx));cases h
 exact pR h hr
theorem tR {E:Env}:∀ {vs vs':List V} {xs:List Value},fh [] vs=some vs'→cz E vs xs→cz E vs' xs
 | [],vs',xs,h,hr=>by cases h; exact hr
 | c :: r,vs',xs,h,hr=>by
  obtain⟨x,ys,rfl,h1,h2⟩:=hr.of_cons
  simp only [fh] at h
  split at h
  ·rename_i c' hc
   split at h
   ·rename_i r' Dr
    cases h
    exact .cons (Ci hc h1) (tR Dr h2)
   cases h
  cases h
theorem pb (mem:List ba) (r:V):fQ mem [] r=mem:=by unfold fQ; split <;> rfl

theorem wH.hole {P:Program} {f:FuncId} {vs vs':List V} {e:Nat} {rs:List V} (hp:fh [] vs=some vs') (h:wH P f vs' e rs) {mem:List ba} {key:Nat} (fg:mem[key]?=some .hole) :
  bk P f vs mem (.ms key 0 0 rs.length) (mem.set key (.rows 0 e rs)):=by
 obtain⟨v0,h⟩:=h;refine⟨h.1,fun E w xs hs hx=>?_⟩;obtain⟨LF,hk⟩:=tQ (mem:=mem) hp;have h1:=lK hs (keys:=[]) hx LF (by rw [hk]; simp);have hE:(E.oX w []).pure=⟨E.F,fun _ _=>none,E.gl⟩:=by refine Env.JL (funext fun ad=>?_) rfl;simp only [Env.pure,Env.oX];cases hh:E.F ad <;> simp
 rw [hE] at h1;have Mx:key<mem.length:=(ax.1 fg).1;have la:∀ v,E.cj key v=none:=hs.mem key _ fg;have sA:cU ⟨E.F,fun _ _=>none,E.gl⟩ w { tmps := #[],defers:=[] } { fr:=[],mem:=[] } := ⟨hs.F,(fun k v g e c h=>by cases h),(fun k B h=>by simp at h),(fun k _ v=>rfl),(fun k B h=>by simp at h),(fun k k' v v' g e c e' c' h=>by cases h),.nil _⟩;refine (h.2 _ w xs sA h1).mono ?_;rintro en w' ⟨E',x,rfl,gD,oY,hr⟩;have ob:∀ k v g e c,E'.cj k v=some (g,e,c)→w.heap.size≤g:=fun k v g e c hb=>by (rcases gD.cj _ _ _ _ _ hb with ⟨_,_,_,_,h⟩ | h);(·cases h);exact h
 have hold:∀ b,b<w.heap.size→w'.heap[b]?=w.heap[b]?:=fun b hb=>gD.heap b hb fun _ _ _ _ h=>by cases h
 have ZK:∀ ad y,E'.F ad=some y→E.F ad=some y∨w.heap.size≤ad.block:=fun ad y hy=>by (rcases gD.F _ _ hy with h | h | ⟨_,_,_,_,h⟩);(·exact .inl h);(·exact .inr h);cases h
 have My:(⟨E'.F,fun k v=>if k=key then (if v=0 then E'.cj 0 v0 else none) else E.cj k v,E'.gl⟩:Env).cj key 0=E'.cj 0 v0:=by simp
 have VQ:∀ v,v≠0→(⟨E'.F,fun k v=>if k=key then (if v=0 then E'.cj 0 v0 else none) else E.cj k v,E'.gl⟩:Env).cj key v=none:=fun v hv=>by simp [hv]
 have nP:∀ k v,k≠key→(⟨E'.F,fun k v=>if k=key then (if v=0 then E'.cj 0 v0 else none) else E.cj k v,E'.gl⟩:Env).cj k v=E.cj k v:=fun k v hk=>if_neg hk;generalize ZL:(⟨E'.F,fun k v=>if k=key then (if v=0 then E'.cj 0 v0 else none) else E.cj k v,E'.gl⟩:Env)=E2 at My VQ nP;have jY:E2.F=E'.F:=by rw [← ZL]
 have AV:E2.pure=E'.pure:=Env.JL jY rfl;have IG:∀ v t,E2.cj key v=some t→v=0∧E'.cj 0 v0=some t:=fun v t ht=>by by_cases hv:v=0;(·subst hv; exact⟨rfl,My ▸ ht⟩);rw [VQ v hv] at ht; cases ht
 have hle:E.le E2:=⟨fun ad y hy=>by rw [jY]; exact gD.le.F _ _ hy,fun k v t hk=>by by_cases fe:k=key;(·subst fe; rw [la v] at hk; cases hk);rw [nP k v fe]; exact hk⟩;refine⟨E2,x,rfl,⟨hle,fun k v g e c hk=>?_,fun ad y hy=>?_,gD.os,gD.tape,gD.output,gD.size,fun b hb _=>hold b hb⟩,⟨fun ad y hy=>oY.F _ _ (by rw [← jY]; exact hy),fun k v g e c hk=>?_,fun k B hk=>?_,fun k hk v=>?_,fun k B hk v hv=>?_,fun k k' v v' g e1 c1 e2 c2 h5 h6=>?_,.nil _⟩,?_⟩;·by_cases fe:k=key;(·subst fe; obtain⟨-,h⟩:=IG _ _ hk; exact .inr (ob _ _ _ _ _ h));rw [nP k v fe] at hk; exact .inl ⟨k,v,e,c,hk⟩
 ·rw [jY] at hy;(rcases ZK ad y hy with h | h);(·exact .inl h);exact .inr (.inl h)
 ·by_cases fe:k=key;(·subst fe; obtain⟨-,h⟩:=IG _ _ hk; exact oY.lt _ _ _ _ _ h);rw [nP k v fe] at hk; have:=hs.lt _ _ _ _ _ hk; have:=gD.size; omega
 ·rw [bw] at hk;by_cases fe:key=k;(·subst fe;simp only [if_true,Mx] at hk;cases hk;have h0:=oY.mem 0 _ rfl;(rcases h0 with ⟨h1,h2⟩ | ⟨g,T,ys,c,h1,h2,h3,h4,h5,h6⟩);(·exact .inl ⟨h1,by rw [My]; exact h2⟩);exact .inr ⟨g,T,ys,c,by rw [My]; exact h1,h2,h3,h4,by rw [AV]; exact h5,fun o=>by rw [jY]; exact h6 o⟩);rw [if_neg fe] at hk;refine (hs.mem k B hk).mono hle (fun v hv=>by rw [nP k v (fun e=>fe e.symm)]; exact hv) (fun g e c hb=>hold g (hs.lt _ _ _ _ _ hb)) fun g e c o hb hn=>?_;rw [jY];cases hy:E'.F ⟨g,o,none⟩ with | none=>rfl | some y =>(rcases ZK _ y hy with h | h);(·rw [hn] at h; cases h);have:=hs.lt _ _ _ _ _ hb; simp at h; omega
 ·dsimp only at hk;rw [ov] at hk;rw [nP k v (by omega)]; exact hs.top k (by dsimp only; omega) v
 ·rw [bw] at hk;by_cases fe:key=k;(·subst fe;simp only [if_true,Mx] at hk;cases hk;exact VQ v (by simp [ba.dw] at hv; omega));rw [if_neg fe] at hk;rw [nP k v (fun e=>fe e.symm)]; exact hs.dw k B hk v hv
 ·by_cases ji:k=key <;> by_cases l9:k'=key;(·rw [ji,l9]);(·subst ji;obtain⟨-,h⟩:=IG _ _ h5;rw [nP k' _ l9] at h6;have:=hs.lt _ _ _ _ _ h6; have:=ob _ _ _ _ _ h; omega);(·subst l9;obtain⟨-,h⟩:=IG _ _ h6;rw [nP k _ ji] at h5;have:=hs.lt _ _ _ _ _ h5; have:=ob _ _ _ _ _ h; omega);rw [nP k _ ji] at h5; rw [nP k' _ l9] at h6;exact hs.apart _ _ _ _ _ _ _ _ _ h5 h6
 rcases BV hr with ⟨h0,rfl⟩ | ⟨g,e,c,aa,cap,rfl,hb,hl,h0,hc⟩
 ·rw [h0]; exact .iz _ _ _ _
 exact .ms _ _ _ _ _ g e c _ _ (by rw [My]; exact hb) hl h0 hc

theorem cU.Mz {E:Env} {w:World} {a:Act} {st:St} (hs:cU E w a st) {xs:Array Value} {rs:List V} {e c:Nat} (T:TypeId) (hl:rs.length≤c) (hr:lI E.pure e rs (fun o=>xs[o]?)) :
  ∃ E',cU E' (w.alloc (.cells xs T (0,0))) a st∧gE E w E' (w.alloc (.cells xs T (0,0)))∧cK E' (.slice rs) (.slice (some ⟨w.heap.size,0,none⟩) rs.length c):=by
 have tD:∀ o,(w.alloc (.cells xs T (0,0))).cell? ⟨w.heap.size,o,none⟩=xs[o]?:=fun o=>nM (heap_alloc_new w _) o;have hle:E.le ⟨fun ad=>match E.F ad with | some x=>some x | none=>if ad.block=w.heap.size∧ad.spot=none then xs[ad.off]? else none,E.cj,E.gl.mono fun ad x h=>by simp only [h]⟩:=⟨fun ad x h=>by dsimp only; rw [h],fun _ _ _ h=>h⟩;refine⟨⟨fun ad=>match E.F ad with | some x=>some x | none=>if ad.block=w.heap.size∧ad.spot=none then xs[ad.off]? else none,E.cj,E.gl.mono fun ad x h=>by simp only [h]⟩,⟨fun ad x hx=>?_,fun k v g e c h=>?_,fun k B hB=>?_,hs.top,hs.dw,hs.apart,hs.fr.mono hle⟩,⟨hle,fun k v g e c h=>.inl ⟨k,v,e,c,h⟩,fun ad x hx=>?_,rfl,rfl,rfl,by simp,fun b hb _=>dL w _ b hb⟩,?_⟩;·dsimp only at hx;split at hx;(·rename_i y hy; cases hx;rw [World.cell?_alloc_lt w _ ad (World.block_lt_of_cell? w ad (hs.F ad _ hy))]; exact hs.F ad _ hy);split at hx;(·rename_i hc;obtain⟨b,o,el⟩:=ad;obtain⟨rfl,rfl⟩:=hc;rw [tD]; exact hx);cases hx
 ·have:=hs.lt _ _ _ _ _ h; simp; omega
 ·refine (hs.mem k B hB).mono hle (fun v h=>h) (fun g e' c' hb=>dL w _ g (hs.lt _ _ _ _ _ hb)) fun g e c o hb hn=>?_;dsimp only;rw [hn];have:=hs.lt _ _ _ _ _ hb;simp; intro h; omega
 ·dsimp only at hx;split at hx;(·rename_i y hy; cases hx; exact .inl hy);split at hx;(·rename_i hc; exact .inr (.inl (by rw [hc.1]; exact aw _)));cases hx
 have hn:∀ o,E.F ⟨w.heap.size,o,none⟩=none:=fun o=>by cases hx:E.F ⟨w.heap.size,o,none⟩ with | none=>rfl | some x=>have:=World.block_lt_of_cell? w _ (hs.F _ _ hx); simp at this
 refine .slice _ rs _ c e ⟨w.heap.size,0,none⟩ (fun i j=>(xs[i*e+j]?).getD undef) (fun _=>rfl) hl (fun i row hi=>(hr i row hi).1) (fun i row j cc hi hj=>?_) (fun i row j cc hi hj=>?_) fun i row j cc hi hj=>?_;·obtain⟨x,hx,h1,h2⟩:=(hr i row hi).2 j cc hj;rw [add_lit,ct];simp only [hn,true_and,if_true,and_self];dsimp only at hx; rw [hx]; rfl
 ·obtain⟨x,hx,h1,h2⟩:=(hr i row hi).2 j cc hj;dsimp only at hx ⊢; rw [hx]; exact h1
 obtain⟨x,hx,h1,h2⟩:=(hr i row hi).2 j cc hj;dsimp only at hx ⊢; rw [hx]; exact h2.mono (Env.kp hle)

section
variable {P:Program} {tt:Table} (ht:TT P tt)
include ht
theorem yx {E:Env} {w:World} {a:Act} {st:St} (hs:cU E w a st) {o:Oper} {mem:List ba} {Q:V→Prop} {R:St→Prop} (h:rX P tt o { st with mem:=mem } Q) (hQ:∀ v,Q v→R (st.put o.dst v))
  (lD:∀ v,lr P tt { st with mem:=mem } o=some v→∃ x,(execOp a.eval o).run P w = .ok (.value x) w∧cK E v x)
  {ρ:Option Nat} {n:Nat} {next:Act→World→Prop} {Q':Exit→Act→World→Prop} (hn:∀ v w',DY E w a o.dst R v w'→next (a.put o.dst v) w'):o.wpIn (WF ρ) n P a w next Q':=by
 obtain⟨dst,op,type,pos,after,guard⟩:=o;have gen:∀ (lu:∀ c,op ≠ .defer c),(∀ f xs ts,op ≠ .call { callee:=.value f,args:=xs,argTypes:=ts })→(∀ T ps,op ≠ .build T ps)→(∀ T l ps,op ≠ .buildSlice T l ps)→Oper.wpIn (WF ρ) n P { dst:=dst,op:=op,type:=type,pos:=pos,after:=after,guard:=guard } a w next Q':=by intro lu h1 h2 h3;(have hv:∃ v,lr P tt { st with mem:=mem } { dst:=dst,op:=op,type:=type,pos:=pos,after:=after,guard:=guard }=some v∧Q v:=by unfold rX at h;split at h;(·rename_i heq; exact absurd heq (h1 _ _ _));unfold xm at h;dsimp only at h;split at h;(·rename_i v hv;split at hv;(·exact absurd rfl (h2 _ _));(·exact absurd rfl (h3 _ _ _));exact⟨v,hv,h⟩);exact h.elim);obtain⟨v,hv,hq⟩:=hv;obtain⟨x,h4,h5⟩:=lD v hv;exact da lu h4 (hn _ _ ⟨E,_,hs.put dst h5,gE.refl E w,hQ _ hq⟩)
 cases op;case defer c=>simp [rX,xm,lr] at h
 case build T ps =>
  simp only [rX,xm,ft] at h
  split at h
  ·rename_i v hv
   obtain⟨x,h1,h2⟩:=tI ht hs hv
   exact da (by simp) (c6 h1) (hn _ _ ⟨E,_,hs.put dst h2,gE.refl E w,hQ _ h⟩)
  exact h.elim
 case buildSlice T len ps =>
  simp only [rX,xm,ft] at h
  split at h
  ·rename_i v hv
   split at hv
   ·rename_i size rs hl
    cases hv
    obtain⟨Z,e,h1,h2,h3,h4⟩:=BU ht (fun p _=>hs.eval p.2) hl
    obtain⟨E',h5,h6,h7⟩:=hs.Mz (xs:=Z) (rs:=rs) (c:=len) e (by omega) h4
    rw [h3] at h7
    exact da (by simp) (iN h1) (hn _ _ ⟨E',_,h5.put dst h7,h6,hQ _ h⟩)
   cases hv
  exact h.elim
 case call c =>
  obtain⟨callee,args,ts⟩:=c
  cases callee with
  | value f =>
   simp only [rX,ft] at h
   split at h
   ·rename_i g vs hg
    obtain⟨vs',r,h1,h2,h3⟩:=h
    obtain⟨h4,h5⟩:=tQ (mem:=st.mem) h1
    obtain⟨ys,h6,h7⟩:=qs (P:=P) (w:=w) (hs.eval f) (hs.oB args) hg
    have hc:wz P g vs st dst R:=by
     rcases h2 with h2 | h2
     ·exact .inl ⟨vs',r,h4,h2,by rw [h5,pb]; exact hQ _ h3⟩
     refine .inr (.inr (.inr ⟨r,fun E1 w1 xs1 GC Lz=>?_,hQ _ h3⟩))
     obtain⟨x,g1,g2⟩:=h2 E1 w1 xs1 GC (tR h1 Lz)
     exact⟨x,g1,g2⟩
    rcases wD hs hc h6 with ⟨h8,h9⟩ | ⟨v,h8,h9⟩
    ·refine wB (by simp) (f:=g) (xs:=ys) ?_ h9 fun e w' ⟨v,hv,ha⟩=>⟨v,hv,hn _ _ ha⟩
     rw [← h8,← h7]
     simp only [execOp,resolve]
    refine da (by simp) (v:=v) ?_ (hn _ _ h9)
    rw [← h8,← h7]
    simp only [execOp,resolve]
   exact h.elim
  | _=>exact gen (by simp) (by simp) (by simp) (by simp)
 all_goals exact gen (by simp) (by simp) (by simp) (by simp)

omit ht in
theorem tS {mem:List ba} {k:Nat} (h:mem[k]?=some .hole) (B:ba):c7 mem k B=mem.set k B:=by unfold c7; rw [if_pos (ax.1 h).1]

theorem Eb {all:Array Oper} {base:Nat} {E:Env} {w:World} {a:Act} {st:St} (hs:cU E w a st) {i:Nat} {o:Oper} {p:Pl} {Q:St→Prop} (hi:all[i]?=some o) (h:gv P tt all base o p st Q)
  {ρ:Option Nat} {n:Nat} {next:Act→World→Prop} {Q':Exit→Act→World→Prop} (hn:∀ v w',DY E w a o.dst Q v w'→next (a.put o.dst v) w'):wpOpIn (WF ρ) n P all Q' i next a w:=by
 unfold wpOpIn;rw [hi];dsimp only;unfold gv at h;split at h;·rename_i hw;rw [if_pos (l7 hs hw)];split at h;(·rw [xy] at h; exact yx ht hs h (fun _ h=>h) (fun v hv=>rh ht hs (Rk hv)) hn);(·rw [xy] at h; exact yx ht hs h (fun _ h=>h) (fun v hv=>rh ht (hs.gL _) hv) hn);(·obtain⟨hh,h⟩:=h;rw [lM] at hh;split at h;(·rename_i B v hb;refine gK ht hs (key:=base+p.key) (.inl hh) ?_ hn;unfold jt at hb;unfold c8;split at hb;(·rename_i T heq;rw [heq];dsimp only;split at hb;(·rename_i i hi; cases hb; rw [hi]; dsimp only; rw [tS hh]; exact h);cases hb);(·rename_i heq;rw [heq];dsimp only;split at hb;(·rename_i i hi; cases hb; rw [hi]; dsimp only; rw [tS hh]; exact h);cases hb);(·rename_i heq;rw [heq];dsimp only;split at hb;(·rename_i i hi; cases hb; rw [hi]; dsimp only; rw [tS hh]; exact h);cases hb);(·rename_i heq;rw [heq];dsimp only;cases hb; rw [tS hh]; exact h);(·rename_i heq;rw [heq];dsimp only;split at hb;(·rename_i i hi; cases hb; rw [hi]; dsimp only; rw [tS hh]; exact h);cases hb);cases hb);rw [A3] at h;unfold pP at h;split at h;(·rename_i f xs ts heq;split at h;(·rename_i g vs hg;obtain⟨vs',e,rs,h1,h2,h3⟩:=h;refine gK ht hs (key:=base+p.key) (.inl hh) ?_ hn;unfold c8;rw [heq];dsimp only;split;(·rename_i k hk; rw [hk] at hg; simp [cP] at hg);rw [hg];exact .inr (.inl ⟨_,_,h2.hole h1 hh,h3⟩));exact h.elim);exact h.elim);(·obtain⟨hh,h⟩:=h;rw [lM] at hh;split at h;(·rename_i m v hb;refine gK ht hs (key:=base+p.key) (.inl hh) ?_ hn;unfold tM at hb;unfold c8;split at hb;(·rename_i heq;rw [heq];dsimp only;split at hb;(·rename_i i hi; cases hb; rw [hi]; exact h);cases hb);(·rename_i xs ts heq;rw [heq];dsimp only;split at hb;(·rename_i s x Q8;rw [Q8];dsimp only;split at hb;(·rename_i size sD rows ha;rw [ha];simp only [aB] at hb;dsimp only;rw [hb]; exact h);cases hb);cases hb);(·rename_i heq;rw [heq];dsimp only;split at hb;(·rename_i i hi; cases hb; rw [hi]; exact h);cases hb);(·rename_i heq;rw [heq];dsimp only;split at hb;(·rename_i i hi; cases hb; rw [hi]; exact h);cases hb);cases hb);exact h.elim);(·split at h;(·rename_i m hb;refine gK ht hs (key:=st.mem.length) (.inr rfl) ?_ hn;unfold pW at hb;unfold c8;split at hb;(·rename_i heq;rw [heq];dsimp only;split at hb;(·rename_i b off hp;split at hb;(·rename_i hk;subst hk;rw [hp,hb]; exact h);cases hb);cases hb);cases hb);exact h.elim);(·split at h;(·rename_i v hb;refine gK ht hs (key:=st.mem.length) (.inr rfl) ?_ hn;have ho:=JZ (P:=P) hb;unfold pQ at hb;unfold c8;split at hb;(·rename_i heq;rw [heq];dsimp only;rw [ho]; exact h);cases hb);exact h.elim);(·refine gK ht hs (key:=st.mem.length) (.inr rfl) ?_ hn;unfold oF at h;unfold c8;split at h;(·rename_i f xs ts heq;split at h;(·rename_i g vs hg;obtain⟨vs',r,h1,h2,h3⟩:=h;rw [heq];dsimp only;split;(·rename_i k hk; rw [hk] at hg; simp [cP] at hg);rw [hg];exact .inl ⟨vs',r,h1,h2,h3⟩);exact h.elim);exact h.elim);refine gK ht hs (key:=st.mem.length) (.inr rfl) ?_ hn;unfold tN at h;unfold c8;split at h;(·rename_i f xs ts heq;split at h;(·rename_i g vs hg;obtain⟨v,B0,B,-,-,h1,h2,h3⟩:=h;rw [heq];dsimp only;split;(·rename_i k hk; rw [hk] at hg; simp [cP] at hg);rw [hg];exact .inr (.inl ⟨_,_,h2,h3⟩));exact h.elim);split at h;(·rename_i m hb;unfold pW at hb;split at hb;(·rename_i heq;rw [heq];dsimp only;split at hb;(·rename_i b off hp;split at hb;(·rename_i hk;subst hk;rw [hp,hb]; exact h);cases hb);cases hb);cases hb);exact h.elim
 ·rename_i hw;rw [if_neg (by rw [l7 hs hw]; simp)];exact⟨fun _ _=>trivial,hn _ _ ⟨E,_,hs.put o.dst (.sc _ _),gE.refl E w,h⟩⟩
 exact h.elim
end
end Go.Eng
end

section
namespace Go.Eng
variable [a6]

def pl0:Pl:=⟨.n,0,[],[],[]⟩
def nr (o:Oper) (k:Nat):Bool:=o.after.any fun e=>Region.binds .any e&&e.on==k
def qz (all:Array Oper) (y:Oper) (py:Pl):Nat→List Oper→List Pl→Bool
 | _,[],_=>true
 | k,x :: r,px=>(nr y k||py.TK.contains k||vt all x (px.headD pl0) y py)&&qz all y py (k+1) r px.tail
def GU (o:Oper) (i:Nat):Bool:=o.after.all fun e=>!Region.binds .any e||decide (e.on<i)
def qA (plan:List Pl) (i:Nat):Pl:=(plan[i]?).getD pl0
def MA (plan:List Pl) (y:Oper) (py:Pl):Bool:=py.TK.all fun k=>nr y k||y.after.any fun e=>Region.binds .any e&&(qA plan e.on).TK.contains k
def xz (all:Array Oper) (plan:List Pl):Nat→List Oper→List Pl→Bool
 | _,[],_=>true
 | i,y :: r,py=>GU y i&&MA plan y (py.headD pl0)&&qz all y (py.headD pl0) 0 (all.toList.take i) plan&&xz all plan (i+1) r py.tail
def tT (all:Array Oper) (plan:List Pl):Bool:=xz all plan 0 all.toList plan

theorem sK {α:Type} (l:List α) (i:Nat) (d:α):(l.drop i).headD d=(l[i]?).getD d:=by rw [List.headD_eq_head?_getD,List.head?_drop]

theorem tU {all:Array Oper} {y:Oper} {py:Pl} {plan:List Pl}:∀ {l:List Oper} {n:Nat},qz all y py n l (plan.drop n)=true→∀ k x,l[k]?=some x→(nr y (n+k)=true∨(n+k)∈py.TK)∨vt all x (qA plan (n+k)) y py=true
 | [],n,_,k,x,h=>by simp at h
 | z :: r,n,h,k,x,hk=>by
  simp only [qz,aN,am4,sK] at h
  cases k with
  | zero=>simp at hk; subst hk; simpa [qA] using h.1
  | succ k =>
   have h2:=h.2
   rw [anj] at h2
   have:=tU h2 k x (by simpa using hk)
   rw [nH,am2 1 k] at this
   exact this
theorem wL {all:Array Oper} {plan:List Pl}:∀ {l:List Oper} {n:Nat},xz all plan n l (plan.drop n)=true→∀ k y,l[k]?=some y→(GU y (n+k)=true∧MA plan y (qA plan (n+k))=true)∧qz all y (qA plan (n+k)) 0 (all.toList.take (n+k)) plan=true
 | [],n,_,k,x,h=>by simp at h
 | z :: r,n,h,k,x,hk=>by
  simp only [xz,aN,sK] at h
  cases k with
  | zero=>simp at hk; subst hk; exact h.1
  | succ k =>
   have h2:=h.2
   rw [anj] at h2
   have:=wL h2 k x (by simpa using hk)
   rw [nH,am2 1 k] at this
   exact this
theorem oH {all:Array Oper} {plan:List Pl} (h:tT all plan=true) {i:Nat} {y:Oper} (hi:all[i]?=some y) :
  (∀ e∈y.after,Region.binds .any e=true→e.on<i)∧(∀ k∈(qA plan i).TK,nr y k=true∨∃ e∈y.after,Region.binds .any e=true∧k∈(qA plan e.on).TK)∧∀ k x,k<i→all[k]?=some x→(nr y k=true∨k∈(qA plan i).TK)∨vt all x (qA plan k) y (qA plan i)=true:=by
 have:=wL (n:=0) h i y (by simpa using hi);rw [ct] at this;obtain⟨⟨h1,h3⟩,h2⟩:=this;refine⟨fun e he hb=>?_,fun k hk=>?_,fun k x hk hx=>?_⟩;·unfold GU at h1;have:=Array.all_eq_true_iff_forall_mem.1 h1 e he;simpa [hb] using this
 ·unfold MA at h3;have:=aY.1 h3 k hk;rw [am4] at this;refine this.imp id fun h=>?_;rw [anY] at h;obtain⟨e,he,h⟩:=h;rw [aN] at h;exact⟨e,he,h.1,by simpa using h.2⟩
 have:=tU (n:=0) h2 k x (by rw [jb hk]; simpa using hx);rwa [ct] at this

section
variable {P:Program} {tt:Table} {all:Array Oper} {plan:List Pl} {base:Nat}
def Ec (P:Program) (tt:Table) (all:Array Oper) (plan:List Pl) (base:Nat):List Nat→St→(St→Prop)→Prop
 | [],st,K=>K st
 | i :: r,st,K=>match all[i]? with
  | some o=>gv P tt all base o (qA plan i) st fun st'=>Ec P tt all plan base r st' K
  | none=>False
theorem pc {o:Oper} {p:Pl} {st:St} {K K':St→Prop} (h:∀ s,K s→K' s) (hh:gv P tt all base o p st K):gv P tt all base o p st K':=by
 by_cases hz:p.cls = .z;·unfold gv at hh ⊢;split at hh;(·rw [hz] at hh ⊢;exact yq hh h);(·exact h _ hh);exact hh.elim
 obtain⟨v,m,h1,h2⟩:=(jj hz).1 hh;exact (jj hz).2 ⟨v,m,h1,h _ h2⟩
theorem yy {i:Nat} {o:Oper} (hi:all[i]?=some o) {K:St→Prop} {σ2:List Nat}:∀ {σ1:List Nat} {st:St},(∀ k∈σ1,∀ x,all[k]?=some x→vt all x (qA plan k) o (qA plan i)=true) →
  Ec P tt all plan base (σ1++i :: σ2) st K→gv P tt all base o (qA plan i) st fun st'=>Ec P tt all plan base (σ1++σ2) st' K
 | [],st,_,h=>by simpa [Ec,hi] using h
 | k :: r,st,hp,h=>by
  simp only [aj,Ec] at h ⊢
  cases hk:all[k]? with
  | none=>rw [hk] at h; exact h.elim
  | some x =>
   rw [hk] at h
   dsimp only at h ⊢
   exact GM (hp k (by simp) x hk) (pc (fun s hs=>yy hi (fun k' jA=>hp k' (by simp [jA])) hs) h)

theorem tV {y:Oper} {k:Nat} {listed:Array Bool} (h:nr y k=true) (hl:∀ e∈y.after,Region.binds .any e=true→listed.getD e.on false=true):listed.getD k false=true:=by unfold nr at h;rw [anY] at h;obtain⟨e,he,h⟩:=h;rw [aN,beq_iff_eq] at h;rw [← h.2]; exact hl e he h.1

def MB (all:Array Oper) (listed:Array Bool):Prop:=∀ (i:Nat) (o:Oper),listed.getD i false=true→all[i]?=some o→∀ e∈o.after,Region.binds .any e=true→listed.getD e.on false=true
theorem GV (gh:tT all plan=true) {listed:Array Bool} (hc:MB all listed) (lZ:listed.size=all.size):∀ (i:Nat) (y:Oper),all[i]?=some y→(∀ e∈y.after,Region.binds .any e=true→listed.getD e.on false=true)→∀ k∈(qA plan i).TK,listed.getD k false=true:=by intro i;induction i using Nat.strongRecOn with | _ i ih =>intro y hy hl k hk;(rcases (oH gh hy).2.1 k hk with h | ⟨e,he,hb,h⟩);(·exact tV h hl);have h1:=hl e he hb;(have bX:e.on<all.size:=by have:e.on<i:=(oH gh hy).1 e he hb;have:=(dp.1 hy).1;omega);have hz:=bS bX;exact ih e.on ((oH gh hy).1 e he hb) _ hz (hc e.on _ h1 hz) k h

theorem Ed (ht:TT P tt) (gh:tT all plan=true) {ρ:Option Nat} {n:Nat} {K:St→Prop} {Q':Exit→Act→World→Prop}:∀ (fuel:Nat) (listed:Array Bool) (σ:List Nat),listed.size=all.size→MB all listed→σ.length≤fuel→σ.Pairwise (· < ·)→(∀ i,i∈σ↔listed[i]?=some false) →
  ∀ {E:Env} {w:World} {a:Act} {st:St},cU E w a st→Ec P tt all plan base σ st K→(∀ a' w',a'.defers=a.defers→(∃ E' st',cU E' w' a' st'∧gE E w E' w'∧K st')→Q' .normal a' w')→wpAnyIn (WF ρ) n P .any all Q' fuel listed a w:=by
 intro fuel;have done:∀ (listed:Array Bool) (σ:List Nat),listed.size=all.size→σ.Pairwise (· < ·)→(∀ i,i∈σ↔listed[i]?=some false)→Region.ready .any all listed=[]→σ=[]:=by intro listed σ lZ A6 lN hr;cases σ with | nil=>rfl | cons i r =>exfalso;have hif:=(lN i).1 (by simp);(have bX:i<all.size:=by rw [← lZ]; exact (dp.1 hif).1);(have:i∈Region.ready .any all listed:=by refine mem_ready.2 ⟨by simp [ki,hif],all[i],bS bX,fun e he hb=>?_⟩;have Ve:=(oH gh (bS bX)).1 e he hb;(have hs:e.on<listed.size:=by omega);cases hv:listed[e.on] with | true=>simp [ki,bS hs,hv] | false =>have:e.on∈i :: r:=(lN e.on).2 (by rw [bS hs,hv]);(rcases cp.1 this with h | h);(·omega);have:=List.rel_of_pairwise_cons A6 h; omega);rw [hr] at this; cases this
 induction fuel with | zero =>(intro listed σ lZ n9 hlen A6 lN E w a st hs h hq;have hσ:σ=[]:=cd.1 (by omega);subst hσ;refine⟨?_,hq _ _ rfl ⟨E,st,hs,gE.refl E w,h⟩⟩;cases hr:Region.ready .any all listed with | nil=>rfl | cons j l =>(have hj:j∈Region.ready .any all listed:=by rw [hr]; simp);obtain⟨h0,o,ho,-⟩:=mem_ready.1 hj;(have bX:j<listed.size:=by rw [lZ]; exact (dp.1 ho).1);have:j∈([]:List Nat):=(lN j).2 (by rw [bS bX]; congr 1;simpa [ki,bS bX] using h0);cases this) | succ fuel ih =>intro listed σ lZ n9 hlen A6 lN E w a st hs h hq;refine⟨fun hr=>?_,fun i hi=>?_⟩;(·have:=done listed σ lZ A6 lN hr;subst this;exact hq _ _ rfl ⟨E,st,hs,gE.refl E w,h⟩);obtain⟨h0,o,ho,VR⟩:=mem_ready.1 hi;(have bX:i<listed.size:=by rw [lZ]; exact (dp.1 ho).1);(have hif:listed[i]?=some false:=by rw [bS bX]; congr 1;simpa [ki,bS bX] using h0);obtain⟨σ1,σ2,rfl⟩:=List.append_of_mem ((lN i).2 hif);rw [an3] at A6;obtain⟨sA,Lx,VS⟩:=A6;rw [List.pairwise_cons] at Lx;have kL:=yy ho (σ1:=σ1) (fun k hk x hx=>by have hki:k<i:=VS k hk i (by simp);(rcases (oH gh ho).2.2 k x hki hx with hw | hw);(·exfalso;have h1:=hw.elim (fun hw=>tV hw VR) fun hw=>GV gh n9 lZ i o ho VR k hw;have h2:=(lN k).1 (by simp [hk]);rw [ki,h2] at h1;cases h1);exact hw) h;refine Eb ht hs ho kL ?_;rintro v w' ⟨E',st',h1,h2,h3⟩;refine ih (listed.setIfInBounds i true) (σ1++σ2) (by simpa using lZ) ?_ ?_ ?_ ?_ h1 h3 fun a' w'' hd ⟨Ds,Vu,h4,h5,h6⟩=>hq _ _ (hd.trans (put_defers _ _ _)) ⟨Ds,Vu,h4,h2.trans h5,h6⟩;(·intro j z hj hz e he hb;by_cases YH:j=i;(·subst YH;rw [ho] at hz; cases hz;exact getD_set_true (VR e he hb));rw [getD_set_ne false (fun e=>YH e.symm)] at hj;exact getD_set_true (n9 j z hj hz e he hb));(·simp at hlen ⊢; omega);(·rw [an3];exact⟨sA,Lx.2,fun x hx y hy=>VS x hx y (by simp [hy])⟩);intro j;rw [Array.getElem?_setIfInBounds];by_cases YH:i=j;(·subst YH;rw [if_pos rfl];constructor;(·intro hj;(rcases fI.1 hj with h | h);(·have:=VS i h i (by simp); omega);have:=Lx.1 i h; omega);split;(·intro h; cases h);intro h; cases h);rw [if_neg YH,← lN j];simp only [fI,cp];constructor;(·rintro (h | h);(·exact .inl h);exact .inr (.inr h));rintro (h | h | h);(·exact .inl h);(·exact absurd h.symm YH);exact .inr h

def runM (P:Program) (tt:Table) (all:Array Oper) (base:Nat):List Oper→List Pl→St→(St→Prop)→Prop
 | [],_,st,K=>K st
 | o :: r,p :: ps,st,K=>gv P tt all base o p st fun st'=>runM P tt all base r ps st' K
 | _ :: _,[],_,_=>False
@[congr] theorem VT {base TN:Nat} {l:List Oper} {ps:List Pl} {st st':St} {K:St→Prop} (hb:base=TN) (h:st=st'):runM P tt all base l ps st K=runM P tt all TN l ps st' K:=by rw [hb,h]
theorem MC {K:St→Prop}:∀ {l:List Oper} {n:Nat} {st:St},(∀ k x,l[k]?=some x→all[n+k]?=some x)→runM P tt all base l (plan.drop n) st K→Ec P tt all plan base (List.range' n l.length) st K
 | [],n,st,_,h=>h
 | o :: r,n,st,er,h=>by
  have ho:all[n]?=some o:=er 0 o rfl
  rw [aD,anN,Ec,ho]
  dsimp only
  cases hd:plan.drop n with
  | nil=>rw [hd] at h; exact h.elim
  | cons p ps =>
   rw [hd] at h
   have hp:qA plan n=p:=by rw [qA,← sK,hd]; rfl
   have LH:ps=plan.drop (n+1):=by rw [← anj,hd]; rfl
   rw [hp]
   subst LH
   exact pc (fun s hs=>MC (fun k x hk=>by have:=er (k+1) x (by simpa using hk); rwa [show n+(k+1)=n+1+k by omega] at this) hs) h

theorem cU.ZM {E:Env} {w:World} {a:Act} {st:St} (hs:cU E w a st) (m:Nat):cU E w a { st with mem:=st.mem++List.replicate m .hole }:=by
 have get:∀ {k:Nat} {B:ba},(st.mem++List.replicate m .hole)[k]?=some B→st.mem[k]?=some B∨(B=ba.hole∧st.mem.length≤k):=fun {k B} h=>by (rcases bW k st.mem.length with hk | hk);(·rw [bm hk] at h; exact .inl h);rw [aW hk,anx] at h;split at h;(·cases h; exact .inr ⟨rfl,hk⟩);cases h
 refine⟨hs.F,hs.lt,fun k B hk=>?_,fun k hk=>hs.top k (by simp at hk; omega),fun k B hk v hv=>?_,hs.apart,hs.fr⟩;·(rcases get hk with h | ⟨rfl,fe⟩);(·exact hs.mem k B h);exact fun v=>hs.top k fe v
 rcases get hk with h | ⟨rfl,fe⟩
 ·exact hs.dw k B h v hv
 exact hs.top k fe v

theorem oI (ht:TT P tt) (hm:P.follows .mixedOrders=true) {ρ:Option Nat} {n0:Nat} {st:St} {Q:Exit→St→Prop} (plan:List Pl) (m:Nat) {id:Nat} {ops:Array Oper} (gh:tT ops plan=true)
  (h:runM P tt ops st.mem.length ops.toList plan { st with mem:=st.mem++List.replicate m .hole } (Q .normal)):dN P ρ n0 (.region id ops true) st Q:=fun E0 w0 h0 E w a he hs Dt=>by
 refine wpIn_region_any hm ?_
 have hd:cU E { w with drawn:=w.drawn+1 } a { st with mem:=st.mem++List.replicate m .hole }:=(hs.drew (w:=w)).ZM m
 have hI:=MC (all:=ops) (plan:=plan) (n:=0) (l:=ops.toList) (fun k x hk=>by rw [ct]; simpa using hk) h
 rw [← an2] at hI
 refine Ed (P:=P) (tt:=tt) ht gh ops.size _ (List.range ops.toList.length) (by simp) (fun j z hj=>by simp [ki,an8] at hj; split at hj <;> simp at hj) (by simp) (List.pairwise_lt_range) (fun i=>?_) hd hI fun a' w' hdf ⟨E',st',h1,h2,h3⟩=>⟨E',st',h1,(he.trans (gE.drew E w)).trans h2,?_,h3⟩
 ·simp only [am5,an8]
  simp
 rw [hdf]; exact (Dt.LD (gE.drew E w)).LD h2
theorem oh (ht:TT P tt) (hm:P.follows .mixedOrders=true) {ρ:Option Nat} {n0:Nat} {st:St} {Q:Exit→St→Prop} (plan:List Pl) (m:Nat) {id:Nat} {ops:Array Oper} {y:Code} (gh:tT ops plan=true)
  (h:∀ K:St→Prop,(∀ st',dN P ρ n0 y st' Q→K st')→runM P tt ops st.mem.length ops.toList plan { st with mem:=st.mem++List.replicate m .hole } K):dN P ρ n0 (.seq (.region id ops true) y) st Q :=
 bj (oI ht hm plan m gh (h (fun st'=>dN P ρ n0 y st' Q) fun _ h=>h))
theorem ld (ht:TT P tt) (hm:P.follows .mixedOrders=true) {ρ:Option Nat} {n0:Nat} {st:St} {Q:Exit→St→Prop} (plan:List Pl) (m:Nat) {id:Nat} {ops:Array Oper} (gh:tT ops plan=true)
  (h:∀ K:St→Prop,(∀ st',Q .normal st'→K st')→runM P tt ops st.mem.length ops.toList plan { st with mem:=st.mem++List.replicate m .hole } K):dN P ρ n0 (.region id ops true) st Q :=
 oI ht hm plan m gh (h (Q .normal) fun _ h=>h)
end
end Go.Eng
end

section
namespace Go.Eng
variable [a6]
open Go.RowKit (Below)

def pd:ba→Bool
 | .rows _ _ _=>true
 | .tv _ _ _=>true
 | .dead=>true
 | .hole=>true
 | _=>false

theorem bk.live {P:Program} {f:FuncId} {vs vs':List V} {b v s l:Nat} {bM:List ba} (hp:fh [] vs=some vs') (h:bk P f vs' [] (.ms b v s l) bM) (hm:bM.all pd=true) (mem:List ba) :
  bk P f vs mem (.ms (mem.length+b) v s l) (mem++bM):=by
 refine⟨h.1,fun E w xs hs hx=>?_⟩;obtain⟨LF,hk⟩:=tQ (mem:=mem) hp;have h1:=lK hs (keys:=[]) hx LF (by rw [hk]; simp);have hE:(E.oX w []).pure=⟨E.F,fun _ _=>none,E.gl⟩:=by refine Env.JL (funext fun ad=>?_) rfl;simp only [Env.pure,Env.oX];cases hh:E.F ad <;> simp
 rw [hE] at h1;have sA:cU ⟨E.F,fun _ _=>none,E.gl⟩ w { tmps := #[],defers:=[] } { fr:=[],mem:=[] } := ⟨hs.F,(fun k v g e c h=>by cases h),(fun k B h=>by simp at h),(fun k _ v=>rfl),(fun k B h=>by simp at h),(fun k k' v v' g e c e' c' h=>by cases h),.nil _⟩;refine (h.2 _ w xs sA h1).mono ?_;rintro en w' ⟨E',x,rfl,gD,oY,hr⟩;have ob:∀ k v g e c,E'.cj k v=some (g,e,c)→w.heap.size≤g:=fun k v g e c hb=>by (rcases gD.cj _ _ _ _ _ hb with ⟨_,_,_,_,h⟩ | h);(·cases h);exact h
 have hold:∀ b,b<w.heap.size→w'.heap[b]?=w.heap[b]?:=fun b hb=>gD.heap b hb fun _ _ _ _ h=>by cases h
 have ZK:∀ ad y,E'.F ad=some y→E.F ad=some y∨w.heap.size≤ad.block:=fun ad y hy=>by (rcases gD.F _ _ hy with h | h | ⟨_,_,_,_,h⟩);(·exact .inl h);(·exact .inr h);cases h
 have nP:∀ k v,k<mem.length→(⟨E'.F,fun k v=>if k<mem.length then E.cj k v else E'.cj (k-mem.length) v,E'.gl⟩:Env).cj k v=E.cj k v:=fun k v hk=>if_pos hk;have tw:∀ k v,mem.length≤k→(⟨E'.F,fun k v=>if k<mem.length then E.cj k v else E'.cj (k-mem.length) v,E'.gl⟩:Env).cj k v=E'.cj (k-mem.length) v:=fun k v hk=>if_neg (by omega);generalize ZL:(⟨E'.F,fun k v=>if k<mem.length then E.cj k v else E'.cj (k-mem.length) v,E'.gl⟩:Env)=E2 at nP tw;have jY:E2.F=E'.F:=by rw [← ZL]
 have AV:E2.pure=E'.pure:=Env.JL jY rfl;have hle:E.le E2:=⟨fun ad y hy=>by rw [jY]; exact gD.le.F _ _ hy,fun k v t hk=>by (rcases bW k mem.length with fe | fe);(·rw [nP k v fe]; exact hk);rw [hs.top k fe v] at hk; cases hk⟩;have get:∀ {k:Nat} {B:ba},(mem++bM)[k]?=some B→(k<mem.length∧mem[k]?=some B)∨(mem.length≤k∧bM[k-mem.length]?=some B):=fun {k B} h=>by (rcases bW k mem.length with hk | hk);(·rw [bm hk] at h; exact .inl ⟨hk,h⟩);rw [aW hk] at h; exact .inr ⟨hk,h⟩
 refine⟨E2,x,rfl,⟨hle,fun k v g e c hk=>?_,fun ad y hy=>?_,gD.os,gD.tape,gD.output,gD.size,fun b hb _=>hold b hb⟩,⟨fun ad y hy=>oY.F _ _ (by rw [← jY]; exact hy),fun k v g e c hk=>?_,fun k B hk=>?_,fun k hk v=>?_,fun k B hk v hv=>?_,fun k k' v v' g e1 c1 e2 c2 h5 h6=>?_,.nil _⟩,?_⟩;·(rcases bW k mem.length with fe | fe);(·rw [nP k v fe] at hk; exact .inl ⟨k,v,e,c,hk⟩);rw [tw k v fe] at hk; exact .inr (ob _ _ _ _ _ hk)
 ·rw [jY] at hy;(rcases ZK ad y hy with h | h);(·exact .inl h);exact .inr (.inl h)
 ·(rcases bW k mem.length with fe | fe);(·rw [nP k v fe] at hk; have:=hs.lt _ _ _ _ _ hk; have:=gD.size; omega);rw [tw k v fe] at hk; exact oY.lt _ _ _ _ _ hk
 ·(rcases get hk with ⟨fe,hB⟩ | ⟨fe,hB⟩);(·refine (hs.mem k B hB).mono hle (fun v hv=>by rw [nP k v fe]; exact hv) (fun g e c hb=>hold g (hs.lt _ _ _ _ _ hb)) fun g e c o hb hn=>?_;rw [jY];cases hy:E'.F ⟨g,o,none⟩ with | none=>rfl | some y =>(rcases ZK _ y hy with h | h);(·rw [hn] at h; cases h);have:=hs.lt _ _ _ _ _ hb; simp at h; omega);have hl:=aY.1 hm B (ay hB);have h0:=oY.mem _ B hB;cases B with | hole=>(exact fun v=>by rw [tw k v fe]; exact h0 v) | dead=>trivial | box cs=>simp [pd] at hl | loop s p fr ps a b=>simp [pd] at hl | map dq clock=>simp [pd] at hl | jc m since seen last=>simp [pd] at hl | mS s pos=>simp [pd] at hl | nh=>simp [pd] at hl | rows v e rs =>((rcases h0 with ⟨h1,h2⟩ | ⟨g,T,ys,c,h1,h2,h3,h4,h5,h6⟩);(·exact .inl ⟨h1,by rw [tw k v fe]; exact h2⟩);exact .inr ⟨g,T,ys,c,by rw [tw k v fe]; exact h1,h2,h3,h4,by rw [AV]; exact h5,fun o=>by rw [jY]; exact h6 o⟩) | tv v e rs =>(rcases h0 with ⟨h1,h2⟩ | ⟨g,c,h1,h2,h3⟩);(·exact .inl ⟨h1,by rw [tw k v fe]; exact h2⟩);exact .inr ⟨g,c,by rw [tw k v fe]; exact h1,h2,by rw [AV,jY]; exact h3⟩
 ·dsimp only at hk;simp only [ch] at hk;rw [tw k v (by omega)]; exact oY.top _ (by dsimp only; omega) v
 ·(rcases get hk with ⟨fe,hB⟩ | ⟨fe,hB⟩);(·rw [nP k v fe]; exact hs.dw k B hB v hv);rw [tw k v fe]; exact oY.dw _ B hB v hv
 ·(rcases bW k mem.length with ji | ji <;> rcases bW k' mem.length with l9 | l9);(·rw [nP k _ ji] at h5; rw [nP k' _ l9] at h6;exact hs.apart _ _ _ _ _ _ _ _ _ h5 h6);(·rw [nP k _ ji] at h5; rw [tw k' _ l9] at h6;have:=hs.lt _ _ _ _ _ h5; have:=ob _ _ _ _ _ h6; omega);(·rw [tw k _ ji] at h5; rw [nP k' _ l9] at h6;have:=hs.lt _ _ _ _ _ h6; have:=ob _ _ _ _ _ h5; omega);rw [tw k _ ji] at h5; rw [tw k' _ l9] at h6;have:=oY.apart _ _ _ _ _ _ _ _ _ h5 h6;omega
 cases hr with | ms _ b v s l g e c a cap hb hl h0 hc=>exact .ms _ _ _ _ _ g e c _ _ (by rw [tw _ v (by omega),dM]; exact hb) hl h0 hc | iz=>exact .iz _ _ _ _

theorem cU.tW {E:Env} {w:World} {a:Act} {st:St} (hs:cU E w a st) (v e:Nat):cU E w a { st with mem:=st.mem++[.rows v e []] }:=by
 have get:∀ {k:Nat} {B:ba},(st.mem++[ba.rows v e []])[k]?=some B→st.mem[k]?=some B∨(B=ba.rows v e []∧st.mem.length≤k):=fun {k B} h=>by (rcases bW k st.mem.length with hk | hk);(·rw [bm hk] at h; exact .inl h);rw [aW hk] at h;cases fe:k-st.mem.length with | zero=>rw [fe] at h; cases h; exact .inr ⟨rfl,hk⟩ | succ j=>rw [fe] at h; cases h
 refine⟨hs.F,hs.lt,fun k B hk=>?_,fun k hk=>hs.top k (by simp at hk; omega),fun k B hk v hv=>?_,hs.apart,hs.fr⟩;·(rcases get hk with h | ⟨rfl,fe⟩);(·exact hs.mem k B h);exact .inl ⟨rfl,hs.top k fe v⟩
 rcases get hk with h | ⟨rfl,fe⟩
 ·exact hs.dw k B h v hv
 exact hs.top k fe v
theorem cU.Ee {E:Env} {w:World} {a:Act} {st:St} (hs:cU E w a st) {i:Nat} (b v:Nat) (h:st.fr[i]?=some (.sc (.slice none 0 0))):cU E w a { st with fr:=st.fr.set i (.ms b v 0 0) }:=hs.Q9 h
theorem lO {P:Program} {ρ:Option Nat} {n0:Nat} {c:Code} {st:St} {Q:Exit→St→Prop} (i v e:Nat) (h0:st.fr[i]?=some (.sc (.slice none 0 0))) (h:dN P ρ n0 c { fr:=st.fr.set i (.ms st.mem.length v 0 0),mem:=st.mem++[.rows v e []] } Q):dN P ρ n0 c st Q :=
 qu (fun E w a hs=>(hs.Ee (i:=i) st.mem.length v h0).tW v e) h
end Go.Eng
end

section
namespace Go.Eng
variable [a6]
open Go.RowKit (Below)

theorem yz {E E':Env} {w w':World} {mem bM l:List ba} (hs:cU E w { tmps := #[],defers:=[] } { fr:=[],mem:=mem++l }) (afK:gE (E.cut mem.length) w E' w') (LG:cU E' w' { tmps := #[],defers:=[] } { fr:=[],mem:=bM })
  (hlen:bM.length=mem.length) (hb:bM.all (aI mem.length)=true):∃ E2,gE E w E2 w'∧cU E2 w' { tmps := #[],defers:=[] } { fr:=[],mem:=bM++l }∧(E'.cut mem.length).le E2:=by
 have sA:=LG.cut (n:=mem.length) rfl (by rw [bE (by dsimp only; omega)]; exact hb);rw [bE (by dsimp only; omega)] at sA;dsimp only at sA;have Ef:∀ k,mem.length≤k→∀ v,(E.cut mem.length).cj k v=none:=fun k hk v=>if_neg (by omega);have gD:gE (E.cut mem.length) w (E'.cut mem.length) w':=afK.cut Ef;have n8:∀ k v t,(E.cut mem.length).cj k v=some t→k<mem.length∧E.cj k v=some t:=fun k v t h=>by (rcases bW k mem.length with hk | hk);(·exact⟨hk,(if_pos hk).symm.trans h⟩);rw [Ef k hk] at h; cases h
 have ZN:∀ k v t,(E'.cut mem.length).cj k v=some t→k<mem.length:=fun k v t h=>by (rcases bW k mem.length with hk | hk);(·exact hk);have h0:(E'.cut mem.length).cj k v=none:=if_neg (by omega);rw [h0] at h; cases h
 generalize akK:E'.cut mem.length=Ds at sA gD ZN;have nP:∀ k v,k<mem.length→(⟨Ds.F,fun k v=>if k<mem.length then Ds.cj k v else E.cj k v,Ds.gl⟩:Env).cj k v=Ds.cj k v:=fun k v hk=>if_pos hk;have tw:∀ k v,mem.length≤k→(⟨Ds.F,fun k v=>if k<mem.length then Ds.cj k v else E.cj k v,Ds.gl⟩:Env).cj k v=E.cj k v:=fun k v hk=>if_neg (by omega);generalize ZL:(⟨Ds.F,fun k v=>if k<mem.length then Ds.cj k v else E.cj k v,Ds.gl⟩:Env)=E2 at nP tw;have jY:E2.F=Ds.F:=by rw [← ZL]
 have n9:∀ k v t,k<mem.length→E.cj k v=some t→(E.cut mem.length).cj k v=some t:=fun k v t hk h=>(if_pos hk).trans h;have hle:E.le E2:=⟨fun ad y hy=>by rw [jY]; exact gD.le.F _ _ hy,fun k v t hk=>by (rcases bW k mem.length with fe | fe);(·rw [nP k v fe]; exact gD.le.cj _ _ _ (n9 _ _ _ fe hk));rw [tw k v fe]; exact hk⟩;have ZO:Ds.le E2:=⟨fun ad y hy=>by rw [jY]; exact hy,fun k v t hk=>by rw [nP k v (ZN _ _ _ hk)]; exact hk⟩;have yg:∀ k v g e c,mem.length≤k→E.cj k v=some (g,e,c)→∀ k0 v0 e0 c0,(E.cut mem.length).cj k0 v0≠some (g,e0,c0):=fun k v g e c hk hb k0 v0 e0 c0 h=>by obtain⟨h1,h2⟩:=n8 _ _ _ h;have:=hs.apart _ _ _ _ _ _ _ _ _ h2 hb;omega
 have get:∀ {k:Nat} {B:ba},(bM++l)[k]?=some B→(k<mem.length∧bM[k]?=some B)∨(mem.length≤k∧(mem++l)[k]?=some B):=fun {k B} h=>by (rcases bW k mem.length with hk | hk);(·rw [bm (by omega)] at h; exact .inl ⟨hk,h⟩);rw [aW (by omega),hlen] at h;exact .inr ⟨hk,by rw [aW hk]; exact h⟩
 refine⟨E2,⟨hle,fun k v g e c hk=>?_,fun ad y hy=>?_,gD.os,gD.tape,gD.output,gD.size,fun b hb dK=>gD.heap b hb fun k v e c h=>dK _ _ _ _ (n8 _ _ _ h).2⟩,⟨fun ad y hy=>sA.F _ _ (by rw [← jY]; exact hy),fun k v g e c hk=>?_,fun k B hk=>?_,fun k hk v=>?_,fun k B hk v hv=>?_,fun k k' v v' g e1 c1 e2 c2 h5 h6=>?_,.nil _⟩,ZO⟩;·(rcases bW k mem.length with fe | fe);(·rw [nP k v fe] at hk;(rcases gD.cj _ _ _ _ _ hk with ⟨k0,v0,e0,c0,h⟩ | h);(·exact .inl ⟨_,_,_,_,(n8 _ _ _ h).2⟩);exact .inr h);rw [tw k v fe] at hk; exact .inl ⟨_,_,_,_,hk⟩
 ·rw [jY] at hy;(rcases gD.F _ _ hy with h | h | ⟨k0,v0,e0,c0,h⟩);(·exact .inl h);(·exact .inr (.inl h));exact .inr (.inr ⟨_,_,_,_,(n8 _ _ _ h).2⟩)
 ·(rcases bW k mem.length with fe | fe);(·rw [nP k v fe] at hk; exact sA.lt _ _ _ _ _ hk);rw [tw k v fe] at hk; exact pI (hs.lt _ _ _ _ _ hk) gD.size
 ·(rcases get hk with ⟨fe,hB⟩ | ⟨fe,hB⟩);(·exact (sA.mem k B hB).mono ZO (fun v hv=>by rw [nP k v fe]; exact hv) (fun _ _ _ _=>rfl) fun g e c o _ hn=>by rw [jY]; exact hn);refine (hs.mem k B hB).mono hle (fun v hv=>by rw [tw k v fe]; exact hv) (fun g e c hb=>gD.heap g (hs.lt _ _ _ _ _ hb) fun k0 v0 e0 c0 h=>yg _ _ _ _ _ fe hb _ _ _ _ h) fun g e c o hb hn=>?_;rw [jY];cases hy:Ds.F ⟨g,o,none⟩ with | none=>rfl | some y =>(rcases gD.F _ _ hy with h | h | ⟨k0,v0,e0,c0,h⟩);(·have h':E.F ⟨g,o,none⟩=some y:=h;rw [hn] at h'; cases h');(·have:=hs.lt _ _ _ _ _ hb; simp at h; omega);exact absurd h (yg _ _ _ _ _ fe hb _ _ _ _)
 ·dsimp only at hk;simp only [ch] at hk;rw [tw k v (by omega)]; exact hs.top k (by simp; omega) v
 ·(rcases get hk with ⟨fe,hB⟩ | ⟨fe,hB⟩);(·rw [nP k v fe]; exact sA.dw k B hB v hv);rw [tw k v fe]; exact hs.dw k B hB v hv
 have mixed:∀ k k' v v' g e1 c1 e2 c2,k<mem.length→mem.length≤k'→Ds.cj k v=some (g,e1,c1)→E.cj k' v'=some (g,e2,c2)→k=k':=fun k k' v v' g e1 c1 e2 c2 hk jA h h'=>by (rcases gD.cj _ _ _ _ _ h with ⟨k0,v0,e0,c0,h0⟩ | h0);(·exact absurd h0 (yg _ _ _ _ _ jA h' _ _ _ _));have:=hs.lt _ _ _ _ _ h'; omega
 rcases bW k mem.length with ji | ji <;> rcases bW k' mem.length with l9 | l9
 ·rw [nP k _ ji] at h5; rw [nP k' _ l9] at h6;exact sA.apart _ _ _ _ _ _ _ _ _ h5 h6
 ·rw [nP k _ ji] at h5; rw [tw k' _ l9] at h6;exact mixed _ _ _ _ _ _ _ _ _ ji l9 h5 h6
 ·rw [tw k _ ji] at h5; rw [nP k' _ l9] at h6;exact (mixed _ _ _ _ _ _ _ _ _ l9 ji h6 h5).symm
 rw [tw k _ ji] at h5; rw [tw k' _ l9] at h6;exact hs.apart _ _ _ _ _ _ _ _ _ h5 h6

theorem Eg {E:Env} {w:World} {mem l:List ba} (hs:cU E w { tmps := #[],defers:=[] } { fr:=[],mem:=mem++l }) (hb:mem.all (aI mem.length)=true):cU (E.cut mem.length) w { tmps := #[],defers:=[] } { fr:=[],mem:=mem }:=by have h:=hs.cut (n:=mem.length) rfl (by rw [pJ]; exact hb);rwa [pJ] at h
theorem cz.below {E:Env} {n:Nat} {vs:List V} {xs:List Value} (h:cz E vs xs) (hb:vs.all (aH n)=true):cz (E.cut n) vs xs :=
 ⟨h.1,fun i v x hv hx=>iU (h.2 i v x hv hx) (aY.1 hb v (ay hv))⟩

theorem bk.frame {P:Program} {f:FuncId} {vs:List V} {r:V} {mem bM:List ba} (h:bk P f vs mem r bM) (hv:vs.all (aH mem.length)=true) (hm:mem.all (aI mem.length)=true) (hr:aH mem.length r=true) (hlen:bM.length=mem.length) (VU:bM.all (aI mem.length)=true) (l:List ba) :
  bk P f vs (mem++l) r (bM++l):=by refine⟨h.1,fun E w xs hs hx=>?_⟩;refine (h.2 _ w xs (Eg hs hm) (hx.below hv)).mono ?_;rintro en w' ⟨E',x,rfl,gD,oY,mm⟩;obtain⟨E2,h1,h2,h3⟩:=yz hs gD oY hlen VU;exact⟨E2,x,rfl,h1,h2,(iU mm hr).mono h3⟩
theorem Ge.frame {P:Program} {k:Nat} {vs:List V} {mem bM:List ba} {b:Bool} (h:Ge P k vs mem b bM) (hk:k<mem.length) (hv:vs.all (aH mem.length)=true) (hm:mem.all (aI mem.length)=true) (hlen:bM.length=mem.length) (VU:bM.all (aI mem.length)=true) (l:List ba) :
  Ge P k vs (mem++l) b (bM++l):=by intro E w xs lp e c hs hx hb;obtain⟨fn,tmps,assign,body,h1,h2⟩:=h _ w xs lp e c (Eg hs hm) (hx.below hv) ((if_pos hk).trans hb);refine⟨fn,tmps,assign,body,h1,h2.mono ?_⟩;rintro en w' ⟨E',rfl,gD,oY⟩;obtain⟨E2,h3,h4,-⟩:=yz hs gD oY hlen VU;exact⟨E2,rfl,h3,h4⟩
mutual
theorem nW {n m:Nat} (h:n≤m):∀ {v:V},aH n v=true→aH m v=true
 | .ms _ _ _ _,hv=>by simp [aH] at hv ⊢; omega
 | .ptr _ _,hv=>by simp [aH] at hv ⊢; omega
 | .jz _,hv=>by simp [aH] at hv ⊢; omega
 | .mp _,hv=>by simp [aH] at hv ⊢; omega
 | .gC _ _ _ _,hv=>by simp [aH] at hv ⊢; omega
 | .undef,_=>rfl
 | .sc _,_=>rfl
 | .slice _,_=>rfl
 | .eL _,_=>rfl
 | .gn,_=>rfl
 | .full _,_=>rfl
 | .agg cs,hv=>by simp only [aH] at hv ⊢; exact mu h hv
 | .eC cs,hv=>by simp only [aH] at hv ⊢; exact mu h hv
 | .cC f a b,hv=>by simp only [aH,aN] at hv ⊢; exact⟨mu h hv.1,mu h hv.2⟩
theorem mu {n m:Nat} (h:n≤m):∀ {l:List V},aO n l=true→aO m l=true
 | [],_=>rfl
 | c :: r,hv=>by simp only [aO,aN] at hv ⊢; exact⟨nW h hv.1,mu h hv.2⟩
end
theorem wM {n m:Nat} (h:n≤m) {B:ba} (hv:aI n B=true):aI m B=true:=by cases B with | box cs=>simp only [aI,aY] at hv ⊢; exact fun x hx=>nW h (hv x hx) | loop a b fr c d e=>simp only [aI,aY] at hv ⊢; exact fun x hx=>nW h (hv x hx) | map dq c=>simp only [aI,aY] at hv ⊢; exact fun x hx=>nW h (hv x hx) | jc m s se l=>simp only [aI,decide_eq_true_eq] at hv ⊢; omega | _=>rfl
theorem pe {n m:Nat} (h:n≤m) {l:List ba} (hv:l.all (aI n)=true):l.all (aI m)=true:=aY.2 fun x hx=>wM h (aY.1 hv x hx)
theorem ZP:(false==true)=false:=rfl
theorem ZQ:(true==false)=false:=rfl
theorem Rm (mem:List ba) (ts:Array TypeId) (P:Program) (r:List V):vh mem ts P [.slice r]=none:=rfl
theorem Rn (mem:List ba) (ts:Array TypeId) (P:Program) (b v s l:Nat):vh mem ts P [.ms b v s l]=none:=rfl
theorem Ro (mem:List ba) (ts:Array TypeId) (P:Program) (x:Value):vh mem ts P [.sc x]=none:=rfl
theorem dS {P:Program} {tt:Table} {all:Array Oper} {base:Nat}:∀ (k:Nat) {l:List Oper} {ps:List Pl} {st:St} {K:St→Prop},k≤l.length→k≤ps.length →
  (∀ K1:St→Prop,(∀ s,runM P tt all base (l.drop k) (ps.drop k) s K→K1 s)→runM P tt all base (l.take k) (ps.take k) st K1)→runM P tt all base l ps st K
 | 0,l,ps,st,K,_,_,h=>by
  have:=h (fun s=>runM P tt all base l ps s K) fun s hs=>hs
  simpa [runM] using this
 | k+1,[],ps,st,K,hl,_,h=>by simp at hl
 | k+1,o :: r,[],st,K,_,hp,h=>by simp at hp
 | k+1,o :: r,p :: ps,st,K,hl,hp,h=>by
  simp only [runM]
  have h1:=h (fun s=>runM P tt all base (r.drop k) (ps.drop k) s K) fun s hs=>hs
  simp only [U0,runM] at h1
  exact pc (fun s hs=>dS k (by simpa using hl) (by simpa using hp) fun K1 kT=>A7 hs kT) h1
where
 A7 {P:Program} {tt:Table} {all:Array Oper} {base:Nat}:∀ {l:List Oper} {ps:List Pl} {st:St} {K K':St→Prop},runM P tt all base l ps st K→(∀ s,K s→K' s)→runM P tt all base l ps st K'
  | [],_,_,_,_,h,hk=>hk _ h
  | o :: r,[],_,_,_,h,_=>by simp [runM] at h
  | o :: r,p :: ps,st,K,K',h,hk=>by
   simp only [runM] at h ⊢
   exact pc (fun s hs=>A7 hs hk) h
end Go.Eng
end

section
namespace Go.Eng
variable [a6]
theorem nu {α:Type} {l:List α} {t:Nat} {x:α} (h:l[t]?=some x):l.set t x=l:=by
 apply di;intro i;rw [bw];split;·rename_i hi; subst hi;rw [if_pos (ax.1 h).1,h]
 rfl
section
variable {P:Program} {ρ:Option Nat} {n0:Nat} {Q:Exit→St→Prop} {c:Code} {st:St}
theorem cU.vz {E:Env} {w:World} {a:Act} (hs:cU E w a st) {k t:Nat} {cs:List V} (hk:st.mem[k]?=some (.box cs)) (hp:cs.all iA=true) (h0:st.fr[t]?=some (.ptr k 0)) :
  ∃ E',cU E' w a { fr:=st.fr.set t (.eL cs),mem:=st.mem.set k .dead }∧gE E w E' w:=by
 obtain⟨g,T,xs,hb,hh,hr,hf⟩:=hs.mem k _ hk;have hF:∀ ad x,E.F ad=some x→(if ad.block=g then w.cell? ad else E.F ad)=some x:=fun ad x h=>by split;(·exact hs.F ad x h);exact h
 obtain⟨E',hE⟩:∃ E':Env,E' = { F:=fun ad=>if ad.block=g then w.cell? ad else E.F ad,cj:=E.cj,gl:=E.gl.mono hF }:=⟨_,rfl⟩;have eF:∀ ad,E'.F ad=if ad.block=g then w.cell? ad else E.F ad:=fun ad=>by rw [hE]
 have eb:E'.cj=E.cj:=by rw [hE]
 have hle:E.le E':=⟨fun ad x h=>by rw [eF]; exact hF ad x h,fun _ _ _ h=>by rw [eb]; exact h⟩;obtain⟨x,hx,ZR⟩:=hs.fr.get h0;have hxv:x = .pointer (some ⟨g,0,none⟩):=by cases ZR with | ptr _ _ _ g' e c j9=>rw [hb] at j9; cases j9; rfl
 subst hxv;have hpu:=cz.pure hr hp;have mm:cK E' (.eL cs) (.pointer (some ⟨g,0,none⟩)):=by (have h1:∀ j,(Addr.mk g 0 none).add j=⟨g,j,none⟩:=fun j=>by unfold Addr.add; by_cases hj:j=0 <;> simp [hj]);refine .eL _ _ _ (fun j=>(xs[j]?).getD undef) (fun j c hj=>?_) fun j c hj=>?_;(·obtain⟨y,hy,-⟩:=hpu.get hj;rw [h1,eF,if_pos rfl,nM hh];simp only [eX] at hy;rw [hy]; rfl);obtain⟨y,hy,LO⟩:=hpu.get hj;simp only [eX] at hy;rw [hy];exact LO.mono (Env.kp hle)
 have xv:cz E' (st.fr.set t (.eL cs)) a.tmps.toList:=by have:=cz.set (n:=t) (hs.fr.mono hle) mm;rwa [nu hx] at this
 refine⟨E',⟨fun ad y hy=>?_,fun k' v g' e c h=>hs.lt k' v g' e c (by rwa [eb] at h),fun k' B hB=>?_,fun k' jA v=>?_,fun k' B hB v hv=>?_,fun k1 k2 v1 v2 g' e c e' c' q1 q2=>?_,xv⟩,?_⟩;·rw [eF] at hy;split at hy;(·exact hy);exact hs.F ad y hy
 ·rw [bw] at hB;split at hB;(·split at hB;(·cases hB; exact trivial);cases hB);rename_i dK;refine (hs.mem k' B hB).mono hle (fun v h=>by rw [eb]; exact h) (fun _ _ _ _=>rfl) fun g' e c o q1 q2=>?_;rw [eF];split;(·rename_i hg;have hg:g'=g:=hg;subst hg;exact absurd (hs.apart _ _ _ _ _ _ _ _ _ hb q1) dK);exact q2
 ·rw [eb]; exact hs.top k' (by simpa using jA) v
 ·rw [eb];rw [bw] at hB;split at hB;(·rename_i hke;split at hB;(·cases hB;subst hke;exact hs.dw k _ hk v hv);cases hB);exact hs.dw k' B hB v hv
 ·rw [eb] at q1 q2; exact hs.apart _ _ _ _ _ _ _ _ _ q1 q2
 refine⟨hle,fun k' v g' e c h=>.inl ⟨k',v,e,c,by rwa [eb] at h⟩,fun ad y hy=>?_,rfl,rfl,rfl,aw _,fun _ _ _=>rfl⟩;rw [eF] at hy;split at hy;·rename_i hg; exact .inr (.inr ⟨k,0,0,0,by rw [hg]; exact hb⟩)
 exact .inl hy
end
theorem cU.VV {E:Env} {w:World} {m:List ba} {k:Nat} {cs:List V} {x:Value} (hs:cU E w { tmps := #[],defers:=[] } { fr:=[],mem:=m }) (hr:cK E (.ptr k 0) x) (hk:m[k]?=some (.box cs)) (hp:cs.all iA=true) :
  ∃ E',cU E' w { tmps := #[],defers:=[] } { fr:=[],mem:=m.set k .dead }∧gE E w E' w∧cK E' (.eL cs) x:=by have h1:cU E w { tmps := #[x],defers:=[] } { fr:=[.ptr k 0],mem:=m }:=⟨hs.F,hs.lt,hs.mem,hs.top,hs.dw,hs.apart,.cons hr (.nil _)⟩;obtain⟨E',h2,h3⟩:=h1.vz (t:=0) hk hp rfl;obtain⟨y,ys,hy,MD,-⟩:=h2.fr.of_cons;cases hy;exact⟨E',⟨h2.F,h2.lt,h2.mem,h2.top,h2.dw,h2.apart,.nil _⟩,h3,MD⟩
end Go.Eng
end
