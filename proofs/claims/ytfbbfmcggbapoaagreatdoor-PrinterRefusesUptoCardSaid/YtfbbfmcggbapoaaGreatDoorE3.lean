import Derived.Test.YtfbbfmcggbapoaaGreatDoorE2
import Derived.RangeFuncRecord
import Derived.OrdersIn
open Array renaming any_eq_true'→asi,foldl_toList→arN,getD_eq_getD_getElem?→kU,getElem?_eq_getElem→cd,getElem?_eq_none→arn,getElem?_eq_some_iff→dO,getElem?_replicate→asx,getElem?_setIfInBounds_ne→DY,getElem?_toList→dQ,mapM_eq_mapM_toList→ar0,toArray_toList→cE,toList_append→zp
open Bool renaming and_eq_true→aL,false_eq_true→bF,or_eq_true→gv
open Go.RowKit.Below renaming heap_alloc→ed
open List renaming all_eq_true→aZ,append_nil→ah,cons_append→ay,ext_getElem?→dM,flatMap_cons→ae,flatMap_nil→ag,foldl_cons→ew,getElem?_append→oV,getElem?_append_left→bA,getElem?_append_right→a8,getElem?_cons_zero→aJ,getElem?_eq_none→ec,getElem?_eq_none_iff→asy,getElem?_eq_some_iff→az,getElem?_map→ak,getElem?_replicate→arU,getElem?_set→bX,getElem?_set_ne→cP,getElem?_set_self→eX,getElem?_take→kz,getElem?_take_of_lt→jI,length_append→ab,length_cons→af,length_eq_zero_iff→cj,length_nil→ai,length_set→arq,length_take→cQ,mapM_cons→arC,map_congr_left→pT,map_cons→bT,mem_append→ib,mem_append_left→jq,mem_append_right→kS,mem_cons→cI,mem_cons_of_mem→ct,mem_cons_self→cA,mem_map→eI,mem_of_getElem?→aE,mem_range→al4,nodup_cons→ar6,pairwise_append→asq,range'_succ→aro,range_eq_range'→arp,set_comm→ant,tail_drop→arD,take_left→rq,take_of_length_le→bR,take_succ_cons→gf
open List.cons renaming injEq→ar5
open Nat renaming add_assoc→mr,add_comm→Te,add_sub_cancel_left→ee,eq_zero_or_pos→ark,le_refl→aB,le_trans→fX,lt_of_lt_of_le→rm,lt_or_ge→bz,zero_add→cr
open Option renaming bind_some→lW,map_eq_some_iff→bc,map_some→cx
open Option.some renaming injEq→aF
open Prod.mk renaming injEq→dy
set_option linter.all false
section
namespace Go.Eng
variable [bB]
open Go.RowKit (Below)
theorem jr {P:Program} {s:Sem Value} {w w':World} {x:Value} (h:s.run P w = .ok x w'):(do pure (Next.value (← s)):Sem Next).run P w = .ok (.value x) w':=by simp [h]
def Gv (E:Env) (w:World) (a:Act) (dst:Option Tmp) (Q:St→Prop) (v:Value) (w':World):Prop:=∃ E' st',de E' w' (a.put dst v) st'∧ic E w E' w'∧Q st'
def WF (ρ:Option Nat):Fence := { fn:=fun _=>True,depth:=none,alive:=false,round:=ρ }
theorem Ax {ρ:Option Nat} {n:Nat} {P:Program} {f:FuncId} {xs:Array Value} {w:World} {R:Ending→World→Prop} (h:Calls P f xs w R):CallsIn (WF ρ) n P f xs w R:=by have h1:CallsIn Fence.wide n P f xs w R:=callsIn_wide.2 h;cases ρ with|none=>exact h1|some l=>exact h1.inRound l
theorem Gw {n:Nat} {P:Program} {f:FuncId} {xs:Array Value} {w:World} {R:Ending→World→Prop} (h:CallsIn (WF none) n P f xs w R):Calls P f xs w R:=callsIn_wide.1 h
theorem I8 {ρ:Option Nat} {n:Nat} {P:Program} {l:Nat} {f:FuncId} {tmps:Array Value} {assign body:Code} {w:World} {R:Ending→World→Prop} (h:RoundIn Fence.wide 0 P l f tmps assign body w R):RoundIn (WF ρ) n P l f tmps assign body w R:=by refine⟨trivial,fun c cs _=>?_⟩;exact h.2 c cs (room_wide _)
section
variable {P:Program} {ρ:Option Nat} {n:Nat} {o:Oper} {a:Act} {w w':World} {next:Act→World→Prop} {Q:Exit→Act→World→Prop} (oO:∀ c,o.op ≠ .defer c)
include oO
theorem dr {v:Value} (h:(execOp a.eval o).run P w = .ok (.value v) w') (hn:next (a.put o.dst v) w'):o.wpIn (WF ρ) n P a w next Q:=by refine⟨fun _ _=>trivial,?_⟩;rw [Oper.semAt_eq _ _ _ oO,h];exact hn
theorem oo (h:(execOp a.eval o).run P w = .ok .skip w') (hn:next (a.put o.dst undef) w'):o.wpIn (WF ρ) n P a w next Q:=by refine⟨fun _ _=>trivial,?_⟩;rw [Oper.semAt_eq _ _ _ oO,h];exact hn
theorem yp {f:FuncId} {xs:Array Value} {R:Ending→World→Prop} (h:(execOp a.eval o).run P w = .ok (.enter f xs) w) (hc:Calls P f xs w R) (hR:∀ e w',R e w'→∃ v,e = .returned v∧next (a.put o.dst v) w') :
  o.wpIn (WF ρ) n P a w next Q:=by refine⟨fun _ _=>trivial,?_⟩;rw [Oper.semAt_eq _ _ _ oO,h];refine⟨fun h=>by simp [WF] at h,(Ax hc).mono fun e w' he=>?_⟩;obtain⟨v,rfl,hn⟩:=hR e w' he;exact hn
theorem yq {l:Nat} {f:FuncId} {tmps:Array Value} {assign body:Code} {R:Ending→World→Prop} (h:(execOp a.eval o).run P w = .ok (.round l f tmps assign body) w) (hc:RoundIn Fence.wide 0 P l f tmps assign body w R)
  (hR:∀ e w',R e w'→∃ v,e = .returned v∧next (a.put o.dst v) w'):o.wpIn (WF ρ) n P a w next Q:=by refine⟨fun _ _=>trivial,?_⟩;rw [Oper.semAt_eq _ _ _ oO,h];refine⟨fun h=>by simp [WF] at h,(I8 hc).mono fun e w' he=>?_⟩;obtain⟨v,rfl,hn⟩:=hR e w' he;exact hn
end
theorem yr {P:Program} {E:Env} {w:World} {a:Act} {st:St} (hs:de E w a st) {f:FuncId} {vs:List V} {dst:Option Tmp} {Q:St→Prop} (h:ym P f vs st dst Q) {xs:Array Value} (hx:cU E vs xs.toList) :
  ((callFunc f xs).run P w = .ok (.enter f xs) w∧Calls P f xs w fun e w'=>∃ v,e = .returned v∧Gv E w a dst Q v w')∨∃ v,(callFunc f xs).run P w = .ok (.value v) w∧Gv E w a dst Q v w:=by
 rcases h with ⟨vs',r,hp,hf,hQ⟩|⟨r,bS,hf,hQ⟩|⟨R,hf,hQ⟩|⟨r,hf,hQ⟩
 ·refine .inl ⟨hf.1 xs w,(MA hs hx hp hf).mono ?_⟩;rintro e w' ⟨E',x,rfl,gE,pO,hr⟩;exact⟨x,rfl,E',_,pO.put dst hr,gE,hQ⟩
 ·refine .inl ⟨hf.1 xs w,(hf.2 E w xs hs.bare hx).mono ?_⟩;rintro e w' ⟨E',x,rfl,gE,pO,hr⟩;exact⟨x,rfl,E',_,(hs.Gs pO gE.le).put dst hr,gE,hQ⟩
 ·refine .inl ⟨hf.1 xs w,(hf.2 E w xs hs.bare hx).mono ?_⟩;rintro e w' ⟨E',x,r,bS,rfl,hR,gE,pO,hr⟩;exact⟨x,rfl,E',_,(hs.Gs pO gE.le).put dst hr,gE,hQ _ _ hR⟩
 obtain⟨x,h1,h2⟩:=hf E w xs hs.F hx;exact .inr ⟨x,h1,E,_,hs.put dst h2,ic.refl E w,hQ⟩
theorem gN {P:Program} {tt:Table} (ht:TT P tt) {E:Env} {w:World} {a:Act} {st:St} (hs:de E w a st) {key:Nat} (hk:iZ st.mem key) {o:Oper} {Q:St→Prop} (h:dn P tt key o st Q)
  {ρ:Option Nat} {n:Nat} {next:Act→World→Prop} {Q':Exit→Act→World→Prop} (hn:∀ v w',Gv E w a o.dst Q v w'→next (a.put o.dst v) w'):o.wpIn (WF ρ) n P a w next Q':=by
 obtain⟨dst,op,type,pos,after,guard⟩:=o;have oO:∀ c,op ≠ .defer c:=by rintro c rfl;simp [dn,iY] at h
 unfold dn at h;dsimp only at h;split at h;·rename_i T;split at h;(·rename_i i hi;obtain⟨info,ud,-,-,z,hz,C0⟩:=ht.size T i hi;(have hr:cU E (i.zero.map V.sc) z.cells.toList:=by rw [C0];exact⟨by simp,fun k c x hc hx=>by simp only [ak,hx,cx,aF] at hc;subst hc;exact .sc _ _⟩);obtain⟨E',h1,h2,h3⟩:=hs.OM hk hr T;refine dr oO (v:=.pointer (some ⟨w.heap.size,0,none⟩)) (w':=w.alloc (.cells z.cells T (0,0))) ?_ (hn _ _ ⟨E',_,h1.put dst h3,h2,h⟩);(have Ye:(zeroValue T).run P w = .ok z w:=by simp [zeroValue,fp ud,hz]);simp [execOp,Instr.alloc,Ye,newVar,newRow]);exact h.elim
 ·rename_i T x;split at h;(·rename_i cs mO;obtain⟨hr,-⟩:=qI (hs.eval x) mO;obtain⟨E',h1,h2,h3⟩:=hs.OM hk hr T;refine dr oO (v:=.pointer (some ⟨w.heap.size,0,none⟩)) (w':=w.alloc (.cells (a.eval x).cells T (0,0))) ?_ (hn _ _ ⟨E',_,h1.put dst h3,h2,h⟩);simp [execOp,Instr.box,newVar,newRow]);exact h.elim
 ·split at h;(·rename_i v hv;obtain⟨x,h1,h2⟩:=vK ht hs hv;exact dr oO (dz h1) (hn _ _ ⟨E,_,hs.put dst h2,ic.refl E w,h⟩));exact h.elim
 ·rename_i T len parts;split at h;(·rename_i size rs hl;obtain⟨Z,e,h1,h2,h3,h4⟩:=Ej ht (fun p _=>hs.eval p.2) hl;obtain⟨E',h5,h6,h7⟩:=hs.vt hk (xs:=Z) (rs:=rs) (c:=len) e h2 (by omega) h4;rw [h3] at h7;exact dr oO (jr h1) (hn _ _ ⟨E',_,h5.put dst h7,h6,h⟩));split at h;(·rename_i size rs hl;unfold TU at hl;split at hl;(·rename_i vs' MC;obtain⟨E1,qC,TV,Pk⟩:=hs.freeze MC;(have Tm:∀ (l:List (Nat×Operand)) (us Pf:List V),us=l.map (fun p=>st.eval p.2)→iE st.mem us=some Pf→cU E1 Pf (l.map fun p=>a.eval p.2)→∀ p∈l,cY E1 (evP st.mem st.eval p.2) (a.eval p.2):=by intro l;induction l with|nil=>intro us Pf _ _ _ p hp;simp at hp|cons q r ih =>intro us Pf hu hp hr p Yh;subst hu;simp only [bT,iE] at hp;split at hp;(·rename_i c' hc;split at hp;(·rename_i r' FW;cases hp;obtain⟨y,ys,hy,g1,g2⟩:=hr.of_cons;simp only [bT,ar5] at hy;obtain⟨rfl,rfl⟩:=hy;(rcases cI.1 Yh with rfl|Yh);(·unfold evP;rw [hc];exact g1);exact ih _ _ rfl FW g2 p Yh);cases hp);cases hp);(have n7:cU E (parts.toList.map fun p=>st.eval p.2) (parts.toList.map fun p=>a.eval p.2):=by refine⟨by simp,fun i v x hv hx=>?_⟩;simp only [ak,bc] at hv hx;obtain⟨q,hq,rfl⟩:=hv;obtain⟨q',Tl,rfl⟩:=hx;rw [hq] at Tl;cases Tl;exact hs.eval q.2);have aiA:=Tm parts.toList _ _ rfl MC (Pk _ n7);(have iw:iZ ({ st with mem:=fw st.mem (Et st.eval parts.toList) }:St).mem key:=by unfold iZ;dsimp only;rw [uF,uf];(rcases hk with hk|hk);(·rw [hk];exact .inl rfl);exact .inr hk);obtain⟨Z,e,h1,h2,h3,h4⟩:=Ej ht (w:=w) aiA hl;obtain⟨E',h5,h6,h7⟩:=qC.vt iw (xs:=Z) (rs:=rs) (c:=len) e h2 (by omega) h4;rw [h3] at h7;exact dr oO (jr h1) (hn _ _ ⟨E',_,h5.put dst h7,TV.trans h6,h⟩));cases hl);exact h.elim
 ·rename_i T p x;split at h;(·rename_i bS hm;obtain⟨w',h1,h2,h3⟩:=vu ht hs (hs.eval _) (hs.eval _) hm;refine oo oO (w':=w') ?_ (hn _ _ ⟨E,_,h2.put dst (.sc _ _),h3,h⟩);simp [execOp,h1]);split at h;(·rename_i bS hm;unfold Eu at hm;split at hm;(·rename_i v' Ab;obtain⟨E1,qC,TV,Pk⟩:=hs.freeze (vs:=[st.eval x]) (vs':=[v']) (by simp [iE,Ab]);simp only [ae,ag,ah] at qC;obtain⟨z,r,hz,h4,-⟩:=(Pk [a.eval x] (.cons (hs.eval x) (.nil _))).of_cons;simp only [ar5] at hz;obtain⟨rfl,-⟩:=hz;obtain⟨w',h1,h2,h3⟩:=vu ht qC ((hs.eval p).mono TV.le) h4 hm;refine oo oO (w':=w') ?_ (hn _ _ ⟨E1,_,h2.put dst (.sc _ _),TV.trans h3,h⟩);simp [execOp,h1]);cases hm);exact h.elim
 ·rename_i xs ts;split at h;(·rename_i s x TW;split at h;(·rename_i size rY rows ha;have he:=hs.pY xs;rw [TW] at he;obtain⟨y,r1,hy,Cr,he⟩:=he.of_cons;obtain⟨z,r2,hz,Gj,he⟩:=he.of_cons;have:=he.of_nil;subst this;subst hz;(have n7:xs.map a.eval = #[y,z]:=by rw [← cE (xs:=xs.map a.eval),hy]);obtain⟨v,w',E',h1,h2,h3,h4⟩:=pD ht hs (ty:=type) hk Cr Gj ha;refine dr oO (v:=v) (w':=w') ?_ (hn _ _ ⟨E',_,h2.put dst h4,h3,h⟩);simp only [execOp,resolve,Sem.run_bind,Sem.run_pure,Result.andThen_ok,invoke,builtin,n7,h1]);unfold yn at h;split at h;(·rename_i size b v l rs news ha;have he:=hs.pY xs;rw [TW] at he;obtain⟨y,r1,hy,Cr,he⟩:=he.of_cons;obtain⟨z,r2,hz,Gj,he⟩:=he.of_cons;have:=he.of_nil;subst this;subst hz;(have n7:xs.map a.eval = #[y,z]:=by rw [← cE (xs:=xs.map a.eval),hy]);obtain⟨u,w',E',o',mZ,h1,TX,Oq,h2,h3,h4⟩:=Cz ht hs (ty:=type) Cr Gj ha;refine dr oO (v:=u) (w':=w') ?_ (hn _ _ ⟨E',_,h2.put dst h4,h3,h o' mZ TX Oq⟩);simp only [execOp,resolve,Sem.run_bind,Sem.run_pure,Result.andThen_ok,invoke,builtin,n7,h1]);exact h.elim);exact h.elim
 ·rename_i f xs ts;split at h;(·rename_i k hfv;have hf:=hs.eval f;rw [hfv] at hf;generalize hfx:a.eval f=fx at hf;cases hf with|j9 _ _ l e c hb =>(rcases h with ⟨b,bS,hy,hQ⟩|⟨R,hy,hQ⟩);rotate_left;(·obtain⟨fn,tmps,assign,body,h1,h2⟩:=hy E w (xs.map a.eval) l e c hs.bare (hs.pY xs) hb;refine yq oO (l:=l) (f:=fn) (tmps:=tmps) (assign:=assign) (body:=body) ?_ h2 fun e w' ⟨E',b,bS,he,hR,gE,pO⟩=>⟨_,he,hn _ _ ⟨E',_,(hs.Gs pO gE.le).put dst (.sc _ _),gE,hQ _ _ hR⟩⟩;rw [← h1];simp [execOp,resolve,hfx,Deferred.ofValue,invoke]);obtain⟨fn,tmps,assign,body,h1,h2⟩:=hy E w (xs.map a.eval) l e c hs.bare (hs.pY xs) hb;refine yq oO (l:=l) (f:=fn) (tmps:=tmps) (assign:=assign) (body:=body) ?_ h2 fun e w' ⟨E',he,gE,pO⟩=>⟨_,he,hn _ _ ⟨E',_,(hs.Gs pO gE.le).put dst (.sc _ _),gE,hQ⟩⟩;rw [← h1];simp [execOp,resolve,hfx,Deferred.ofValue,invoke]);rename_i hfv;split at h;(·rename_i g vs hg;obtain⟨ys,h1,h2⟩:=sd (P:=P) (w:=w) (hs.eval f) (hs.pY xs) hg;(rcases yr hs h h1 with ⟨h3,h4⟩|⟨v,h3,h4⟩);(·refine yp oO (f:=g) (xs:=ys) ?_ h4 fun e w' ⟨v,hv,ha⟩=>⟨v,hv,hn _ _ ha⟩;rw [← h3,← h2];simp only [execOp,resolve]);refine dr oO (v:=v) ?_ (hn _ _ h4);rw [← h3,← h2];simp only [execOp,resolve]);exact h.elim
 ·split at h;(·rename_i size rs cap hm;obtain⟨E',w',h1,h2,h3,h4⟩:=Gm (P:=P) ht hs hk (hs.eval _) (hs.eval _) hm;exact dr oO (jr h1) (hn _ _ ⟨E',_,h2.put dst h4,h3,h⟩));exact h.elim
 ·obtain⟨E',w',h1,h2,h3,h4⟩:=Cx (P:=P) hs hk _;exact dr oO (jr h1) (hn _ _ ⟨E',_,h2.put dst h4,h3,h⟩)
 ·split at h;(·rename_i bS hm;obtain⟨w',h1,h2,h3⟩:=ue (P:=P) hs (hs.eval _) (hs.eval _) (hs.eval _) hm;refine oo oO (w':=w') ?_ (hn _ _ ⟨E,_,h2.put dst (.sc _ _),h3,h⟩);simp [execOp,h1]);exact h.elim
 ·split at h;(·rename_i bS hm;obtain⟨w',h1,h2,h3⟩:=ue (P:=P) hs (hs.eval _) (hs.eval _) (hs.eval _) hm;refine oo oO (w':=w') ?_ (hn _ _ ⟨E,_,h2.put dst (.sc _ _),h3,h⟩);simp [execOp,h1]);exact h.elim
 ·split at h;(·rename_i bS v hm;obtain⟨z,w',h1,h2,h3,h4⟩:=En (P:=P) hs (hs.eval _) (hs.eval _) hm;exact dr oO (jr h1) (hn _ _ ⟨E,_,h2.put dst h4,h3,h⟩));exact h.elim
 ·rename_i T m s x;split at h;(·rename_i bS hm;obtain⟨w',h1,h2,h3⟩:=Eo (P:=P) (T:=T) hs (hs.eval _) (hs.eval _) (hs.eval _) hm;refine oo oO (w':=w') ?_ (hn _ _ ⟨E,_,h2.put dst (.sc _ _),h3,h⟩);simp [execOp,h1]);exact h.elim
 ·rename_i xs ts;split at h;(·rename_i bS hm;obtain⟨w',h1,h2,h3⟩:=Cv (ty:=type) hs (hs.pY xs) hm;refine dr oO (v:=.tuple #[]) (w':=w') ?_ (hn _ _ ⟨E,_,h2.put dst (.sc _ _),h3,h⟩);simp only [execOp,resolve,Sem.run_bind,Sem.run_pure,Result.andThen_ok,invoke,builtin,h1]);exact h.elim
 ·split at h;(·rename_i B hB;obtain⟨E',w',h1,h2,h3,h4⟩:=Ar (P:=P) hs hk (hs.eval _) hB;exact dr oO (jr h1) (hn _ _ ⟨E',_,h2.put dst h4,h3,h⟩));exact h.elim
 ·obtain⟨z,w',st',h1,h2,h3,h4⟩:=Gk (P:=P) (ty:=type) hs (hs.eval _) h;exact dr oO (jr h1) (hn _ _ ⟨E,st',h2,h3,h4⟩)
 ·rename_i op T x y yT;split at h;(·rename_i m hm;obtain⟨b,hb,fj⟩:=Es (P:=P) (w:=w) ht x y (hs.eval x) (hs.eval y) hm;exact dr oO (dz fj) (hn _ _ ⟨E,_,hs.put dst (.sc _ _),ic.refl E w,h b hb⟩));split at h;(·rename_i v hv;obtain⟨x,h1,h2⟩:=tb ht hs hv;exact dr oO h1 (hn _ _ ⟨E,_,hs.put dst h2,ic.refl E w,h⟩));exact h.elim
 split at h;·rename_i v hv;obtain⟨x,h1,h2⟩:=tb ht hs hv;exact dr oO h1 (hn _ _ ⟨E,_,hs.put dst h2,ic.refl E w,h⟩)
 exact h.elim
def gh (all:Array Oper) (fr:List V) (o:Oper):Option Bool :=
 match o.guard with
 | none=>some true
 | some (j,want)=>match (all[j]?).bind (·.dst) with
  | none=>some false
  | some d=>match fr[d]? with
   | some (.sc (.bool b))=>some (b==want)
   | some (.sc _)=>some false
   | some _=>none
   | none=>some false
theorem iO {E:Env} {w:World} {a:Act} {st:St} (hs:de E w a st) {all:Array Oper} {o:Oper} {b:Bool} (h:gh all st.fr o=some b):Region.wanted o (yielded all a.tmps)=b:=by
 unfold gh at h;unfold Region.wanted;split at h;·rename_i hg;rw [hg];simpa using h
 rename_i j want hg;rw [hg];dsimp only;unfold yielded;split at h;·rename_i hd;rw [hd];simp at h;subst h;rfl
 rename_i d hd;rw [hd];split at h;·rename_i bb hf;obtain⟨x,hx,hr⟩:=hs.fr.get hf;obtain rfl:=fu hr;simp only [aF] at h;subst h;(have:a.tmps[d]?=some (.bool bb):=by simpa using hx);simp [this]
 ·rename_i v dL hf;obtain⟨x,hx,hr⟩:=hs.fr.get hf;obtain rfl:=fu hr;simp only [aF] at h;subst h;(have:a.tmps[d]?=some x:=by simpa using hx);simp only [lW,this];cases x <;> first|rfl|exact absurd rfl (dL _)
 ·cases h
 rename_i hf;simp only [aF] at h;subst h;have hl:st.fr.length=a.tmps.size:=by have:=hs.fr.1;simpa using this
 have:a.tmps[d]?=none:=by rw [asy] at hf;exact arn (by omega)
 simp [this]
def fa (P:Program) (tt:Table) (all:Array Oper):List Oper→St→(St→Prop)→Prop
 | [],st,Q=>Q st
 | o :: r,st,Q=>match gh all st.fr o with
  | some true=>dn P tt st.mem.length o st fun st'=>fa P tt all r st' Q
  | some false=>fa P tt all r (st.put o.dst (.sc undef)) Q
  | none=>False
@[congr] theorem V7 {P:Program} {f f':FuncId} {vs vs':List V} {st st':St} {dst:Option Tmp} {Q:St→Prop} (hf:f=f') (hv:vs=vs') (h:st=st'):ym P f vs st dst Q=ym P f' vs' st' dst Q:=by rw [hf,hv,h]
theorem put_defers (a:Act) (dst:Option Tmp) (v:Value):(a.put dst v).defers=a.defers:=by cases dst <;> rfl
theorem vL {P:Program} {tt:Table} (ht:TT P tt) {ρ:Option Nat} {n:Nat} {all:Array Oper} {Q:St→Prop} {Q':Exit→Act→World→Prop}:∀ (TY pre:List Oper),all.toList=pre++TY →
  ∀ {E:Env} {w:World} {a:Act} {st:St},de E w a st→fa P tt all TY st Q→(∀ a' w',a'.defers=a.defers→(∃ E' st',de E' w' a' st'∧ic E w E' w'∧Q st')→Q' .normal a' w')→wpOpsIn (WF ρ) n P all Q' (List.range' pre.length TY.length) a w:=by intro TY;induction TY with|nil=>intro pre _ E w a st hs h hq;exact hq _ _ rfl ⟨E,st,hs,ic.refl E w,h⟩|cons o r ih =>intro pre dN E w a st hs h hq;(have kX:all[pre.length]?=some o:=by rw [← dQ,dN,a8 (aB _)];simp);(have Pn:all.toList=(pre++[o])++r:=by rw [dN];simp);have Yj:=@ih (pre++[o]) Pn;simp only [ab,af,ai,cr] at Yj;rw [af,aro,wpOpsIn,kX];dsimp only;simp only [fa] at h;split at h;(·rename_i hw;rw [if_pos (iO hs hw)];refine gN ht hs (.inr rfl) h ?_;rintro v w' ⟨E',st',h1,h2,h3⟩;exact Yj h1 h3 fun a'' w'' hd ⟨Ch,I9,h4,h5,h6⟩=>hq _ _ (hd.trans (put_defers _ _ _)) ⟨Ch,I9,h4,h2.trans h5,h6⟩);(·rename_i hw;rw [if_neg (by rw [iO hs hw];simp)];exact⟨fun _ _=>trivial,Yj (hs.put o.dst (.sc _ _)) h fun a'' w'' hd h=>hq _ _ (hd.trans (put_defers _ _ _)) h⟩);exact h.elim
def Marks (E:Env) (w:World) (base:Nat) (ds:List Deferred):Prop :=
 ∃ rs:List Nat,ds=rs.map (fun r => { target:=.collected r,args := #[] })∧rs.Nodup∧∀ r∈rs,base≤r∧w.heap[r]?=some (.deferred (some []))∧∀ k v e c,E.cC k v≠some (r,e,c)
theorem Marks.La {E E':Env} {w w':World} {base:Nat} {ds:List Deferred} (h:Marks E w base ds) (he:ic E w E' w'):Marks E' w' base ds:=by
 obtain⟨rs,h1,h2,h3⟩:=h;refine⟨rs,h1,h2,fun r hr=>?_⟩;obtain⟨h6,h4,h5⟩:=h3 r hr;have bL:r<w.heap.size:=by (rcases bz r w.heap.size with h|h);(·exact h);rw [arn h] at h4;cases h4
 refine⟨h6,(he.heap r bL h5).trans h4,fun k v e c hk=>?_⟩;rcases he.cC _ _ _ _ _ hk with ⟨k0,v0,e0,c0,h⟩|h
 ·exact h5 _ _ _ _ h
 omega
theorem Marks.nil (E:Env) (w:World) (base:Nat):Marks E w base []:=⟨[],rfl,.nil,fun r h=>by simp at h⟩
def Po (E0:Env) (w0:World) (Q:Exit→St→Prop):Exit→Act→World→Prop:=fun ex a' w'=>∃ E' st',de E' w' a' st'∧ic E0 w0 E' w'∧Marks E' w' w0.heap.size a'.defers∧Q ex st'
def ek (P:Program) (ρ:Option Nat) (n0:Nat) (c:Code) (st:St) (Q:Exit→St→Prop):Prop :=
 ∀ (E0:Env) (w0:World),(∀ k,n0≤k→∀ v,E0.cC k v=none)→∀ (E:Env) (w:World) (a:Act),ic E0 w0 E w→de E w a st→Marks E w w0.heap.size a.defers→c.wpIn (WF ρ) 0 P (Po E0 w0 Q) a w
def ir (next:St→Prop) (Q:Exit→St→Prop):Exit→St→Prop
 | .normal,st=>next st
 | e,st=>Q e st
def kg (id:Nat) (Q:Exit→St→Prop):Exit→St→Prop
 | .exit j,st=>if j=id then Q .normal st else Q (.exit j) st
 | e,st=>Q e st
section
variable {P:Program} {tt:Table} {ρ:Option Nat} {n0:Nat} {st:St} {Q:Exit→St→Prop}
theorem ek.mono {c:Code} {Q':Exit→St→Prop} (h:ek P ρ n0 c st Q) (hq:∀ e st',Q e st'→Q' e st'):ek P ρ n0 c st Q' :=
 fun E0 w0 h0 E w a he hs hm=>wpIn_mono (h E0 w0 h0 E w a he hs hm) fun _ _ _ ⟨E',st',h1,h2,h4,h3⟩=>⟨E',st',h1,h2,h4,hq _ _ h3⟩
theorem cw (h:Q .normal st):ek P ρ n0 .skip st Q:=fun E0 w0 h0 E w a he hs hm=>wpIn_skip ⟨E,st,hs,he,hm,h⟩
theorem cn (h:Q .ret st):ek P ρ n0 .ret st Q:=fun E0 w0 h0 E w a he hs hm=>wpIn_ret ⟨E,st,hs,he,hm,h⟩
theorem ep {id:Nat} (h:Q (.exit id) st):ek P ρ n0 (.exit id) st Q:=fun E0 w0 h0 E w a he hs hm=>wpIn_exit ⟨E,st,hs,he,hm,h⟩
theorem bE {x y:Code} (h:ek P ρ n0 x st (ir (fun st'=>ek P ρ n0 y st' Q) Q)):ek P ρ n0 (.seq x y) st Q:=fun E0 w0 h0 E w a he hs hm=>by refine wpIn_seq (wpIn_mono (h E0 w0 h0 E w a he hs hm) ?_);rintro e a' w' ⟨E',st',h1,h2,h4,h3⟩;cases e with|normal=>exact h3 E0 w0 h0 E' w' a' h2 h1 h4|_=>exact⟨E',st',h1,h2,h4,h3⟩
theorem bd {c:Operand} {x y:Code} {b:Bool} (hc:st.eval c = .sc (.bool b)) (h:ek P ρ n0 (if b=true then x else y) st Q):ek P ρ n0 (.cond c x y) st Q:=fun E0 w0 h0 E w a he hs hm=>by have:=hs.eval c;rw [hc] at this;exact wpIn_cond (t:=b) (fu this) (h E0 w0 h0 E w a he hs hm)
theorem bU {id:Nat} {c:Code} (h:ek P ρ n0 c st (kg id Q)):ek P ρ n0 (.block id c) st Q:=fun E0 w0 h0 E w a he hs hm=>by refine wpIn_block (wpIn_mono (h E0 w0 h0 E w a he hs hm) ?_);rintro e a' w' ⟨E',st',h1,h2,h4,h3⟩;cases e with|exit j =>simp only [Exit.inBlock,kg] at h3 ⊢;split;(·rename_i hj;rw [if_pos hj] at h3;exact⟨E',st',h1,h2,h4,h3⟩);rename_i hj;rw [if_neg hj] at h3;exact⟨E',st',h1,h2,h4,h3⟩|_=>exact⟨E',st',h1,h2,h4,h3⟩
theorem mH (ht:TT P tt) {id:Nat} {ops:Array Oper} (h:fa P tt ops ops.toList st (Q .normal)):ek P ρ n0 (.region id ops false) st Q:=fun E0 w0 h0 E w a he hs hm=>by refine wpIn_region ?_;have:=vL ht (ρ:=ρ) (n:=0) (Q':=Po E0 w0 Q) ops.toList [] (by simp) hs h (fun a' w' hd ⟨E',st',h1,h2,h3⟩=>⟨E',st',h1,he.trans h2,by rw [hd];exact hm.La h2,h3⟩);rw [arp];simpa using this
def l5 (P:Program) (ρ:Option Nat) (n0:Nat) (c:Code):Nat→St→(Exit→St→Prop)→Prop
 | 0,_,_=>False
 | n+1,st,Q=>ek P ρ n0 c st (ir (fun st'=>l5 P ρ n0 c n st' Q) Q)
theorem sf {c:Code} (n:Nat) (h:l5 P ρ n0 c n st Q):ek P ρ n0 (.loop c) st Q:=fun E0 w0 h0 E w a he hs hm=>by
 refine wpIn_loop_rounds n ?_;have key:∀ (n:Nat) (E1:Env) (w1:World) (a1:Act) (tK:St),de E1 w1 a1 tK→ic E0 w0 E1 w1→Marks E1 w1 w0.heap.size a1.defers→l5 P ρ n0 c n tK Q→Code.roundsIn (WF ρ) 0 P c (Po E0 w0 Q) n a1 w1:=by intro n;induction n with|zero=>intro E1 w1 a1 tK _ _ _ h;exact h.elim|succ n ih =>intro E1 w1 a1 tK h1 h2 h5 h3;refine wpIn_mono (h3 E0 w0 h0 E1 w1 a1 h2 h1 h5) ?_;rintro e a' w' ⟨E',st',h4,h5,h7,h6⟩;cases e with|normal=>exact ih E' w' a' st' h4 h5 h7 h6|_=>exact⟨E',st',h4,h5,h7,h6⟩
 exact key n E w a st hs he hm h
theorem sg {c:Code} {st':St} (hw:∀ E w a,de E w a st→de E w a st') (h:ek P ρ n0 c st' Q):ek P ρ n0 c st Q :=
 fun E0 w0 h0 E w a he hs hm=>h E0 w0 h0 E w a he (hw E w a hs) hm
mutual
def aG (n:Nat):V→Bool
 | .ms b _ _ _=>decide (b<n)
 | .ptr b _=>decide (b<n)
 | .j9 b=>decide (b<n)
 | .mp b=>decide (b<n)
 | .iv b _ _ _=>decide (b<n)
 | .undef=>true
 | .sc _=>true
 | .slice _=>true
 | .fq _=>true
 | .gn=>true
 | .full _=>true
 | .agg cs=>aQ n cs
 | .eg cs=>aQ n cs
 | .iU _ first cap=>aQ n first&&aQ n cap
def aQ (n:Nat):List V→Bool
 | []=>true
 | c :: r=>aG n c&&aQ n r
end
theorem gG (n:Nat) (l:List V):aQ n l=l.all (aG n):=by induction l with|nil=>rfl|cons c r ih=>simp [aQ,ih]
def aK (n:Nat):bx→Bool
 | .box cs=>cs.all (aG n)
 | .loop _ _ fr _ _ _=>fr.all (aG n)
 | .map dP _=>dP.all (fun k=>aG n k.2.2)
 | .jJ m _ _ _=>decide (m<n)
 | .n5 _ kb _ _=>decide (kb<n)
 | _=>true
def Env.cut (E:Env) (n:Nat):Env := { F:=E.F,cC:=fun k v=>if k<n then E.cC k v else none,gl:=E.gl }
theorem iP {E:Env} {n:Nat} {v:V} {x:Value} (h:cY E v x) (hb:aG n v=true):cY (E.cut n) v x:=by induction h with|undef=>exact .undef _ _|sc=>exact .sc _ _|slice E rows a cap ux ad xf ha mh hz hF h1 hR ih=>exact .slice _ _ _ _ ux ad xf ha mh hz hF h1 hR|ms E b v s l g e c a cap fK hl h0 vf=>exact .ms _ _ _ _ _ g e c _ _ ((if_pos (by simpa [aG] using hb)).trans fK) hl h0 vf|ja=>exact .ja _ _ _ _|ptr E b o g e c fK=>exact .ptr _ _ _ g e c ((if_pos (by simpa [aG] using hb)).trans fK)|j9 E b l e c fK=>exact .j9 _ _ l e c ((if_pos (by simpa [aG] using hb)).trans fK)|mp E b l e c fK=>exact .mp _ _ l e c ((if_pos (by simpa [aG] using hb)).trans fK)|iv E b v i o g e c fK=>exact .iv _ _ _ _ _ g e c ((if_pos (by simpa [aG] using hb)).trans fK)|fq E cs ad xf hF hR ih=>exact .fq _ _ _ xf hF hR|gn=>exact .gn _|full E rows a h ih=>exact .full _ _ _ (ih rfl)|agg E cs xs hl hh ih =>rw [aG,gG] at hb;exact .agg _ _ _ hl fun i c x hc hx=>ih i c x hc hx (aZ.1 hb c (aE hc))|eg E cs xs hl hh ih =>rw [aG,gG] at hb;exact .eg _ _ _ hl fun i c x hc hx=>ih i c x hc hx (aZ.1 hb c (aE hc))|iU E f first cap xs ys hx hy h1 h2 XW XX =>rw [aG,gG,gG,aL] at hb;exact .iU _ _ _ _ _ _ hx hy (fun i c x hc hx=>XW i c x hc hx (aZ.1 hb.1 c (aE hc))) fun i c x hc hx=>XX i c x hc hx (aZ.1 hb.2 c (aE hc))
theorem de.cut {E:Env} {w:World} {a:Act} {st:St} (hs:de E w a st) {n:Nat} (hf:st.fr.all (aG n)=true) (hm:(st.mem.take n).all (aK n)=true):de (E.cut n) w a { st with mem:=st.mem.take n }:=by
 have gY:∀ k v,k<n→(E.cut n).cC k v=E.cC k v:=fun k v h=>if_pos h;have gq:∀ k v,n≤k→(E.cut n).cC k v=none:=fun k v h=>if_neg (by omega);have bL:∀ {k v t},(E.cut n).cC k v=some t→k<n∧E.cC k v=some t:=fun {k v t} h=>by by_cases hk:k<n;(·rw [gY k v hk] at h;exact⟨hk,h⟩);rw [gq k v (by omega)] at h;cases h
 have kX:∀ {k:Nat} {B:bx},(st.mem.take n)[k]?=some B→k<n∧st.mem[k]?=some B:=fun {k B} h=>by rw [kz] at h;split at h;(·exact⟨by assumption,h⟩);cases h
 refine⟨hs.F,fun k v g e c h=>hs.lt _ _ _ _ _ (bL h).2,fun k B hk=>?_,fun k hk v=>?_,fun k B hk v hv=>?_,fun k k' v v' g e1 c1 e2 c2 h5 h6=>hs.apart _ _ _ _ _ _ _ _ _ (bL h5).2 (bL h6).2,⟨hs.fr.1,fun i v x hv hx=>iP (hs.fr.2 i v x hv hx) (aZ.1 hf v (aE hv))⟩⟩;·obtain⟨iz,lY⟩:=kX hk;have dN:=aZ.1 hm B (aE hk);have h:=hs.mem k B lY;cases B with|hole=>(exact fun v=>by rw [gY k v iz];exact h v)|dead=>trivial|box cs =>obtain⟨g,T,xs,h1,h2,h3,h4⟩:=h;exact⟨g,T,xs,(gY k 0 iz).trans h1,h2,⟨h3.1,fun i v x hv hx=>iP (h3.2 i v x hv hx) (aZ.1 dN v (aE hv))⟩,h4⟩|loop s nP fr params assign body =>obtain⟨l,fn,tmps,db,h1,h2,h3,h4⟩:=h;exact⟨l,fn,tmps,db,(gY k 0 iz).trans h1,h2,⟨h3.1,fun i v x hv hx=>iP (h3.2 i v x hv hx) (aZ.1 dN v (aE hv))⟩,h4⟩|map dP clock =>obtain⟨g,es,h1,h2,h3,h4⟩:=h;exact⟨g,es,(gY k 0 iz).trans h1,h2,⟨h3.1,fun i kb e hk he=>let ⟨p1,p2,p3⟩:=h3.2 i kb e hk he;⟨p1,p2,iP p3 (aZ.1 dN kb (aE hk))⟩⟩,h4⟩|jJ m since seen last =>obtain⟨g,gm,e,c,h1,h2,h3,h4⟩:=h;(have Pp:m<n:=by simpa [aK] using dN);exact⟨g,gm,e,c,(gY k 0 iz).trans h1,(gY m 0 Pp).trans h2,h3,h4⟩|n5 T kb v l =>obtain⟨g,T',p,s,h1,h2,h3,h4,h5⟩:=h;exact⟨g,T',p,s,(gY k 0 iz).trans h1,h2,h3,iP h4 (by simpa [aK,aG] using dN),h5⟩|oW T v O =>((rcases h with ⟨h1,h2⟩|⟨g,cur,c,h1,h2⟩);(·exact .inl ⟨h1,(gY k v iz).trans h2⟩);exact .inr ⟨g,cur,c,(gY k v iz).trans h1,h2⟩)|nL s pos =>obtain⟨g,h1,h2,h3⟩:=h;exact⟨g,(gY k 0 iz).trans h1,h2,h3⟩|og =>obtain⟨g,h1,h2,h3⟩:=h;exact⟨g,(gY k 0 iz).trans h1,h2,h3⟩|rows v e rs =>((rcases h with ⟨h1,h2⟩|⟨g,T,xs,c,h1,h2⟩);(·exact .inl ⟨h1,(gY k v iz).trans h2⟩);exact .inr ⟨g,T,xs,c,(gY k v iz).trans h1,h2⟩)|rP v e rs =>(rcases h with ⟨h1,h2⟩|⟨g,c,h1,h2⟩);(·exact .inl ⟨h1,(gY k v iz).trans h2⟩);exact .inr ⟨g,c,(gY k v iz).trans h1,h2⟩
 ·by_cases iz:k<n;(·rw [gY k v iz];refine hs.top k ?_ v;dsimp only at hk;rw [cQ] at hk;omega);exact gq k v (by omega)
 obtain⟨iz,lY⟩:=kX hk;rw [gY k v iz];exact hs.dZ k B lY v hv
def forget (yu:List Nat) (fr:List V):List V:=yu.foldl (fun fr i=>fr.set i .undef) fr
theorem de.forget {E:Env} {w:World} {a:Act} (yu:List Nat):∀ {st:St},de E w a st→de E w a { st with fr:=Eng.forget yu st.fr }:=by induction yu with|nil=>intro st hs;exact hs|cons i r ih =>intro st hs;(have:de E w a { st with fr:=st.fr.set i .undef }:=by refine⟨hs.F,hs.lt,hs.mem,hs.top,hs.dZ,hs.apart,⟨by simpa using hs.fr.1,fun j v x hv hx=>?_⟩⟩;dsimp only at hv;rw [bX] at hv;split at hv;(·split at hv;(·cases hv;exact .undef _ _);cases hv);exact hs.fr.2 j v x hv hx);exact ih this
theorem Ay {c:Code} (n:Nat) (yu:List Nat) (hn:n0≤n) (hf:(forget yu st.fr).all (aG n)=true) (hm:(st.mem.take n).all (aK n)=true)
  (h:ek P ρ n0 c { fr:=forget yu st.fr,mem:=st.mem.take n } Q):ek P ρ n0 c st Q:=fun E0 w0 h0 E w a he hs oq=>by
 have h1:=(hs.forget yu).cut (n:=n) hf hm
 refine h E0 w0 h0 (E.cut n) w a ⟨⟨he.le.F,fun k v t hk=>?_⟩,fun k v g e c hk=>?_,he.F,he.os,he.tape,he.output,he.size,he.heap⟩ h1 ?_
 rotate_left 2
 ·obtain⟨rs,m1,m2,m3⟩:=oq
  refine⟨rs,m1,m2,fun r hr=>⟨(m3 r hr).1,(m3 r hr).2.1,fun k v e c hk=>?_⟩⟩
  have:E.cC k v=some (r,e,c):=by
   by_cases iz:k<n
   ·exact ((if_pos iz).symm.trans hk:E.cC k v=_)
   have h2:(E.cut n).cC k v=none:=if_neg iz
   rw [h2] at hk;cases hk
  exact (m3 r hr).2.2 _ _ _ _ this
 ·have:k<n:=by
   rcases bz k n with bL|gq
   ·exact bL
   rw [h0 k (by omega) v] at hk;cases hk
  exact (if_pos this).trans (he.le.cC _ _ _ hk)
 have:E.cC k v=some (g,e,c):=by
  by_cases iz:k<n
  ·exact ((if_pos iz).symm.trans hk:E.cC k v=_)
  have h2:(E.cut n).cC k v=none:=if_neg iz
  rw [h2] at hk;cases hk
 exact he.cC _ _ _ _ _ this
theorem de.TZ {E:Env} {w:World} {a:Act} {st:St} (hs:de E w a st) {i b v:Nat} (h:st.fr[i]?=some (.sc (.slice none 0 0))):de E w a { st with fr:=st.fr.set i (.ms b v 0 0) }:=by
 refine⟨hs.F,hs.lt,hs.mem,hs.top,hs.dZ,hs.apart,⟨by simpa using hs.fr.1,fun j u x hu hx=>?_⟩⟩;dsimp only at hu;rw [bX] at hu;split at hu;·rename_i IP;subst IP;split at hu;(·cases hu;have:=hs.fr.2 _ _ _ h hx;rw [fu this];exact .ja _ _ _ _);cases hu
 exact hs.fr.2 j u x hu hx
end
def pG (tt:Table) (st:St):ResultVar→Option V
 | .tmp t=>some (st.fr.getD t .undef)
 | .cell a T=>pV tt st.mem T (st.fr.getD a .undef)
def nT (tt:Table) (st:St):List ResultVar→Option (List V)
 | []=>some []
 | r :: rs=>match pG tt st r with
  | some v=>match nT tt st rs with|some l=>some (v :: l)|none=>none
  | none=>none
def nU (tt:Table) (rs:Array ResultVar) (st:St):Option V :=
 match nT tt st rs.toList with
 | some [v]=>CA st.mem v
 | some vs=>CA st.mem (.eg vs)
 | none=>none
theorem ot {P:Program} {tt:Table} (ht:TT P tt) {E:Env} {w:World} {a:Act} {st:St} (hs:de E w a st):∀ (rs:List ResultVar) (vs:List V),nT tt st rs=some vs →
  ∃ xs:List Value,(rs.mapM (fun|.tmp t=>pure (a.tmps.getD t undef)|.cell p t=>do loadVar t (← asAddr (a.tmps.getD p undef))):Sem (List Value)).run P w = .ok xs w∧cU E vs xs
 | [],vs,h=>by simp [nT] at h;subst h;exact⟨[],rfl,.nil _⟩
 | r :: rs,vs,h=>by
  simp only [nT] at h
  split at h
  ·rename_i v hv
   split at h
   ·rename_i l hl
    simp only [aF] at h;subst h
    obtain⟨xs,h1,h2⟩:=ot ht hs rs l hl
    have hx:∃ x,((match r with|.tmp t=>pure (a.tmps.getD t undef)|.cell p t=>do loadVar t (← asAddr (a.tmps.getD p undef))):Sem Value).run P w = .ok x w∧cY E v x:=by
     cases r with
     | tmp t =>
      simp only [pG,aF] at hv;subst hv
      exact⟨_,rfl,hs.eval (.tmp t)⟩
     | cell p t =>
      simp only [pG] at hv
      have hp:=hs.eval (.tmp p)
      obtain⟨y,h3,h4⟩:=yd ht hs hp hv
      refine⟨y,?_,h4⟩
      have V8:∃ ad,a.tmps.getD p undef = .pointer (some ad):=by
       have Az:cY E (st.fr.getD p .undef) (a.tmps.getD p undef):=hp
       revert Az hv
       generalize st.fr.getD p .undef=q
       generalize a.tmps.getD p undef=z
       intro hv Az
       cases Az with
       | ptr=>exact⟨_,rfl⟩
       | iv=>exact⟨_,rfl⟩
       | fq=>exact⟨_,rfl⟩
       | _=>simp [pV] at hv
      obtain⟨ad,had⟩:=V8
      have h3':(Instr.loadAt t (a.tmps.getD p undef)).run P w = .ok y w:=h3
      show ((do loadVar t (← asAddr (a.tmps.getD p undef))):Sem Value).run P w=_
      rw [had] at h3' ⊢
      simpa [Instr.loadAt,Instr.sureAddr,asAddr] using h3'
    obtain⟨x,h3,h4⟩:=hx
    refine⟨x :: xs,?_,.cons h4 h2⟩
    simp only [arC,Sem.run_bind]
    rw [h3]
    simp only [Result.andThen_ok]
    rw [h1]
    rfl
   cases h
  cases h
theorem Ja {P:Program} {tt:Table} (ht:TT P tt) {E:Env} {w:World} {a:Act} {st:St} (hs:de E w a st) {fn:Func} {r:V} (h:nU tt fn.results st=some r) :
  ∃ keys x,(results fn a.tmps).run P w = .ok x w∧cY (E.qx w keys).pure r x:=by
 unfold nU at h
 have run:∀ xs:List Value,(fn.results.toList.mapM (fun|.tmp t=>pure (a.tmps.getD t undef)|.cell p t=>do loadVar t (← asAddr (a.tmps.getD p undef))):Sem (List Value)).run P w = .ok xs w →
   (results fn a.tmps).run P w = .ok (if h:xs.toArray.size=1 then xs.toArray[0] else .tuple xs.toArray) w:=fun xs hx=>by
  unfold results
  rw [ar0]
  simp only [Sem.run_bind,Sem.run_map]
  erw [hx]
  rfl
 split at h;·rename_i v hv;obtain⟨xs,h1,h2⟩:=ot ht hs _ _ hv;obtain⟨x,ys,rfl,h3,h4⟩:=h2.of_cons;have:=h4.of_nil;subst this;exact⟨refs v,x,run _ h1,C4 hs h3 h fun k hk=>hk⟩
 ·rename_i vs dL hv;obtain⟨xs,h1,h2⟩:=ot ht hs _ _ hv;(have hl:xs.toArray.size≠1:=by have:=h2.1;intro he;match vs,xs,this,he with|[v],_,_,_=>exact dL v rfl|[],[],_,he=>simp at he|[],_ :: _,h,_=>simp at h|_ :: _ :: _,[],h,_=>simp at h|_ :: _ :: _,_ :: [],h,_=>simp at h|_ :: _ :: _,_ :: _ :: _,_,he=>simp at he);have h3:=run _ h1;rw [dif_neg hl] at h3;exact⟨refs (.eg vs),_,h3,C4 hs (.eg _ _ _ (by simpa using h2.1) fun i c x hc hx=>h2.2 i c x hc (by simpa using hx)) h fun k hk=>hk⟩
 cases h
def cO (fn:Func) (args:List V) (mem:List bx):St := { fr:=args++List.replicate (fn.ntmps-args.length) (.sc undef),mem:=mem }
theorem yv {E:Env} (fn:Func) {args:List V} {mem:List bx} {xs:Array Value} (hx:cU E args xs.toList):cU E (cO fn args mem).fr (xs++Array.replicate (fn.ntmps-xs.size) undef).toList:=by
 have hl:args.length=xs.size:=by have:=hx.1;simpa using this
 simp only [cO,zp,Array.toList_replicate,hl];refine hx.append ⟨by simp,fun i v x hv hx=>?_⟩;rw [arU] at hv hx;split at hv;·rename_i hi;rw [if_pos hi] at hx;cases hv;cases hx;exact .sc _ _
 cases hv
theorem Ev {P:Program} {w:World} {r:Nat} (h:w.heap[r]?=some (.deferred (some []))):(Instr.takeDeferred r).run P w = .ok [] { w with heap:=w.heap.setIfInBounds r (.deferred none) }:=by simp [Instr.takeDeferred,getObj,setObj,Sem.run,h,bind,Sem.bind,pure]
theorem qL {P:Program} {fn:Func} {tmps:Array Value} {R:Ending→World→Prop}:∀ (rs:List Nat) (w:World),rs.Nodup→(∀ r∈rs,w.heap[r]?=some (.deferred (some []))) →
  (∀ w',w'.os=w.os→w'.tape=w.tape→w'.output=w.output→w'.heap.size=w.heap.size→(∀ b,b ∉ rs→w'.heap[b]?=w.heap[b]?)→∃ v,(results fn tmps).run P w' = .ok v w'∧R (.returned v) w') →
  LeavesInM (WF none) 0 P fn tmps R (rs.map (fun r => { target:=.collected r,args := #[] })) .returning w
 | [],w,_,_,h=>by
  obtain⟨v,h1,h2⟩:=h w rfl rfl rfl rfl fun _ _=>rfl
  exact⟨v,h1,h2⟩
 | r :: rs,w,hn,hr,h=>by
  refine⟨by simp,.inl ⟨r,_,rfl,Ev (hr r (cA ..)),?_⟩⟩
  rw [ar6] at hn
  have Gx:∀ b,b≠r→(w.heap.setIfInBounds r (.deferred none))[b]?=w.heap[b]?:=fun b hb=>DY (fun e=>hb e.symm)
  refine qL rs _ hn.2 (fun r' FW=>?_) fun w' h1 h2 h3 h4 h5=>?_
  ·rw [Gx r' (fun e=>hn.1 (e ▸ FW))];exact hr r' (ct _ FW)
  exact h w' h1 h2 h3 (by rw [h4];simp) fun b hb=>by
   simp only [cI,not_or] at hb
   rw [h5 b hb.2,Gx b hb.1]
theorem de.Pq {E:Env} {w w':World} {a:Act} {st:St} (hs:de E w a st) {rs:List Nat} (hr:∀ r∈rs,w.heap[r]?=some (.deferred (some []))∧∀ k v e c,E.cC k v≠some (r,e,c)) (kO:w'.heap.size=w.heap.size)
  (hh:∀ b,b ∉ rs→w'.heap[b]?=w.heap[b]?):de E w' a st:=by
 refine⟨fun ad x hx=>?_,fun k v g e c h=>by rw [kO];exact hs.lt _ _ _ _ _ h,fun k B hk=>?_,hs.top,hs.dZ,hs.apart,hs.fr⟩;·have hc:=hs.F ad x hx;(have:ad.block ∉ rs:=fun pw=>by have:=(hr _ pw).1;simp [World.cell?,this] at hc);rw [← hc];simp [World.cell?,hh _ this]
 exact (hs.mem k B hk).mono E.le_refl (fun _ h=>h) (fun g e c h=>hh g fun pw=>(hr g pw).2 _ _ _ _ h) fun _ _ _ _ _ h=>h
theorem jL {P:Program} {tt:Table} (ht:TT P tt) {f:FuncId} {fn:Func} {body:Code} {args:List V} {r:V} (hf:P.funcs[f]?=some fn) (hb:fn.body=some body)
  (gL:∀ (xs:Array Value) (w:World),(callFunc f xs).run P w = .ok (.enter f xs) w)
  (h:ek P none 0 body (cO fn args []) fun ex st'=>(ex = .ret∨ex = .normal)∧nU tt fn.results st'=some r):b8 P f args r:=by
 refine⟨gL,fun F hg w xs hF hx=>Gw (n:=0) (callsIn_of_wp_marks hf hb trivial ?_)⟩;have hs:de ⟨F,fun _ _=>none,hg⟩ w { tmps:=xs++Array.replicate (fn.ntmps-xs.size) undef,defers:=[] } (cO fn args []):=by refine⟨hF,(fun k v g e c h=>by cases h),(fun k B h=>by simp [cO] at h),(fun k _ v=>rfl),(fun k B h=>by simp [cO] at h),(fun k k' v v' g e c e' c' h=>by cases h),yv fn hx⟩
 refine wpIn_mono (h _ w (fun k _ v=>rfl) _ w _ (ic.refl _ w) hs (.nil _ _ _)) ?_;rintro e a' w' ⟨E',st',h1,h2,⟨rs,hd,oO,w9⟩,he,hr⟩
 have post:LeavesInM (WF none) 0 P fn a'.tmps (fun e w'=>∃ F' x,e = .returned x∧(∀ ad y,F ad=some y→F' ad=some y)∧(∀ ad y,F' ad=some y→w'.cell? ad=some y)∧(∀ ad y,F' ad=some y→F ad=some y∨w.heap.size≤ad.block) ∧
   (∃ Gp,cY ⟨F',fun _ _=>none,Gp⟩ r x)∧Below w.heap.size w w') a'.defers .returning w':=by
  rw [hd]
  refine qL rs w' oO (fun r hr=>(w9 r hr).2.1) fun w2 k1 k2 k3 k4 k5=>?_
  have rH:=h1.Pq (fun r hr=>(w9 r hr).2) k4 k5
  obtain⟨keys,x,h3,h4⟩:=Ja ht rH hr
  have hold:∀ r∈rs,w.heap.size≤r:=fun r hr=>(w9 r hr).1
  refine⟨x,h3,(E'.qx w2 keys).F,x,rfl,fun ad y hy=>(Env.xp E' w2 keys).F _ _ (h2.le.F _ _ hy),fun ad y hy=>Env.K8 rH.F hy,fun ad y hy=>?_,⟨_,h4⟩,⟨k1.trans h2.os,k2.trans h2.tape,k3.trans h2.output,by rw [k4];exact h2.size,fun b hb=>(k5 b fun pw=>by have:=hold b pw;omega).trans (h2.heap b hb (by simp))⟩⟩
  rcases Env.Er hy with h|⟨k,-,e,c,h⟩
  ·rcases h2.F _ _ h with h|h|⟨k0,v0,e0,c0,h⟩
   ·exact .inl h
   ·exact .inr h
   cases h
  rcases h2.cC _ _ _ _ _ h with ⟨k0,v0,e0,c0,h⟩|h
  ·cases h
  exact .inr h
 rcases he with rfl|rfl <;> exact post
end Go.Eng
end
section
namespace Go.Eng
variable [bB]
def tg:List (Nat×Ti)→Table
 | [],_=>none
 | (k,i) :: r,t=>if t=k then some i else tg r t
def Ew:Value→Value→Bool
 | .bool a,.bool b=>a==b
 | .int k n,.int k' n'=>k==k'&&n==n'
 | .string a,.string b=>a.data==b.data
 | .pointer none,.pointer none=>true
 | .slice none a b,.slice none c d=>a==c&&b==d
 | .map none,.map none=>true
 | .nilFunc,.nilFunc=>true
 | .nilIface,.nilIface=>true
 | _,_=>false
def o6:List Value→List Value→Bool
 | [],[]=>true
 | a :: r,b :: s=>Ew a b&&o6 r s
 | _,_=>false
theorem C8 {a b:Value} (h:Ew a b=true):a=b:=by
 unfold Ew at h;split at h;·simp at h;rw [h]
 ·simp at h;rw [h.1,h.2]
 ·rename_i a b;(have:a.data=b.data:=by simpa using h);congr 1;cases a;cases b;simp_all
 ·rfl
 ·simp at h;rw [h.1,h.2]
 ·rfl
 ·rfl
 ·rfl
 cases h
theorem qM:∀ {a b:List Value},o6 a b=true→a=b
 | [],[],_=>rfl
 | x :: r,y :: s,h=>by
  simp only [o6,aL] at h
  rw [C8 h.1,qM h.2]
 | [],_ :: _,h=>by simp [o6] at h
 | _ :: _,[],h=>by simp [o6] at h
def xr (P:Program):List Field→List (Nat×Nat)→Bool
 | [],[]=>true
 | f :: r,p :: s=>f.offset==p.1&&p.2 != 0&&(match P.info? f.type with|some i=>i.size==p.2|none=>false)&&xr P r s
 | _,_=>false
def T0 (P:Program) (t:TypeId) (i:Ti):Bool :=
 match P.info? t with
 | none=>false
 | some info=>info.size==i.size&&info.bytes==i.bytes&&(match info.zero with|some z=>o6 z.cells.toList i.zero|none=>false) &&
  match P.underlying t with
  | none=>false
  | some d=>(i.agg==(match d with|.struct _=>true|.array _ _=>true|_=>false)) &&
   (match i.elem with|none=>true|some e=>(match d with|.slice e'=>e'==e|_=>false)) &&
   (match i.bD with|[]=>true|fl=>(match d with|.struct fs=>xr P fs.toList fl|_=>false)) &&
   (uy i.zero==false||i.agg||(match d with|.string=>true|_=>false))
def Lc (P:Program):List (Nat×Ti)→Bool
 | []=>true
 | (t,i) :: r=>T0 P t i&&Lc P r
theorem AA {P:Program}:∀ {fs:List Field} {fl:List (Nat×Nat)},xr P fs fl=true→fs.length=fl.length∧∀ (k off sz:Nat),fl[k]?=some (off,sz)→∃ f inf,fs[k]?=some f∧f.offset=off∧P.info? f.type=some inf∧inf.size=sz∧sz≠0
 | [],[],_=>⟨rfl,fun k off sz h=>by simp at h⟩
 | f :: r,p :: s,h=>by
  simp only [xr,aL,beq_iff_eq,bne_iff_ne] at h
  obtain⟨⟨⟨h1,h2⟩,h3⟩,h4⟩:=h
  obtain⟨h5,h6⟩:=AA h4
  refine⟨by simp [h5],fun k off sz hk=>?_⟩
  cases k with
  | zero =>
   simp only [aJ,aF] at hk;subst hk
   split at h3
   ·rename_i inf hi
    exact⟨f,inf,rfl,h1,hi,by simpa using h3,h2⟩
   cases h3
  | succ k=>exact h6 k off sz (by simpa using hk)
 | [],_ :: _,h=>by simp [xr] at h
 | _ :: _,[],h=>by simp [xr] at h
theorem Ey {P:Program} {t:TypeId} {i:Ti} (h:T0 P t i=true) :
  (∃ info,P.info? t=some info∧info.size=i.size∧info.bytes=i.bytes∧∃ z,info.zero=some z∧z.cells.toList=i.zero) ∧
  (∃ d,P.underlying t=some d∧(i.agg=true↔((∃ fs,d = .struct fs)∨∃ n e,d = .array n e))∧(∀ e,i.elem=some e→d = .slice e) ∧
   (∀ (f off sz:Nat),i.bD[f]?=some (off,sz)→∃ fs fd inf,d = .struct fs∧fs.size=i.bD.length∧fs[f]?=some fd∧fd.offset=off∧P.info? fd.type=some inf∧inf.size=sz∧sz≠0))∧(uy i.zero=true→i.agg=false→P.underlying t=some .string):=by
 unfold T0 at h;split at h;·cases h
 rename_i info ac2;simp only [aL,beq_iff_eq] at h;obtain⟨⟨⟨h1,h2⟩,h3⟩,h4⟩:=h;split at h3;·rename_i z hz;refine⟨⟨info,ac2,h1,h2,z,hz,qM h3⟩,?_⟩;have h4c:=h4;split at h4;(·cases h4);rename_i d hd;simp only [aL,beq_iff_eq] at h4;obtain⟨⟨⟨h5,h6⟩,h7⟩,h8⟩:=h4;clear h4c;(have aiB:uy i.zero=true→i.agg=false→P.underlying t=some .string:=fun hz ha=>by rw [hz,ha] at h8;rw [hd];cases d <;> first|rfl|(simp at h8));refine⟨⟨d,hd,?_,?_,?_⟩,aiB⟩;(·rw [h5];cases d <;> simp);(·intro e he;rw [he] at h6;dsimp only at h6;split at h6;(·simp at h6;rw [h6]);cases h6);intro f off sz hf;split at h7;(·rename_i C6;rw [C6] at hf;simp at hf);split at h7;(·rename_i fs;obtain⟨h8,h9⟩:=AA h7;obtain⟨fd,inf,C9,h11⟩:=h9 f off sz hf;exact⟨fs,fd,inf,rfl,by simpa using h8,by simpa using C9,h11⟩);cases h7
 cases h3
theorem th {P:Program}:∀ {l:List (Nat×Ti)},Lc P l=true→∀ t i,tg l t=some i→T0 P t i=true
 | [],_,t,i,h=>by simp [tg] at h
 | (k,j) :: r,h,t,i,ht=>by
  simp only [Lc,aL] at h
  simp only [tg] at ht
  split at ht
  ·rename_i hk;subst hk;cases ht;exact h.1
  exact th h.2 t i ht
theorem tt_of {P:Program} {l:List (Nat×Ti)} (h:Lc P l=true):TT P (tg l) :=
 ⟨fun t i ht=>(Ey (th h t i ht)).1,fun t i ht=>(Ey (th h t i ht)).2.1,fun t i ht=>(Ey (th h t i ht)).2.2⟩
end Go.Eng
end
section
namespace Go.Eng
variable [bB]
section
variable {P:Program} {tt:Table} {ρ:Option Nat} {n0:Nat} {st:St} {Q:Exit→St→Prop}
theorem aq (ht:TT P tt) {id:Nat} {ops:Array Oper} {y:Code} (h:∀ K:St→Prop,(∀ st',ek P ρ n0 y st' Q→K st')→fa P tt ops ops.toList st K):ek P ρ n0 (.seq (.region id ops false) y) st Q :=
 bE (mH ht (h (fun st'=>ek P ρ n0 y st' Q) fun _ h=>h))
theorem a7 (ht:TT P tt) {id:Nat} {ops:Array Oper} (h:∀ K:St→Prop,(∀ st',Q .normal st'→K st')→fa P tt ops ops.toList st K):ek P ρ n0 (.region id ops false) st Q :=
 mH ht (h (Q .normal) fun _ h=>h)
def aW:List Bool→List V→List V
 | _,[]=>[]
 | [],_ :: r=>.undef :: aW [] r
 | b :: m,v :: r=>(if b=true then v else .undef) :: aW m r
theorem uH {E:Env}:∀ (m:List Bool) {vs:List V} {xs:List Value},cU E vs xs→cU E (aW m vs) xs
 | m,[],xs,h=>by rw [h.of_nil];cases m <;> exact .nil _
 | [],v :: r,xs,h=>by
  obtain⟨x,ys,rfl,h1,h2⟩:=h.of_cons
  exact .cons (.undef _ _) (uH [] h2)
 | b :: m,v :: r,xs,h=>by
  obtain⟨x,ys,rfl,h1,h2⟩:=h.of_cons
  refine .cons ?_ (uH m h2)
  cases b
  ·exact .undef _ _
  exact h1
theorem de.mask {E:Env} {w:World} {a:Act} {st:St} (hs:de E w a st) (m:List Bool):de E w a { st with fr:=aW m st.fr } :=
 ⟨hs.F,hs.lt,hs.mem,hs.top,hs.dZ,hs.apart,uH m hs.fr⟩
theorem ou {c:Code} (n:Nat) (m:List Bool) (hn:n0≤n) (hf:(aW m st.fr).all (aG n)=true) (hm:(st.mem.take n).all (aK n)=true)
  (h:ek P ρ n0 c { fr:=aW m st.fr,mem:=st.mem.take n } Q):ek P ρ n0 c st Q :=
 sg (st' := { st with fr:=aW m st.fr }) (fun E w a hs=>hs.mask m) (Ay n [] hn hf hm h)
def Da (n0:Nat) (st:St) (I:St→Prop):Prop :=
 ∃ (n:Nat) (m:List Bool),n0≤n∧(aW m st.fr).all (aG n)=true∧(st.mem.take n).all (aK n)=true∧I { fr:=aW m st.fr,mem:=st.mem.take n }
theorem uI {c:Code}:∀ {n n':Nat} {st:St},n≤n'→l5 P ρ n0 c n st Q→l5 P ρ n0 c n' st Q
 | 0,_,_,_,h=>h.elim
 | n+1,0,_,hn,_=>by omega
 | n+1,n'+1,st,hn,h=>ek.mono h fun e st' hq=>by
  cases e with
  | normal=>exact uI (by omega) hq
  | _=>exact hq
theorem dj {c:Code} (I:Nat→St→Prop) (N:Nat) (h0:Da n0 st (I N))
  (step:∀ n st,I n st→ek P ρ n0 c st (ir (fun st'=>∃ k,k<n∧Da n0 st' (I k)) Q)):ek P ρ n0 (.loop c) st Q:=by
 have key:∀ (n:Nat) (st:St),I n st→l5 P ρ n0 c (n+1) st Q:=by intro n;induction n using Nat.strongRecOn with|_ n ih =>intro st hi;refine ek.mono (step n st hi) fun e st' hq=>?_;cases e with|normal =>(obtain⟨k,hk,n1,m,h1,h2,h3,h4⟩:=hq;have:=ih k hk _ h4;have:l5 P ρ n0 c n { fr:=aW m st'.fr,mem:=st'.mem.take n1 } Q:=uI (by omega) this;cases n with|zero=>omega|succ n=>exact ou n1 m h1 h2 h3 this)|_=>exact hq
 obtain⟨n1,m,h1,h2,h3,h4⟩:=h0;exact ou n1 m h1 h2 h3 (sf (N+1) (key N _ h4))
theorem Gy {c:Code} (h:∃ n,l5 P ρ n0 c n st Q):ek P ρ n0 (.loop c) st Q:=let ⟨n,hn⟩:=h;sf n hn
end
theorem fH {α β:Type} (P:Program) (s:Sem α) (f:α→Sem β):dc P (s >>= f)=(dc P s).bind fun a=>dc P (f a):=by show dc P (s.bind f)=_;induction s with|pure a=>rfl|program k ih=>exact ih P|mark m k ih=>exact ih|_=>rfl
theorem l6 {P:Program} {T:TypeId} {d:TypeDesc} (h:P.underlying T=some d):dc P (underlying T)=some d:=by simp [underlying,fH,program,dc,h,pure]
theorem yw {P:Program} {T:TypeId} (hT:P.underlying T=some .bool) (p q:Bool):dc P (Op.equal T (.bool p) (.bool q))=some (p==q):=by show dc P (Op.equalIn (9999+1) T (.bool p) (.bool q))=_;rw [Op.equalIn,fH,l6 hT];rfl
section ints
variable (P:Program) (T:TypeId) (x y:Operand) (k:IntKind) (a b:Int)
theorem Yk:dJ P (qw .add T x y) (.sc (.int k a)) (.sc (.int k b))=some (.sc (.int k (k.wrap (a+b)))):=by simp [dJ,fe,qw,binOp,Op.intArith,eqGuard,dc,ka,bind,pure,Sem.bind]
theorem Yl:dJ P (qw .sub T x y) (.sc (.int k a)) (.sc (.int k b))=some (.sc (.int k (k.wrap (a-b)))):=by simp [dJ,fe,qw,binOp,Op.intArith,eqGuard,dc,ka,bind,pure,Sem.bind]
theorem Ym:dJ P (qw .mul T x y) (.sc (.int k a)) (.sc (.int k b))=some (.sc (.int k (k.wrap (a*b)))):=by simp [dJ,fe,qw,binOp,Op.intArith,eqGuard,dc,ka,bind,pure,Sem.bind]
theorem Yn:dJ P (qw .lss T x y) (.sc (.int k a)) (.sc (.int k b))=some (.sc (.bool (decide (a<b)))):=by simp [dJ,fe,qw,binOp,Op.intCmp,eqGuard,dc,ka,bind,pure,Sem.bind]
theorem Yo:dJ P (qw .leq T x y) (.sc (.int k a)) (.sc (.int k b))=some (.sc (.bool (decide (a≤b)))):=by simp [dJ,fe,qw,binOp,Op.intCmp,eqGuard,dc,ka,bind,pure,Sem.bind]
theorem Yp:dJ P (qw .gtr T x y) (.sc (.int k a)) (.sc (.int k b))=some (.sc (.bool (decide (b<a)))):=by simp [dJ,fe,qw,binOp,Op.intCmp,eqGuard,dc,ka,bind,pure,Sem.bind]
theorem Yq:dJ P (qw .geq T x y) (.sc (.int k a)) (.sc (.int k b))=some (.sc (.bool (decide (b≤a)))):=by simp [dJ,fe,qw,binOp,Op.intCmp,eqGuard,dc,ka,bind,pure,Sem.bind]
theorem Yr:dJ P (qw .eql T x y) (.sc (.int k a)) (.sc (.int k b))=some (.sc (.bool (decide (a=b)))):=by simp [dJ,fe,qw,binOp,Op.intCmp,eqGuard,dc,ka,bind,pure,Sem.bind];rfl
theorem Ys:dJ P (qw .neq T x y) (.sc (.int k a)) (.sc (.int k b))=some (.sc (.bool (!decide (a=b)))):=by simp [dJ,fe,qw,binOp,Op.intCmp,eqGuard,dc,ka,bind,pure,Sem.bind];rfl
theorem Yt (ts:Array TypeId) (ty:TypeId):iq P (Builtin.max_ ts ty) [.sc (.int k a),.sc (.int k b)]=some (.sc (.int k (if a<b then b else a))):=by simp [iq,pB,fe,Builtin.max_,Builtin.max2,dc,ka,bind,pure,Sem.bind]
theorem Yu (t:Bool):tW P (Op.unary .not) (.sc (.bool t))=some (.sc (.bool (!t))):=by simp [tW,fe,Op.unary,dc,ka,pure]
end ints
section strings
variable (P:Program) (T:TypeId) (x y:Operand) (a b:ByteArray)
theorem T1:dJ P (qw .eql T x y) (.sc (.string a)) (.sc (.string b))=some (.sc (.bool (a.toList==b.toList))):=by simp [dJ,fe,qw,binOp,Op.stringOp,eqGuard,dc,ka,bind,pure,Sem.bind]
theorem T3:dJ P (qw .neq T x y) (.sc (.string a)) (.sc (.string b))=some (.sc (.bool (!(a.toList==b.toList)))):=by simp [dJ,fe,qw,binOp,Op.stringOp,eqGuard,dc,ka,bind,pure,Sem.bind]
theorem T4:dJ P (qw .lss T x y) (.sc (.string a)) (.sc (.string b))=some (.sc (.bool (Op.bytesLess a.toList b.toList))):=by simp [dJ,fe,qw,binOp,Op.stringOp,eqGuard,dc,ka,bind,pure,Sem.bind]
theorem Ez (h:((a.size+b.size:Nat):Int)≤IntKind.i64.max):dJ P (qw .add T x y) (.sc (.string a)) (.sc (.string b))=some (.sc (.string (a++b))):=by
 have h':¬ ((a.size+b.size:Nat):Int)>IntKind.i64.max:=by omega
 simp only [dJ,fe,qw,binOp,Op.stringOp,if_neg h'];simp [eqGuard,dc,ka,bind,pure,Sem.bind]
theorem eR {P:Program} {T:TypeId} (hT:P.underlying T=some .string) (k:IntKind) (n:Int) (h0:0≤n) {c:UInt8} (hc:a[n.toNat]?=some c):dJ P (Instr.index T) (.sc (.string a)) (.sc (.int k n))=some (.sc (.int .u8 c.toNat)):=by simp [dJ,fe,Instr.index,asIntOf,underlying,hT,h0,hc,dc,ka,bind,pure,Sem.bind,program]
theorem gi {P:Program} {tt:Table} {T:TypeId} (hT:P.underlying T=some .string) (ty:TypeId):D7 P tt #[T] ty [.sc (.string a)]=some (.sc (.int .i64 a.size)):=by simp [D7,iq,pB,fe,Builtin.len_,underlying,hT,dc,ka,bind,pure,Sem.bind,program,goInt]
theorem Jb {P:Program} {tt:Table} {mem:List bx} {T:TypeId} (hT:P.underlying T=some .string) (k:IntKind) (n:Int) (h0:0≤n) (hn:n≤a.size) :
  D4 P tt mem T (.sc (.string a)) (some (.sc (.int k n))) none=some (.sc (.string (a.extract n.toNat a.size))):=by simp [D4,dJ,fe,Instr.sliceAt,Instr.slice,Instr.sliceBounds,Instr.sliceBound,asIntOf,underlying,hT,h0,hn,dc,ka,bind,pure,Sem.bind,program]
theorem T5 {P:Program} {T:TypeId} (hT:P.underlying T=some .bool) (p q:Bool):dJ P (qw .eql T x y) (.sc (.bool p)) (.sc (.bool q))=some (.sc (.bool (p==q))):=by
 have:dc P (do eqGuard .eql T x y (.bool p) (.bool q);binOp .eql T (.bool p) (.bool q))=some (.bool (p==q)):=by show dc P ((Op.equal T (.bool p) (.bool q)) >>= fun r=>Pure.pure (Value.bool r))=_;rw [fH,yw hT];rfl
 simp only [dJ,fe,qw,this];rfl
theorem EA {P:Program} {T:TypeId} (hT:P.underlying T=some .bool) (p q:Bool):dJ P (qw .neq T x y) (.sc (.bool p)) (.sc (.bool q))=some (.sc (.bool (!(p==q)))):=by
 have:dc P (do eqGuard .neq T x y (.bool p) (.bool q);binOp .neq T (.bool p) (.bool q))=some (.bool (!(p==q))):=by show dc P ((Op.equal T (.bool p) (.bool q)) >>= fun r=>Pure.pure (Value.bool !r))=_;rw [fH,yw hT];rfl
 simp only [dJ,fe,qw,this];rfl
theorem Ld {P:Program} {src dst:TypeId} {d:TypeDesc} {k':IntKind} (hs:P.underlying src=some d) (hd:P.underlying dst=some (.int k')) (k:IntKind) (n:Int):tW P (convert src dst) (.sc (.int k n))=some (.sc (.int k' (k'.wrap n))):=by simp [tW,fe,convert,underlying,hs,hd,Conv.intToInt,dc,ka,bind,pure,Sem.bind,program]
end strings
end Go.Eng
end
section
namespace Go.Eng
variable [bB]
open Go.RowKit (Below)
theorem ic.cut {E E':Env} {w w':World} (h:ic E w E' w') {n:Nat} (hn:∀ k,n≤k→∀ v,E.cC k v=none):ic E w (E'.cut n) w':=by
 refine⟨⟨h.le.F,fun k v t hk=>?_⟩,fun k v g e c hk=>?_,h.F,h.os,h.tape,h.output,h.size,h.heap⟩;·(have:k<n:=by (rcases bz k n with bL|gq);(·exact bL);rw [hn k gq v] at hk;cases hk);exact (if_pos this).trans (h.le.cC _ _ _ hk)
 have:E'.cC k v=some (g,e,c):=by by_cases iz:k<n;(·exact ((if_pos iz).symm.trans hk:E'.cC k v=_));have h2:(E'.cut n).cC k v=none:=if_neg iz;rw [h2] at hk;cases hk
 exact h.cC _ _ _ _ _ this
def pH (tt:Table) (rs:Array ResultVar) (st:St):Option V :=
 match nT tt st rs.toList with
 | some [v]=>some v
 | some vs=>some (.eg vs)
 | none=>none
theorem EB {P:Program} {tt:Table} (ht:TT P tt) {E:Env} {w:World} {a:Act} {st:St} (hs:de E w a st) {fn:Func} {r:V} (h:pH tt fn.results st=some r):∃ x,(results fn a.tmps).run P w = .ok x w∧cY E r x:=by
 unfold pH at h
 have run:∀ xs:List Value,(fn.results.toList.mapM (fun|.tmp t=>pure (a.tmps.getD t undef)|.cell p t=>do loadVar t (← asAddr (a.tmps.getD p undef))):Sem (List Value)).run P w = .ok xs w →
   (results fn a.tmps).run P w = .ok (if h:xs.toArray.size=1 then xs.toArray[0] else .tuple xs.toArray) w:=fun xs hx=>by
  unfold results
  rw [ar0]
  simp only [Sem.run_bind,Sem.run_map]
  erw [hx]
  rfl
 split at h;·rename_i v hv;simp only [aF] at h;subst h;obtain⟨xs,h1,h2⟩:=ot ht hs _ _ hv;obtain⟨x,ys,rfl,h3,h4⟩:=h2.of_cons;have:=h4.of_nil;subst this;exact⟨x,run _ h1,h3⟩
 ·rename_i vs dL hv;simp only [aF] at h;subst h;obtain⟨xs,h1,h2⟩:=ot ht hs _ _ hv;(have hl:xs.toArray.size≠1:=by have:=h2.1;intro he;match vs,xs,this,he with|[v],_,_,_=>exact dL v rfl|[],[],_,he=>simp at he|[],_ :: _,h,_=>simp at h|_ :: _ :: _,[],h,_=>simp at h|_ :: _ :: _,_ :: [],h,_=>simp at h|_ :: _ :: _,_ :: _ :: _,_,he=>simp at he);have h3:=run _ h1;rw [dif_neg hl] at h3;exact⟨_,h3,.eg _ _ _ (by simpa using h2.1) fun i c x hc hx=>h2.2 i c x hc (by simpa using hx)⟩
 cases h
theorem Pr {P:Program} {tt:Table} (ht:TT P tt) {f:FuncId} {fn:Func} {body:Code} {args:List V} {mem:List bx} {R:V→List bx→Prop} (hf:P.funcs[f]?=some fn) (hb:fn.body=some body)
  (gL:∀ (xs:Array Value) (w:World),(callFunc f xs).run P w = .ok (.enter f xs) w)
  (h:ek P none mem.length body (cO fn args mem) fun ex st'=>(ex = .ret∨ex = .normal)∧∃ r n,mem.length≤n∧pH tt fn.results st'=some r∧aG n r=true∧(st'.mem.take n).all (aK n)=true∧R r (st'.mem.take n)):jK P f args mem R:=by
 refine⟨gL,fun E w xs Jc hx=>Gw (n:=0) (callsIn_of_wp_marks hf hb trivial ?_)⟩;have hs:de E w { tmps:=xs++Array.replicate (fn.ntmps-xs.size) undef,defers:=[] } (cO fn args mem):=⟨Jc.F,Jc.lt,Jc.mem,Jc.top,Jc.dZ,Jc.apart,yv fn hx⟩;refine wpIn_mono (h E w Jc.top E w _ (ic.refl _ w) hs (.nil _ _ _)) ?_;rintro e a' w' ⟨E',st',h1,h2,⟨rs,hd,oO,w9⟩,he,r,n,hn,hr,hbr,Th,hR⟩;have post:LeavesInM (WF none) 0 P fn a'.tmps (fun e w'=>∃ E' x r bS,e = .returned x∧R r bS∧ic E w E' w'∧de E' w' { tmps := #[],defers:=[] } { fr:=[],mem:=bS }∧cY E' r x) a'.defers .returning w':=by rw [hd];refine qL rs w' oO (fun r hr=>(w9 r hr).2.1) fun w2 k1 k2 k3 k4 k5=>?_;have rH:=h1.Pq (fun r hr=>(w9 r hr).2) k4 k5;obtain⟨x,h3,h4⟩:=EB ht rH hr;have gE:ic E w E' w2:=⟨h2.le,h2.cC,h2.F,k1.trans h2.os,k2.trans h2.tape,k3.trans h2.output,by rw [k4];exact h2.size,fun b hb dL=>(k5 b fun pw=>by have:=(w9 b pw).1;omega).trans (h2.heap b hb dL)⟩;exact⟨x,h3,E'.cut n,x,r,_,rfl,hR,gE.cut fun k hk v=>Jc.top k (by dsimp only;omega) v,rH.bare.cut (by rfl) Th,iP h4 hbr⟩
 rcases he with rfl|rfl <;> exact post
theorem ov {P:Program} {tt:Table} (ht:TT P tt) {f:FuncId} {fn:Func} {body:Code} {args:List V} {mem:List bx} {r:V} {bS:List bx} (n:Nat) (hn:mem.length≤n) (hf:P.funcs[f]?=some fn) (hb:fn.body=some body)
  (gL:∀ (xs:Array Value) (w:World),(callFunc f xs).run P w = .ok (.enter f xs) w)
  (h:ek P none mem.length body (cO fn args mem) fun ex st'=>(ex = .ret∨ex = .normal)∧pH tt fn.results st'=some r∧aG n r=true∧(st'.mem.take n).all (aK n)=true∧bS=st'.mem.take n):bI P f args mem r bS :=
 (Pr ht hf hb gL (R:=fun r' m'=>r'=r∧m'=bS) (h.mono fun ex st' ⟨h1,h2,h3,h4,h5⟩=>⟨h1,r,n,hn,h2,h3,h4,rfl,h5.symm⟩)).det
def o7:List Tmp→List V→List V→List V
 | t :: ts,v :: vs,fr=>o7 ts vs (fr.set t v)
 | _,_,fr=>fr
theorem Db {E:Env}:∀ (ts:List Tmp) {vs:List V} {xs:List Value} {fr:List V} {tmps:Array Value},cU E vs xs→cU E fr tmps.toList→cU E (o7 ts vs fr) ((ts.zip xs).foldl (fun (tmps:Array Value) (p:Tmp×Value)=>tmps.setIfInBounds p.1 p.2) tmps).toList
 | [],vs,xs,fr,tmps,_,h=>by cases vs <;> exact h
 | t :: ts,[],xs,fr,tmps,hv,h=>by rw [hv.of_nil];exact h
 | t :: ts,v :: vs,xs,fr,tmps,hv,h=>by
  obtain⟨x,ys,rfl,h1,h2⟩:=hv.of_cons
  simp only [o7,List.zip_cons_cons,ew]
  exact Db ts h2 (by simpa using h.set t h1)
def si:Exit→Option (Option Code)
 | .normal=>some none
 | .ret=>some (some .ret)
 | .exit id=>some (some (.exit id))
 | .goto l=>some (some (.goto l))
 | _=>none
theorem vM {P:Program} {k:Nat} {fr vs:List V} {params:Array Tmp} {assign body:Code} {mem:List bx} {R:Bool→List bx→Prop} (hk:mem[k]?=some (.loop .ready none fr params assign body)) (hlen:vs.length=params.size)
  (h:∀ l,ek P (some l) mem.length assign { fr:=o7 params.toList vs fr,mem:=mem } fun ex tK=>ex = .normal∧∃ V9 p1 T6 T7,tK.mem[k]?=some (.loop .ready none V9 p1 T6 T7) ∧
   ek P (some l) mem.length body { tK with mem:=tK.mem.set k (.loop .busy none V9 p1 T6 T7) } fun ex zI=>∃ n jump s2 pe2 T8 p2 Ps Pt,mem.length≤n∧si ex=some jump∧zI.mem[k]?=some (.loop s2 pe2 T8 p2 Ps Pt) ∧
    ((zI.mem.set k (.loop (if jump.isNone then .ready else .done) jump T8 p2 Ps Pt)).take n).all (aK n)=true ∧
    R jump.isNone ((zI.mem.set k (.loop (if jump.isNone then .ready else .done) jump T8 p2 Ps Pt)).take n)) :
  MB P k vs mem R:=by
 intro E w xs l e c hs hx hb;obtain⟨l',fn,tmps,db,gD,hh,hr,hf⟩:=hs.mem k _ hk;rw [hb] at gD;cases gD;have kX:∀ {W:World} {R:Loop},W.heap[l]?=some (.loop R)→(Instr.getLoop l).run P W = .ok R W:=fun {W R} hW=>by simp [Instr.getLoop,getObj,Sem.run,hW,bind,Sem.bind,pure]
 have Gx:∀ {W:World} {R:Loop} {o:Obj},W.heap[l]?=some (.loop R)→(setObj l o).run P W = .ok () { W with heap:=W.heap.setIfInBounds l o }:=fun {W R o} hW=>by simp [setObj,Sem.run,hW]
 have Gh:xs.size=params.size:=by have:=hx.1;simp at this;omega
 refine⟨fn,(params.zip xs).foldl (fun tmps (p:Tmp×Value)=>tmps.setIfInBounds p.1 p.2) tmps,assign,body,?_,?_⟩;·simp only [Instr.yield,Sem.run_bind,kX hh,Result.andThen_ok,Gh,ne_eq,not_true_eq_false,if_false];rfl
 refine roundIn_of_wpIn trivial ?_;have qC:de E w { tmps:=(params.zip xs).foldl (fun tmps (p:Tmp×Value)=>tmps.setIfInBounds p.1 p.2) tmps,defers:=[] } { fr:=o7 params.toList vs fr,mem:=mem }:=by refine⟨hs.F,hs.lt,hs.mem,hs.top,hs.dZ,hs.apart,?_⟩;have:=Db (E:=E) params.toList hx hr;rw [← arN,Array.toList_zip];exact this
 refine wpIn_mono (h l E w hs.top E w _ (ic.refl E w) qC (.nil _ _ _)) ?_;rintro ex a1 w1 ⟨E1,tK,h1,h2,hm1,rfl,V9,p1,T6,T7,iw,h3⟩;obtain⟨l1,fn1,Wa,db1,nN,Mx,Cr,CB⟩:=h1.mem k _ iw;have gC:E1.cC k 0=some (l,0,0):=h2.le.cC _ _ _ hb;rw [gC] at nN;cases nN;have only:∀ (W:World) (o:Obj),o3 W { W with heap:=W.heap.setIfInBounds l o } l:=fun W o=>⟨rfl,rfl,rfl,by simp,fun b hb=>DY (fun e=>hb e.symm)⟩;have bL:∀ {W:World} {o:Obj},W.heap[l]?=some o→l<W.heap.size:=fun {W o} hW=>(dO.1 hW).1;have t1:=h1.Ah iw rfl (B':=.loop .busy none V9 p1 T6 T7) rfl gC CB (only w1 (.loop { state:=.busy,pending:=none,fn:=fn1,tmps:=Wa,params:=p1,assign:=T6,body:=T7,defers:=db1 })) ⟨l,fn1,Wa,db1,gC,by simp [bL Mx],Cr,CB⟩;refine⟨_,by simp [Instr.beginRound,kX Mx,Gx Mx];rfl,?_⟩;refine wpIn_mono (h3 E w hs.top E1 _ a1 (h2.trans t1.2) t1.1 ?_) ?_;·exact hm1.La t1.2
 rintro ex a2 w2 ⟨E2,zI,h4,h5,-,n,jump,s2,pe2,T8,p2,Ps,Pt,Pp,hj,kG,Th,hR⟩;obtain⟨l2,fn2,Pu,db2,vg,IN,Gj,C7⟩:=h4.mem k _ kG;have MD:E2.cC k 0=some (l,0,0):=h5.le.cC _ _ _ hb;rw [MD] at vg;cases vg;have t2:=h4.Ah kG rfl (B':=.loop (if jump.isNone then .ready else .done) jump T8 p2 Ps Pt) rfl MD C7 (only w2 (.loop { state:=if jump.isNone then .ready else .done,pending:=jump,fn:=fn2,tmps:=Pu,params:=p2,assign:=Ps,body:=Pt,defers:=db2 })) ⟨l,fn2,Pu,db2,MD,by simp [bL IN],Gj,C7⟩;have run:(Instr.endRound l jump).run P w2 = .ok (.bool jump.isNone) { w2 with heap:=w2.heap.setIfInBounds l (.loop { state:=if jump.isNone then .ready else .done,pending:=jump,fn:=fn2,tmps:=Pu,params:=p2,assign:=Ps,body:=Pt,defers:=db2 }) }:=by simp [Instr.endRound,kX IN,Gx IN]
 have fin:∃ v w',(Instr.endRound l jump).run P w2 = .ok v w'∧∃ E' b bS,Ending.returned v = .returned (.bool b)∧R b bS∧ic E w E' w'∧de E' w' { tmps := #[],defers:=[] } { fr:=[],mem:=bS } := ⟨_,_,run,E2.cut n,_,_,rfl,hR,(h5.trans t2.2).cut (fun k hk v=>hs.top k (fX Pp hk) v),t2.1.bare.cut (by rfl) Th⟩;cases ex <;> simp only [si,aF,reduceCtorEq] at hj <;> subst hj <;> exact fin
theorem sj {P:Program} {k:Nat} {fr vs:List V} {params:Array Tmp} {assign body:Code} {mem bS:List bx} {b:Bool} (hk:mem[k]?=some (.loop .ready none fr params assign body)) (hlen:vs.length=params.size)
  (h:∀ l,ek P (some l) mem.length assign { fr:=o7 params.toList vs fr,mem:=mem } fun ex tK=>ex = .normal∧tK.mem[k]?=some (.loop .ready none fr params assign body) ∧
   ek P (some l) mem.length body { tK with mem:=tK.mem.set k (.loop .busy none fr params assign body) } fun ex zI=>∃ jump,si ex=some jump∧b=jump.isNone∧zI.mem[k]?=some (.loop .busy none fr params assign body) ∧
    ((zI.mem.set k (.loop (if jump.isNone then .ready else .done) jump fr params assign body)).take mem.length).all (aK mem.length)=true ∧
    bS=(zI.mem.set k (.loop (if jump.isNone then .ready else .done) jump fr params assign body)).take mem.length) :
  IS P k vs mem b bS :=
 (vM hk hlen (R:=fun b' m'=>b'=b∧m'=bS) fun l=>(h l).mono fun ex tK ⟨h1,h2,h3⟩=>⟨h1,_,_,_,_,h2,h3.mono fun ex zI ⟨j,h4,h5,h6,h7,h8⟩=>⟨_,j,_,_,_,_,_,_,aB _,h4,h6,h7,h5.symm,h8.symm⟩⟩).det
theorem sk {P:Program} {n0:Nat} {st:St} {Q:Exit→St→Prop} {f:Operand} {params:Array Tmp} {assign body:Code} {g:FuncId} {vs:List V} {R:V→List bx→Prop} (hc:di (st.eval f) [.j9 st.mem.length]=some (g,vs))
  (Tn:jK P g vs (st.mem++[.loop .ready none st.fr params assign body]) R)
  (hq:∀ r y2,R r y2→∃ s nP fr' To Tp Tq,y2[st.mem.length]?=some (.loop s nP fr' To Tp Tq)∧s ≠ .busy∧(match nP with|none=>Q .normal { st with mem:=y2.set st.mem.length .dead }|some c=>ek P none n0 c { st with mem:=y2.set st.mem.length .dead } Q)) :
  ek P none n0 (.rangeFunc f params assign body) st Q:=fun E0 w0 h0 E w a he hs oq=>by
 refine wpIn_rangeFunc fun fn _=>?_
 let w1:World:=w.alloc (.deferred (some []))
 let L:Loop := { state:=.ready,pending:=none,fn:=fn,tmps:=a.tmps,params:=params,assign:=assign,body:=body,defers:=w.heap.size }
 let w2:World:=w1.alloc (.loop L)
 have iz:∀ v,E.cC st.mem.length v=none:=hs.top _ (aB _)
 have hle:E.le (E.with st.mem.length 0 (w.heap.size+1,0,0)):=Env.mQ (iz 0) _
 have ft:(E.with st.mem.length 0 (w.heap.size+1,0,0)).cC st.mem.length 0=some (w.heap.size+1,0,0):=if_pos ⟨rfl,rfl⟩
 have gY:∀ k v,¬ (k=st.mem.length∧v=0)→(E.with st.mem.length 0 (w.heap.size+1,0,0)).cC k v=E.cC k v:=fun k v h=>if_neg h
 have hold:∀ b,b<w.heap.size→w2.heap[b]?=w.heap[b]?:=fun b hb=>(ed w1 _ b (by simp [w1];omega)).trans (ed w _ b hb)
 have ix:w2.heap[w.heap.size+1]?=some (.loop L):=by
  have:w1.heap.size=w.heap.size+1:=by simp [w1]
  show (w1.alloc (.loop L)).heap[w.heap.size+1]?=_
  rw [← this];exact heap_alloc_new w1 _
 have gE:ic E w (E.with st.mem.length 0 (w.heap.size+1,0,0)) w2:=by
  refine⟨hle,fun k v g e c hk=>?_,fun ad x hx=>.inl hx,rfl,rfl,rfl,by simp [w2,w1];omega,fun b hb _=>hold b hb⟩
  by_cases fJ:k=st.mem.length∧v=0
  ·obtain⟨rfl,rfl⟩:=fJ;rw [ft] at hk;cases hk;exact .inr (by omega)
  rw [gY k v fJ] at hk;exact .inl ⟨_,_,_,_,hk⟩
 have hFn:∀ o,E.F ⟨w.heap.size+1,o,none⟩=none:=fun o=>by
  cases hx:E.F ⟨w.heap.size+1,o,none⟩ with
  | none=>rfl
  | some x=>have:=World.block_lt_of_cell? w _ (hs.F _ _ hx);simp at this;omega
 have rH:de (E.with st.mem.length 0 (w.heap.size+1,0,0)) w2 { tmps := #[],defers:=[] } { fr:=[],mem:=st.mem++[.loop .ready none st.fr params assign body] }:=by
  have kX:∀ {k:Nat} {B:bx},(st.mem++[bx.loop .ready none st.fr params assign body])[k]?=some B→(k<st.mem.length∧st.mem[k]?=some B)∨(k=st.mem.length∧B = .loop .ready none st.fr params assign body):=fun {k B} h=>by
   rw [oV] at h
   split at h
   ·rename_i bL;exact .inl ⟨bL,h⟩
   have ME:k-st.mem.length=0:=by
    rcases ark (k-st.mem.length) with h0|h0
    ·exact h0
    rw [ec (by simp;omega)] at h;cases h
   rw [ME] at h;simp at h
   exact .inr ⟨by omega,h.symm⟩
  refine⟨fun ad x hx=>?_,fun k v g e c hk=>?_,fun k B hk=>?_,fun k hk v=>?_,fun k B hk v hv=>?_,fun k k' v v' g e1 c1 e2 c2 h5 h6=>?_,.nil _⟩
  ·have hc:=hs.F ad x hx
   rw [← hc];simp [World.cell?,hold _ (World.block_lt_of_cell? w ad hc)]
  ·by_cases fJ:k=st.mem.length∧v=0
   ·obtain⟨rfl,rfl⟩:=fJ;rw [ft] at hk;cases hk;simp [w2,w1]
   rw [gY k v fJ] at hk;have:=hs.lt _ _ _ _ _ hk;simp [w2,w1];omega
  ·rcases kX hk with ⟨bL,lY⟩|⟨rfl,rfl⟩
   ·exact (hs.mem k B lY).mono hle (fun v h=>by rw [gY k v (by omega)];exact h) (fun g e c h=>hold g (hs.lt _ _ _ _ _ h)) fun _ _ _ _ _ h=>h
   exact⟨w.heap.size+1,fn,a.tmps,w.heap.size,ft,ix,hs.fr.mono hle,hFn⟩
  ·dsimp only at hk
   simp at hk
   rw [gY k v (by omega)];exact hs.top k (by omega) v
  ·rcases kX hk with ⟨bL,lY⟩|⟨rfl,rfl⟩
   ·rw [gY k v (by omega)];exact hs.dZ k B lY v hv
   rw [gY _ v (by simp [bx.dZ] at hv;omega)];exact iz v
  by_cases fJ:k=st.mem.length∧v=0 <;> by_cases Ed:k'=st.mem.length∧v'=0
  ·rw [fJ.1,Ed.1]
  ·obtain⟨rfl,rfl⟩:=fJ;rw [ft] at h5;cases h5;rw [gY k' _ Ed] at h6;have:=hs.lt _ _ _ _ _ h6;omega
  ·obtain⟨rfl,rfl⟩:=Ed;rw [ft] at h6;cases h6;rw [gY k _ fJ] at h5;have:=hs.lt _ _ _ _ _ h5;omega
  rw [gY k _ fJ] at h5;rw [gY k' _ Ed] at h6
  exact hs.apart _ _ _ _ _ _ _ _ _ h5 h6
 have OI:cU (E.with st.mem.length 0 (w.heap.size+1,0,0)) [.j9 st.mem.length] (#[Value.func (.yield (w.heap.size+1)) #[] #[]]:Array Value).toList:=.cons (.j9 _ _ _ 0 0 ft) (.nil _)
 obtain⟨d,ys,hy,TX,Oq⟩:=Aw (P:=P) (w:=w2) ((hs.eval f).mono hle) OI hc
 have aiH:=oq.La gE
 refine⟨w.heap.size+1,[{ target:=.collected w.heap.size,args := #[] }],w2,d,w2,g,ys,w2,?_,?_,fun _ _=>trivial,Oq.trans (Tn.1 ys w2),fun h=>by simp [WF] at h,?_⟩
 ·exact run_enterLoop_outer _ _ _ _ _
 ·refine Eq.trans ?_ TX
  simp only [rangeCall,resolve]
  simp [Act.eval]
 refine Ax ((Tn.2 _ w2 ys rH hy).mono ?_)
 rintro e w3 ⟨E3,x,r,y2,rfl,hRR,Jd,FX,-⟩
 obtain⟨s,nP,fr',To,Tp,Tq,T9,ac3,Wb⟩:=hq r y2 hRR
 obtain⟨l3,fn3,Le,db3,jW,hh3,hr3,hf3⟩:=FX.mem _ _ T9
 have ac4:E3.cC st.mem.length 0=some (w.heap.size+1,0,0):=Jd.le.cC _ _ _ ft
 rw [ac4] at jW;cases jW
 have an0:w.heap.size+1<w3.heap.size:=(dO.1 hh3).1
 have hsb:(s==LoopState.busy)=false:=by cases s <;> first|rfl|exact absurd rfl ac3
 have aiJ:=hs.Gs FX (Env.le_trans hle Jd.le)
 have t:=aiJ.Ah T9 rfl (B':=.dead) rfl ac4 hf3 (w' := { w3 with heap:=w3.heap.setIfInBounds (w.heap.size+1) (.loop { state:=.exhausted,pending:=nP,fn:=fn3,tmps:=Le,params:=To,assign:=Tp,body:=Tq,defers:=db3 }) })
  ⟨rfl,rfl,rfl,by simp,fun b hb=>DY (fun e=>hb e.symm)⟩ trivial
 have MF:ic E0 w0 E3 _:=(he.trans (gE.trans Jd)).trans t.2
 have ac6:Marks E3 { w3 with heap:=w3.heap.setIfInBounds (w.heap.size+1) (.loop { state:=.exhausted,pending:=nP,fn:=fn3,tmps:=Le,params:=To,assign:=Tp,body:=Tq,defers:=db3 }) } w0.heap.size ({ target:=.collected w.heap.size,args := #[] } :: a.defers):=by
  obtain⟨rs,m1,m2,m3⟩:=(aiH.La Jd).La t.2
  have hd0:w2.heap[w.heap.size]?=some (.deferred (some [])):=(ed w1 _ _ (by simp [w1])).trans (heap_alloc_new w _)
  have ua:∀ k v e c,(E.with st.mem.length 0 (w.heap.size+1,0,0)).cC k v≠some (w.heap.size,e,c):=fun k v e c hk=>by
   by_cases fJ:k=st.mem.length∧v=0
   ·obtain⟨rfl,rfl⟩:=fJ;rw [ft] at hk;simp at hk
   rw [gY k v fJ] at hk;have:=hs.lt _ _ _ _ _ hk;omega
  have one:Marks (E.with st.mem.length 0 (w.heap.size+1,0,0)) w2 w0.heap.size [{ target:=.collected w.heap.size,args := #[] }]:=⟨[w.heap.size],rfl,by simp,fun r hr=>by
   simp at hr;subst hr;exact⟨he.size,hd0,ua⟩⟩
  obtain⟨mZ,n1,n2,n3⟩:=(one.La Jd).La t.2
  have X2:mZ=[w.heap.size]:=by
   match mZ,n1 with
   | [r],h=>simp at h;rw [h]
   | [],h=>simp at h
   | _ :: _ :: _,h=>simp at h
  subst X2
  refine⟨w.heap.size :: rs,by rw [m1];rfl,?_,fun r hr=>?_⟩
  ·rw [ar6]
   refine⟨fun pw=>?_,m2⟩
   obtain⟨rs0,q1,q2,q3⟩:=oq
   have CX:rs=rs0:=by
    have:=m1.symm.trans q1
    have inj:∀ (xs ys:List Nat),xs.map (fun r=>({ target:=.collected r,args := #[] }:Deferred))=ys.map (fun r => { target:=.collected r,args := #[] })→xs=ys:=by
     intro xs
     induction xs with
     | nil=>intro ys h;cases ys with|nil=>rfl|cons y ys=>simp at h
     | cons x xs ih=>intro ys h;cases ys with|nil=>simp at h|cons y ys=>simp at h;rw [h.1,ih ys (by simpa using h.2)]
    exact inj _ _ this
   subst CX
   have:=(q3 _ pw).2.1
   rw [arn (aB _)] at this;cases this
  rcases cI.1 hr with rfl|hr
  ·exact n3 _ (by simp)
  exact m3 r hr
 refine⟨nP,{ w3 with heap:=w3.heap.setIfInBounds (w.heap.size+1) (.loop { state:=.exhausted,pending:=nP,fn:=fn3,tmps:=Le,params:=To,assign:=Tp,body:=Tq,defers:=db3 }) },?_,?_⟩
 ·have hg:(Instr.getLoop (w.heap.size+1)).run P w3 = .ok { state:=s,pending:=nP,fn:=fn3,tmps:=Le,params:=To,assign:=Tp,body:=Tq,defers:=db3 } w3:=by
   simp [Instr.getLoop,getObj,Sem.run,hh3,bind,Sem.bind,pure]
  simp only [Instr.endLoop,Sem.run_bind,hg,Result.andThen_ok,hsb,bF,if_false]
  simp [setObj,Sem.run,hh3]
 cases nP with
 | none=>exact⟨E3,_,⟨t.1.F,t.1.lt,t.1.mem,t.1.top,t.1.dZ,t.1.apart,t.1.fr⟩,MF,ac6,Wb⟩
 | some c=>exact Wb E0 w0 h0 E3 _ { a with defers := { target:=.collected w.heap.size,args := #[] } :: a.defers } MF ⟨t.1.F,t.1.lt,t.1.mem,t.1.top,t.1.dZ,t.1.apart,t.1.fr⟩ ac6
theorem pI {P:Program} {n0:Nat} {st:St} {Q:Exit→St→Prop} {f:Operand} {params:Array Tmp} {assign body:Code} {g:FuncId} {vs:List V} {r:V} {y2:List bx} (hc:di (st.eval f) [.j9 st.mem.length]=some (g,vs))
  (Tn:bI P g vs (st.mem++[.loop .ready none st.fr params assign body]) r y2)
  (hq:∃ s nP fr' To Tp Tq,y2[st.mem.length]?=some (.loop s nP fr' To Tp Tq)∧s ≠ .busy∧(match nP with|none=>Q .normal { st with mem:=y2.set st.mem.length .dead }|some c=>ek P none n0 c { st with mem:=y2.set st.mem.length .dead } Q)) :
  ek P none n0 (.rangeFunc f params assign body) st Q :=
 sk hc Tn.rel fun r' m' ⟨_,h2⟩=>by subst h2;exact hq
end Go.Eng
end
section
namespace Go.Eng
variable [bB]
open Go.RowKit (Below)
inductive Cls where
 | n|r|a|w|s|b|z|e
 deriving DecidableEq
structure Pl where
 cls:Cls
 key:Nat
 mask:List Nat
 Wc:List Nat:=[]
 abs:List Nat:=[]
abbrev pN:Pl:=⟨.n,0,[],[],[]⟩
abbrev pR:Pl:=⟨.r,0,[],[],[]⟩
abbrev mu (a:List Nat):Pl:=⟨.n,0,[],a,[]⟩
abbrev jO (a:List Nat):Pl:=⟨.r,0,[],a,[]⟩
def Gz (m:List bx) (k:Nat):List bx:=match m[k]? with
 | some B=>if B.dZ=0 then m.set k .dead else m
 | none=>m
def ez:List Nat→List bx→List bx
 | [],m=>m
 | k :: r,m=>ez r (Gz m k)
def l7 (b:Bool) (B:bx):bx:=if b=true∧B.dZ=0 then .dead else B
theorem MG (m:List bx) (k q:Nat):(Gz m k)[q]?=(m[q]?).map (l7 (q==k)):=by
 unfold Gz;by_cases hq:q=k;·subst hq;cases h:m[q]? with|none=>simp [h]|some B =>have bL:q<m.length:=(az.1 h).1;simp only [beq_self_eq_true,cx,l7,true_and];split;(·rename_i hv;simp [bX,bL]);rename_i hv;exact h
 have hb:(q==k)=false:=by simpa using hq
 have hid:(m[q]?).map (l7 (q==k))=m[q]?:=by rw [hb];cases m[q]? <;> simp [l7]
 rw [hid];cases h:m[k]? with|none=>rfl|some B =>dsimp only;split;(·exact cP (fun e=>hq e.symm));rfl
theorem CC (b c:Bool) (B:bx):l7 b (l7 c B)=l7 (b||c) B:=by have hd:bx.dead.dZ=0:=rfl;unfold l7;cases b <;> cases c <;> by_cases hv:B.dZ=0 <;> simp [hv,hd]
theorem mI:∀ (ks:List Nat) (m:List bx) (q:Nat),(ez ks m)[q]?=(m[q]?).map (l7 (ks.contains q))
 | [],m,q=>by cases h:m[q]? <;> simp [ez,h,l7]
 | k :: r,m,q=>by
  rw [ez,mI r,MG]
  cases m[q]? with
  | none=>rfl
  | some B =>
   simp only [cx,CC,List.contains_cons]
   rw [Bool.or_comm]
theorem vN:∀ (ks:List Nat) (m:List bx),(ez ks m).length=m.length
 | [],m=>rfl
 | k :: r,m=>by
  rw [ez,vN r]
  unfold Gz
  split
  ·split <;> simp
  rfl
theorem n8 {ks:List Nat} {m:List bx} {k:Nat} {B0 B:bx} (hk:k∈ks) (hm:m[k]?=some B0) (h0:B0.dZ=0) (hB:B.dZ=0):ez ks (m.set k B)=ez ks m:=by
 refine dM fun q=>?_;rw [mI,mI];by_cases hq:q=k;·subst hq;have bL:q<m.length:=(az.1 hm).1;(have hc:ks.contains q=true:=by simpa using hk);rw [bX,if_pos rfl,if_pos bL,hm];simp [l7,hB,h0,hk]
 rw [cP (fun e=>hq e.symm)]
theorem de.ez {E:Env} {w:World} {a:Act} {st:St} (hs:de E w a st) (ks:List Nat):de E w a { st with mem:=Eng.ez ks st.mem }:=by
 have get:∀ {k:Nat} {B:bx},(Eng.ez ks st.mem)[k]?=some B→∃ B0:bx,st.mem[k]?=some B0∧(B=B0∨B=bx.dead∧B0.dZ=0):=fun {k B} h=>by rw [mI] at h;cases h0:st.mem[k]? with|none=>rw [h0] at h;cases h|some B0 =>rw [h0] at h;simp only [cx,aF] at h;refine⟨B0,rfl,?_⟩;unfold l7 at h;split at h;(·rename_i hc;exact .inr ⟨h.symm,hc.2⟩);exact .inl h.symm
 refine⟨hs.F,hs.lt,fun k B hk=>?_,fun k hk=>hs.top k (by simpa [vN] using hk),fun k B hk v hv=>?_,hs.apart,hs.fr⟩;·obtain⟨B0,h0,rfl|⟨rfl,-⟩⟩:=get hk;(·exact hs.mem k _ h0);trivial
 obtain⟨B0,h0,rfl|⟨rfl,h1⟩⟩:=get hk;·exact hs.dZ k _ h0 v hv
 exact hs.dZ k _ h0 v (by rw [h1];exact hv)
def EC (P:Program) (f:FuncId) (vs:List V) (r:V):Prop:=b8 P f vs r∨r7 P f vs r
def ac8 (P:Program) (f:FuncId) (vs:List V) (Q:V→Prop):Prop:=∃ vs' r,iE [] vs=some vs'∧EC P f vs' r∧Q r
def y3 (P:Program) (tt:Table) (o:Oper) (st:St):Option V :=
 match o.op with
 | .build T parts=>nB P tt T parts.toList st.eval
 | .buildSlice T len parts=>match xk tt T len parts.toList st.eval with
  | some (_,rs)=>some (.slice rs)
  | none=>none
 | _=>iY P tt st o
def tL (P:Program) (tt:Table) (o:Oper) (st:St) (Q:V→Prop):Prop :=
 match o.op with
 | .call { callee:=.value f,args:=xs,.. }=>match di (st.eval f) (xs.toList.map st.eval) with
  | some (g,vs)=>ac8 P g vs Q
  | none=>False
 | _=>match y3 P tt o st with
  | some v=>Q v
  | none=>False
def Lf (P:Program) (f:FuncId) (vs:List V) (st:St) (dst:Option Tmp) (Q:St→Prop):Prop:=∃ vs' r,iE [] vs=some vs'∧EC P f vs' r∧Q (st.put dst r)
def qb (P:Program) (tt:Table) (o:Oper) (CD st:St) (Q:St→Prop):Prop :=
 match o.op with
 | .call { callee:=.value f,args:=xs,.. }=>match di (CD.eval f) (xs.toList.map CD.eval) with
  | some (g,vs)=>Lf P g vs st o.dst Q
  | none=>False
 | _=>match y3 P tt o CD with
  | some v=>Q (st.put o.dst v)
  | none=>False
theorem zJ {P:Program} {tt:Table} {o:Oper} {CD st:St} {Q:St→Prop}:qb P tt o CD st Q=tL P tt o CD fun v=>Q (st.put o.dst v):=by unfold qb tL;split <;> rfl
def hD (tt:Table) (o:Oper) (key:Nat) (st:St):Option (bx×V) :=
 match o.op with
 | .alloc T=>match tt T with
  | some i=>some (.box (i.zero.map V.sc),.ptr key 0)
  | none=>none
 | .box _ x=>match l4 (st.eval x) with
  | some cs=>some (.box cs,.ptr key 0)
  | none=>none
 | .buildSlice T len parts=>match xk tt T len parts.toList st.eval with
  | some (size,rs)=>some (.rows 0 size rs,.ms key 0 0 len)
  | none=>none
 | .makeMap _ none=>some (.map [] 0,.mp key)
 | .makeSlice T l c=>match yl tt T (st.eval l) (st.eval c) with
  | some (size,rs,_)=>some (.rows 0 size rs,.ms key 0 0 rs.length)
  | none=>none
 | _=>none
def oQ (P:Program) (tt:Table) (key:Nat) (o:Oper) (st:St):Option (List bx×V) :=
 match o.op with
 | .store T p x=>match nz tt st.mem T (st.eval p) (st.eval x) with
  | some bS=>some (bS,.sc undef)
  | none=>none
 | .call { callee:=.builtin .append,args:=xs,argTypes:=ts }=>match xs.toList.map st.eval with
  | [s,x]=>match fh tt st.mem ts.toList s x with
   | some (size,rY,rows)=>some (eM st.mem key size rows rY)
   | none=>none
  | _=>none
 | .mapUpdate T m k x=>match dU P st.mem T (st.eval m) (st.eval k) (st.eval x) with
  | some bS=>some (bS,.sc undef)
  | none=>none
 | .insert T m k x=>match dU P st.mem T (st.eval m) (st.eval k) (st.eval x) with
  | some bS=>some (bS,.sc undef)
  | none=>none
 | _=>none
def rI (tt:Table) (key:Nat) (o:Oper) (st:St):Option (List bx) :=
 match o.op with
 | .store T p x=>match st.eval p with
  | .ptr b off=>if b=key then nz tt st.mem T (.ptr key off) (st.eval x) else none
  | _=>none
 | _=>none
def isHole (mem:List bx) (k:Nat):Bool:=match mem[k]? with|some .hole=>true|_=>false
theorem gH {mem:List bx} {k:Nat}:isHole mem k=true↔mem[k]?=some .hole:=by
 unfold isHole;split;·rename_i h;simp [h]
 rename_i h;simp;exact fun e=>h e
def AB (P:Program) (f:FuncId) (vs:List V) (e:Nat) (rs:List V):Prop:=∃ v,bI P f vs [] (.ms 0 v 0 rs.length) [.rows v e rs]
def nd (P:Program) (o:Oper) (ev:Operand→V) (Q:Nat→List V→Prop):Prop :=
 match o.op with
 | .call { callee:=.value f,args:=xs,.. }=>match di (ev f) (xs.toList.map ev) with
  | some (g,vs)=>∃ vs' e rs,iE [] vs=some vs'∧AB P g vs' e rs∧Q e rs
  | none=>False
 | _=>False
theorem n9 {P:Program} {o:Oper} {ev:Operand→V} {Q:Nat→List V→Prop}:nd P o ev Q↔∃ e rs,nd P o ev (fun e' mZ=>e'=e∧mZ=rs)∧Q e rs:=by
 unfold nd;split;·split;(·constructor;(·rintro⟨vs',e,rs,h1,h2,h3⟩;exact⟨e,rs,⟨vs',e,rs,h1,h2,rfl,rfl⟩,h3⟩);rintro⟨e,rs,⟨vs',e',mZ,h1,h2,h3,h4⟩,h5⟩;subst h3;subst h4;exact⟨vs',_,_,h1,h2,h5⟩);exact⟨fun h=>h.elim,fun ⟨_,_,h,_⟩=>h⟩
 exact⟨fun h=>h.elim,fun ⟨_,_,h,_⟩=>h⟩
def AE (st:St) (key:Nat) (dst:Option Tmp) (e:Nat) (rs:List V):St := { st with mem:=st.mem.set key (.rows 0 e rs) }.put dst (.ms key 0 0 rs.length)
def ac9 (P:Program) (f:FuncId) (vs:List V) (st:St) (key:Nat) (dst:Option Tmp) (Q:St→Prop):Prop:=∃ vs' e rs,iE [] vs=some vs'∧AB P f vs' e rs∧Q (AE st key dst e rs)
def uJ (P:Program) (o:Oper) (key:Nat) (st:St) (Q:St→Prop):Prop :=
 match o.op with
 | .call { callee:=.value f,args:=xs,.. }=>match di (st.eval f) (xs.toList.map st.eval) with
  | some (g,vs)=>ac9 P g vs st key o.dst Q
  | none=>False
 | _=>False
theorem Dd {P:Program} {o:Oper} {key:Nat} {st:St} {Q:St→Prop}:uJ P o key st Q=nd P o st.eval fun e rs=>Q (AE st key o.dst e rs):=by unfold uJ nd;split <;> rfl
def eY:bx→bx
 | .box cs=>.box cs
 | _=>.dead
def ow (tt:Table) (o:Oper) (st:St):Option V :=
 match o.op with
 | .load T x=>pV tt (st.mem.map eY) T (st.eval x)
 | _=>none
def isApp (o:Oper):Bool:=match o.op with|.call { callee:=.builtin .append,.. }=>true|_=>false
def sn (o:Oper):Bool:=match o.op with|.alloc _=>false|.box _ _=>false|_=>true
theorem xt (c:Bool) (B:bx):eY (l7 c B)=if c=true then .dead else eY B:=by unfold l7;cases c with|false=>simp|true =>rw [if_pos rfl];by_cases hv:B.dZ=0;(·rw [if_pos ⟨rfl,hv⟩];rfl);rw [if_neg (fun h=>hv h.2)];cases B <;> first|rfl|exact absurd rfl hv
theorem ED {tt:Table} {o:Oper} {st:St} {v:V} {ks:List Nat} (h:ow tt o { st with mem:=ez ks st.mem }=some v):ow tt o st=some v:=by
 unfold ow at h ⊢;split at h;·rename_i T x ho;(try simp only [ho]);(have e:St.eval { st with mem:=ez ks st.mem } x=st.eval x:=by cases x <;> rfl);rw [e] at h;dsimp only at h;unfold pV at h ⊢;split;(·rename_i b off he;rw [he] at h;dsimp only at h;rw [ak,mI] at h;rw [ak];cases hb:st.mem[b]? with|none=>rw [hb] at h;simp at h|some B =>rw [hb] at h;simp only [cx] at h ⊢;rw [xt] at h;by_cases hc:ks.contains b=true;(·rw [if_pos hc] at h;cases h);rw [if_neg hc] at h;exact h);(·rename_i b dZ i off he;rw [he] at h;dsimp only at h;(have:rowOf ((ez ks st.mem).map eY) b dZ i=none:=by unfold rowOf;rw [ak];cases hb:(ez ks st.mem)[b]? with|none=>rfl|some B=>cases B <;> rfl);rw [this] at h;cases h);(·rename_i cs he;rw [he] at h;exact h);rename_i h1 h2 h3;split at h;(·rename_i he;exact absurd he (h1 _ _));(·rename_i he;exact absurd he (h2 _ _ _ _));(·rename_i he;exact absurd he (h3 _));cases h
 cases h
theorem De {ks:List Nat} {m m':List bx} (h:m.map eY=m'.map eY):(ez ks m).map eY=(ez ks m').map eY:=by apply dM;intro q;have hq:=congrArg (fun l=>l[q]?) h;simp only [ak] at hq;rw [ak,ak,mI,mI];cases h1:m[q]? with|none =>(rw [h1] at hq;cases h2:m'[q]? with|none=>rfl|some B=>rw [h2] at hq;cases hq)|some A =>rw [h1] at hq;cases h2:m'[q]? with|none=>rw [h2] at hq;cases hq|some B =>rw [h2] at hq;simp only [cx,aF] at hq ⊢;rw [xt,xt,hq]
theorem MH {P:Program} {tt:Table} {o:Oper} {st:St} {v:V} (h:ow tt o st=some v):iY P tt st o=some v:=by
 unfold ow at h;split at h;·rename_i T x ho;unfold iY;rw [ho];dsimp only;unfold pV at h ⊢;split;(·rename_i b off he;rw [he] at h;dsimp only at h;rw [ak] at h;cases hb:st.mem[b]? with|none=>rw [hb] at h;simp at h|some B =>rw [hb] at h;cases B <;> simp [eY] at h <;> exact h);(·rename_i b dZ i off he;rw [he] at h;dsimp only at h;(have:rowOf (st.mem.map eY) b dZ i=none:=by unfold rowOf;rw [ak];cases hb:st.mem[b]? with|none=>rfl|some B=>cases B <;> rfl);rw [this] at h;cases h);(·rename_i cs he;rw [he] at h;exact h);rename_i h1 h2 h3;split at h;(·rename_i he;exact absurd he (h1 _ _));(·rename_i he;exact absurd he (h2 _ _ _ _));(·rename_i he;exact absurd he (h3 _));cases h
 cases h
theorem so {tt:Table} {mem:List bx} {ts:List TypeId} {s x:V} {size b dZ:Nat} {rows:List V} (h:fh tt mem ts s x=some (size,some (b,dZ),rows)):∃ e rs,mem[b]?=some (.rows dZ e rs):=by
 have hl:∀ {sz:Nat} {rs:List V},jb mem sz s=some (some (b,dZ),rs)→∃ e rs,mem[b]?=some (.rows dZ e rs):=fun {sz rs} h=>by unfold jb at h;split at h;(·cases h);(·split at h <;> cases h);(·split at h;(·rename_i v' e mZ hb;split at h;(·rename_i hc;simp only [aF,dy] at h;obtain⟨⟨rfl,rfl⟩,rfl⟩:=h;exact⟨_,_,by rw [hb,hc.1]⟩);cases h);cases h);cases h
 unfold fh at h;split at h
 ·split at h
  ·split at h
   ·first
    |skip
     split at h
     ·split at h
      ·split at h
       ·rename_i rY rs hlr
        split at h
        ·split at h
         ·split at h
          case isFalse=>cases h
          simp only [aF,dy] at h
          obtain⟨-,rfl,-⟩:=h
          exact hl hlr
         cases h
        cases h
       cases h
      cases h
     cases h
   cases h
  cases h
 cases h
theorem Pv {P:Program} {tt:Table} {key:Nat} {o:Oper} {st:St} {m:List bx} {v:V} (ha:isApp o=true) (hh:st.mem[key]?=some .hole) (h:oQ P tt key o st=some (m,v)):m.map eY=st.mem.map eY:=by
 have Gx:∀ (k:Nat) (B0 B:bx),st.mem[k]?=some B0→eY B=eY B0→(st.mem.set k B).map eY=st.mem.map eY:=fun k B0 B h0 hB=>by apply dM;intro q;rw [ak,ak,bX];split;(·rename_i hq;subst hq;rw [if_pos (az.1 h0).1,h0,cx,cx,hB]);rfl
 unfold isApp at ha;split at ha;·rename_i ho;unfold oQ at h;rw [ho] at h;dsimp only at h;split at h;(·split at h;(·rename_i size rY rows Je;simp only [aF] at h;cases rY with|none =>simp only [eM,dy] at h;obtain⟨rfl,-⟩:=h;unfold dm;rw [if_pos (az.1 hh).1];exact Gx _ _ _ hh rfl|some p =>obtain⟨b,dZ⟩:=p;simp only [eM,dy] at h;obtain⟨rfl,-⟩:=h;(have hb:∃ e rs,st.mem[b]?=some (.rows dZ e rs):=by exact so Je);obtain⟨e,rs,hb⟩:=hb;exact Gx _ _ _ hb rfl);cases h);cases h
 cases ha
def o8 (P:Program) (o:Oper) (st:St) (Q:St→Prop):Prop :=
 match o.op with
 | .call { callee:=.value f,args:=xs,.. }=>match di (st.eval f) (xs.toList.map st.eval) with
  | some (g,vs)=>(∃ vs' r,iE st.mem vs=some vs'∧b8 P g vs' r∧Q ({ st with mem:=iG st.mem (vs.flatMap fP) r }.put o.dst r)) ∨
   ∃ r m',bI P g vs st.mem r m'∧Q ({ st with mem:=m' }.put o.dst r)
  | none=>False
 | _=>False
theorem AF {P:Program} {o:Oper} {st:St} {K K':St→Prop} (h:o8 P o st K) (hk:∀ s,K s→K' s):o8 P o st K':=by
 unfold o8 at h ⊢;split at h;·split at h;(·(rcases h with ⟨vs',r,h1,h2,h3⟩|⟨r,m',h1,h2⟩);(·exact .inl ⟨vs',r,h1,h2,hk _ h3⟩);exact .inr ⟨r,m',h1,hk _ h2⟩);exact h.elim
 exact h.elim
def nh:bx→Bool
 | .hole=>false
 | _=>true
def Pw (fl:Bool) (P:Program) (g:FuncId) (vs:List V) (k:Nat) (st:St) (dst:Option Tmp) (Q:St→Prop):Prop :=
 ∃ v B0 B,B0.dZ=0∧B.dZ=0∧st.mem[k]?=some B0∧(bI P g vs st.mem v (st.mem.set k B)∧(fl=true→nh B=true∧∀ mem:List bx,mem[k]?=some B0→bI P g vs mem v (mem.set k B)))∧Q ({ st with mem:=st.mem.set k B }.put dst v)
def vO (fl:Bool) (P:Program) (tt:Table) (o:Oper) (k:Nat) (st:St) (Q:St→Prop):Prop :=
 match o.op with
 | .call { callee:=.value f,args:=xs,.. }=>match di (st.eval f) (xs.toList.map st.eval) with
  | some (g,vs)=>Pw fl P g vs k st o.dst Q
  | none=>False
 | _=>match rI tt k o st with
  | some m=>Q ({ st with mem:=m }.put o.dst (.sc undef))
  | none=>False
def AH (fl:Bool) (P:Program) (tt:Table) (o:Oper) (k:Nat) (st:St) (v:V) (m:List bx):Prop :=
 match o.op with
 | .call { callee:=.value f,args:=xs,.. }=>match di (st.eval f) (xs.toList.map st.eval) with
  | some (g,vs)=>∃ B0 B,B0.dZ=0∧B.dZ=0∧st.mem[k]?=some B0∧(bI P g vs st.mem v (st.mem.set k B)∧(fl=true→nh B=true∧∀ mem:List bx,mem[k]?=some B0→bI P g vs mem v (mem.set k B)))∧m=st.mem.set k B
  | none=>False
 | _=>v = .sc undef∧rI tt k o st=some m
theorem MI {fl:Bool} {P:Program} {tt:Table} {o:Oper} {k:Nat} {st:St} {Q:St→Prop}:vO fl P tt o k st Q↔∃ v m,AH fl P tt o k st v m∧Q ({ st with mem:=m }.put o.dst v):=by
 unfold vO AH;split;·split;(·constructor;(·rintro⟨v,B0,B,h1,h2,h3,h4,h5⟩;exact⟨v,_,⟨B0,B,h1,h2,h3,h4,rfl⟩,h5⟩);rintro⟨v,m,⟨B0,B,h1,h2,h3,h4,rfl⟩,h5⟩;exact⟨v,B0,B,h1,h2,h3,h4,h5⟩);exact⟨fun h=>h.elim,fun ⟨_,_,h,_⟩=>h.elim⟩
 split;·rename_i m hb;exact⟨fun h=>⟨_,m,⟨rfl,hb⟩,h⟩,fun ⟨u,m',⟨h1,h2⟩,h4⟩=>by rw [hb] at h2;cases h2;subst h1;exact h4⟩
 rename_i hb;exact⟨fun h=>h.elim,fun ⟨_,_,⟨_,h⟩,_⟩=>by rw [hb] at h;cases h⟩
def gx (P:Program) (tt:Table) (all:Array Oper) (base:Nat) (o:Oper) (p:Pl) (st:St) (Q:St→Prop):Prop :=
 match gh all st.fr o with
 | some true=>match p.cls with
  | .n=>qb P tt o { st with mem:=[] } st Q
  | .r=>qb P tt o { st with mem:=ez (p.mask.map (base + ·)++p.abs) st.mem } st Q
  | .a=>isHole st.mem (base+p.key)=true∧match hD tt o (base+p.key) st with
   | some (B,v)=>Q ({ st with mem:=st.mem.set (base+p.key) B }.put o.dst v)
   | none=>uJ P o (base+p.key) st Q
  | .w=>isHole st.mem (base+p.key)=true∧match oQ P tt (base+p.key) o st with
   | some (m,v)=>Q ({ st with mem:=m }.put o.dst v)
   | none=>False
  | .s=>match rI tt (base+p.key) o st with
   | some m=>Q ({ st with mem:=m }.put o.dst (.sc undef))
   | none=>False
  | .b=>match ow tt o { st with mem:=ez (p.mask.map (base + ·)) st.mem } with
   | some v=>Q (st.put o.dst v)
   | none=>False
  | .z=>o8 P o st Q
  | .e=>vO (!p.mask.isEmpty) P tt o p.key st Q
 | some false=>Q (st.put o.dst (.sc undef))
 | none=>False
@[congr] theorem Wd {P:Program} {f f':FuncId} {vs vs':List V} {st st':St} {dst:Option Tmp} {Q:St→Prop} (hf:f=f') (hv:vs=vs') (h:st=st'):Lf P f vs st dst Q=Lf P f' vs' st' dst Q:=by rw [hf,hv,h]
@[congr] theorem Yv {P:Program} {tt:Table} {o:Oper} {sv sv' st st':St} {Q:St→Prop} (hv:sv=sv') (h:st=st'):qb P tt o sv st Q=qb P tt o sv' st' Q:=by rw [hv,h]
def mf (P:Program) (tt:Table) (all:Array Oper) (base:Nat) (o:Oper) (p:Pl) (st:St) (v:V) (m:List bx):Prop :=
 match gh all st.fr o with
 | some true=>match p.cls with
  | .n=>tL P tt o { st with mem:=[] } (fun u=>u=v)∧m=st.mem
  | .r=>tL P tt o { st with mem:=ez (p.mask.map (base + ·)++p.abs) st.mem } (fun u=>u=v)∧m=st.mem
  | .a=>isHole st.mem (base+p.key)=true∧∃ B,(hD tt o (base+p.key) st=some (B,v)∨hD tt o (base+p.key) st=none∧nd P o st.eval (fun e rs=>B = .rows 0 e rs∧v = .ms (base+p.key) 0 0 rs.length))∧m=st.mem.set (base+p.key) B
  | .w=>isHole st.mem (base+p.key)=true∧oQ P tt (base+p.key) o st=some (m,v)
  | .s=>v = .sc undef∧rI tt (base+p.key) o st=some m
  | .b=>ow tt o { st with mem:=ez (p.mask.map (base + ·)) st.mem }=some v∧m=st.mem
  | .z=>False
  | .e=>AH (!p.mask.isEmpty) P tt o p.key st v m
 | some false=>v = .sc undef∧m=st.mem
 | none=>False
theorem GC {P:Program} {tt:Table} {o:Oper} {st:St} {Q:V→Prop}:tL P tt o st Q↔∃ v,tL P tt o st (fun u=>u=v)∧Q v:=by
 unfold tL;split;·split;(·constructor;(·rintro⟨vs',r,h1,h2,h3⟩;exact⟨r,⟨vs',r,h1,h2,rfl⟩,h3⟩);rintro⟨v,⟨vs',r,h1,h2,rfl⟩,h3⟩;exact⟨vs',r,h1,h2,h3⟩);exact⟨fun h=>h.elim,fun ⟨_,h,_⟩=>h⟩
 split;·exact⟨fun h=>⟨_,rfl,h⟩,fun ⟨_,h,hq⟩=>by subst h;exact hq⟩
 exact⟨fun h=>h.elim,fun ⟨_,h,_⟩=>h⟩
theorem jP {P:Program} {tt:Table} {all:Array Oper} {base:Nat} {o:Oper} {p:Pl} {st:St} {Q:St→Prop} (hz:p.cls ≠ .z) :
  gx P tt all base o p st Q↔∃ v m,mf P tt all base o p st v m∧Q ({ st with mem:=m }.put o.dst v):=by
 unfold gx mf;split;·split;(·rw [zJ,GC];exact⟨fun ⟨v,h1,h2⟩=>⟨v,st.mem,⟨h1,rfl⟩,h2⟩,fun ⟨v,m,⟨h1,h2⟩,h3⟩=>⟨v,h1,by subst h2;exact h3⟩⟩);(·rw [zJ,GC];exact⟨fun ⟨v,h1,h2⟩=>⟨v,st.mem,⟨h1,rfl⟩,h2⟩,fun ⟨v,m,⟨h1,h2⟩,h3⟩=>⟨v,h1,by subst h2;exact h3⟩⟩);(·split;(·rename_i B v hb;refine⟨fun ⟨h1,h2⟩=>⟨v,_,⟨h1,B,.inl hb,rfl⟩,h2⟩,fun ⟨u,m,⟨h1,B',h2,h3⟩,h4⟩=>?_⟩;(rcases h2 with h2|⟨h2,-⟩);(·rw [hb] at h2;cases h2;subst h3;exact⟨h1,h4⟩);rw [hb] at h2;cases h2);rename_i hb;rw [Dd];constructor;(·rintro⟨h1,h2⟩;obtain⟨e,rs,h3,h4⟩:=n9.1 h2;exact⟨_,_,⟨h1,.rows 0 e rs,.inr ⟨hb,n9.2 ⟨e,rs,h3,rfl,rfl⟩⟩,rfl⟩,h4⟩);rintro⟨u,m,⟨h1,B',h2,h3⟩,h4⟩;(rcases h2 with h2|⟨-,h2⟩);(·rw [hb] at h2;cases h2);obtain⟨e,rs,h5,h6,h7⟩:=n9.1 h2;subst h6;subst h7;subst h3;exact⟨h1,n9.2 ⟨e,rs,h5,h4⟩⟩);(·split;(·rename_i m v hb;exact⟨fun ⟨h1,h2⟩=>⟨v,m,⟨h1,hb⟩,h2⟩,fun ⟨u,m',⟨h1,h2⟩,h4⟩=>by rw [hb] at h2;cases h2;exact⟨h1,h4⟩⟩);rename_i hb;exact⟨fun h=>h.2.elim,fun ⟨_,_,⟨_,h⟩,_⟩=>by rw [hb] at h;cases h⟩);(·split;(·rename_i m hb;exact⟨fun h=>⟨_,m,⟨rfl,hb⟩,h⟩,fun ⟨u,m',⟨h1,h2⟩,h4⟩=>by rw [hb] at h2;cases h2;subst h1;exact h4⟩);rename_i hb;exact⟨fun h=>h.elim,fun ⟨_,_,⟨_,h⟩,_⟩=>by rw [hb] at h;cases h⟩);(·split;(·rename_i v hb;exact⟨fun h=>⟨v,st.mem,⟨hb,rfl⟩,h⟩,fun ⟨u,m',⟨h1,h2⟩,h4⟩=>by rw [hb] at h1;cases h1;subst h2;exact h4⟩);rename_i hb;exact⟨fun h=>h.elim,fun ⟨_,_,⟨h,_⟩,_⟩=>by rw [hb] at h;cases h⟩);(·rename_i hc;exact absurd hc hz);exact MI
 ·exact⟨fun h=>⟨_,_,⟨rfl,rfl⟩,h⟩,fun ⟨v,m,⟨h1,h2⟩,h3⟩=>by subst h1;subst h2;exact h3⟩
 exact⟨fun h=>h.elim,fun ⟨_,_,h,_⟩=>h⟩
theorem jQ {ρ ρ':Operand→V} {xs:Array Operand} (h:∀ x∈xs,ρ x=ρ' x):xs.toList.map ρ=xs.toList.map ρ' :=
 pT fun x hx=>h x (by simpa using hx)
theorem yx {bD:List (Nat×Nat)} {ρ ρ':Operand→V}:∀ {ps:List (Nat×Operand)} {cs:List V},(∀ p∈ps,ρ p.2=ρ' p.2)→vJ bD ρ ps cs=vJ bD ρ' ps cs
 | [],cs,_=>rfl
 | (i,x) :: r,cs,h=>by
  simp only [vJ,h (i,x) (by simp)]
  split
  ·split
   ·split
    ·exact yx fun p hp=>h p (by simp [hp])
    rfl
   rfl
  rfl
theorem sr {ρ ρ':Operand→V}:∀ {ps:List (Nat×Operand)},(∀ p∈ps,ρ p.2=ρ' p.2)→nc ρ ps=nc ρ' ps
 | [],_=>rfl
 | (i,x) :: r,h=>by
  simp only [nc,h (i,x) (by simp)]
  rw [sr fun p hp=>h p (by simp [hp])]
theorem EE {P:Program} {tt:Table} {T:TypeId} {ρ ρ':Operand→V} {ps:List (Nat×Operand)} (h:∀ p∈ps,ρ p.2=ρ' p.2):nB P tt T ps ρ=nB P tt T ps ρ':=by
 unfold nB;split;·rw [yx h,sr h]
 rfl
theorem AI {tt:Table} {T:TypeId} {len:Nat} {ρ ρ':Operand→V} {ps:List (Nat×Operand)} (h:∀ p∈ps,ρ p.2=ρ' p.2):xk tt T len ps ρ=xk tt T len ps ρ':=by unfold xk;have:(ps.map fun p=>ρ p.2)=ps.map fun p=>ρ' p.2:=pT h;rw [this]
theorem MJ {P:Program} {tt:Table} {o:Oper} {st st':St} (h:∀ x∈o.op.operands,st.eval x=st'.eval x) (hm:st.mem=st'.mem):iY P tt st o=iY P tt st' o:=by
 obtain⟨dst,op,type,pos,after,guard⟩:=o;cases op <;> simp only [Op.operands] at h <;> try rfl
 case slice T x lo hi mx =>
  cases mx <;> cases lo <;> cases hi <;> try rfl
  all_goals (simp only [iY];simp_all)
 case makeFunc fn first captured =>
  simp only [iY]
  rw [jQ (xs:=first) fun x hx=>h x (by simp [hx]),jQ (xs:=captured) fun x hx=>h x (by simp [hx])]
 case call c =>
  obtain⟨callee,args,ts⟩:=c
  have o9:args.toList.map st.eval=args.toList.map st'.eval:=jQ fun x hx=>h x (by simp [Call.operands,hx])
  cases callee with
  | builtin b=>cases b <;> simp only [iY,o9,hm]
  | _=>rfl
 all_goals (simp only [iY];simp_all)
theorem Jf {P:Program} {tt:Table} {o:Oper} {st st':St} (h:∀ x∈o.op.operands,st.eval x=st'.eval x) (hm:st.mem=st'.mem):y3 P tt o st=y3 P tt o st':=by
 have h0:=MJ (P:=P) (tt:=tt) h hm;obtain⟨dst,op,type,pos,after,guard⟩:=o;cases op <;> try exact h0
 case build T ps=>exact EE fun p hp=>h p.2 (by simp only [Op.operands];simpa using ⟨p.1,by simpa using hp⟩)
 case buildSlice T len ps =>
  simp only [y3]
  rw [AI fun p hp=>h p.2 (by simp only [Op.operands];simpa using ⟨p.1,by simpa using hp⟩)]
theorem AJ {P:Program} {tt:Table} {o:Oper} {st st':St} {Q:V→Prop} (h:∀ x∈o.op.operands,st.eval x=st'.eval x) (hm:st.mem=st'.mem):tL P tt o st Q=tL P tt o st' Q:=by
 have h0:=Jf (P:=P) (tt:=tt) h hm;unfold tL;rw [h0];split;·rename_i f xs ts heq;rw [heq] at h;have o9:xs.toList.map st.eval=xs.toList.map st'.eval:=jQ fun x hx=>h x (by simp [Op.operands,Call.operands,hx]);have hf:st.eval f=st'.eval f:=h f (by simp [Op.operands,Call.operands]);rw [o9,hf]
 rfl
theorem nV {tt:Table} {o:Oper} {key:Nat} {st st':St} (h:∀ x∈o.op.operands,st.eval x=st'.eval x):hD tt o key st=hD tt o key st':=by
 obtain⟨dst,op,type,pos,after,guard⟩:=o;cases op <;> try rfl
 case makeMap t r=>cases r <;> rfl
 case makeSlice t l c=>simp only [hD];rw [h l (by simp [Op.operands]),h c (by simp [Op.operands])]
 case box T x=>simp only [hD];rw [h x (by simp [Op.operands])]
 case buildSlice T len ps =>
  simp only [hD]
  rw [AI fun p hp=>h p.2 (by simp only [Op.operands];simpa using ⟨p.1,by simpa using hp⟩)]
theorem pb {P:Program} {o:Oper} {ρ ρ':Operand→V} {Q:Nat→List V→Prop} (h:∀ x∈o.op.operands,ρ x=ρ' x):nd P o ρ Q=nd P o ρ' Q:=by
 unfold nd;split;·rename_i f xs ts heq;rw [heq] at h;have o9:xs.toList.map ρ=xs.toList.map ρ':=jQ fun x hx=>h x (by simp [Op.operands,Call.operands,hx]);have hf:ρ f=ρ' f:=h f (by simp [Op.operands,Call.operands]);rw [o9,hf]
 rfl
theorem Jg {P:Program} {tt:Table} {o:Oper} {key:Nat} {st st':St} (h:∀ x∈o.op.operands,st.eval x=st'.eval x) (hm:st.mem=st'.mem):oQ P tt key o st=oQ P tt key o st':=by
 obtain⟨dst,op,type,pos,after,guard⟩:=o;cases op <;> try rfl
 case store T p x=>simp only [oQ,hm];rw [h p (by simp [Op.operands]),h x (by simp [Op.operands])]
 case mapUpdate T m k x=>simp only [oQ,hm];rw [h m (by simp [Op.operands]),h k (by simp [Op.operands]),h x (by simp [Op.operands])]
 case insert T m k x=>simp only [oQ,hm];rw [h m (by simp [Op.operands]),h k (by simp [Op.operands]),h x (by simp [Op.operands])]
 case call c =>
  obtain⟨callee,args,ts⟩:=c
  have o9:args.toList.map st.eval=args.toList.map st'.eval:=jQ fun x hx=>h x (by simp [Op.operands,Call.operands,hx])
  cases callee with
  | builtin b=>cases b <;> simp only [oQ,o9,hm]
  | _=>rfl
theorem AK {tt:Table} {o:Oper} {key:Nat} {st st':St} (h:∀ x∈o.op.operands,st.eval x=st'.eval x) (hm:st.mem=st'.mem):rI tt key o st=rI tt key o st':=by
 obtain⟨dst,op,type,pos,after,guard⟩:=o;cases op <;> try rfl
 case store T p x=>simp only [rI,hm];rw [h p (by simp [Op.operands]),h x (by simp [Op.operands])]
theorem AL {tt:Table} {o:Oper} {key:Nat} {st:St} {m:List bx} (h:rI tt key o st=some m) :
  ∃ B0 B:bx,(B0.dZ=0∧nh B=true)∧B.dZ=0∧st.mem[key]?=some B0∧m=st.mem.set key B∧∀ mem:List bx,mem[key]?=some B0→rI tt key o { st with mem:=mem }=some (mem.set key B):=by
 have ev:∀ (mem:List bx) (x:Operand),St.eval { st with mem:=mem } x=st.eval x:=fun mem x=>by cases x <;> rfl
 unfold rI at h ⊢;obtain⟨dst,op,type,pos,after,guard⟩:=o;cases op <;> try (cases h)
 case store T p x =>
  simp only [ev]
  dsimp only at h
  split at h
  ·rename_i b off hp
   split at h
   ·rename_i hb
    subst hb
    unfold nz at h
    split at h
    ·cases h
    rename_i new hn
    split at h
    ·rename_i kO
     dsimp only at h
     split at h
     ·rename_i cs mO
      split at h
      ·rename_i hle
       cases h
       refine⟨.box cs,.box (kC cs off new),⟨rfl,rfl⟩,rfl,mO,rfl,fun mem hm=>?_⟩
       simp only [hp,if_true]
       unfold nz
       simp only [hn,kO,if_true,hm,hle]
      cases h
     cases h
    cases h
   cases h
  cases h
theorem eval_put {st:St} {dst:Option Tmp} {v:V} {x:Operand} (h:∀ d,dst=some d→x ≠ .tmp d):(st.put dst v).eval x=st.eval x:=by cases dst with|none=>rfl|some d =>cases x with|tmp t =>have dL:d≠t:=fun e=>h d rfl (e ▸ rfl);simp [St.eval,St.put,List.getD,cP dL]|_=>rfl
theorem Ua (st:St) (dst:Option Tmp) (v:V):(st.put dst v).mem=st.mem:=by cases dst <;> rfl
theorem CE {all:Array Oper} {o:Oper} {d:Tmp} (h:d ∉ o.looksAt all):∀ x∈o.op.operands,x ≠ .tmp d:=by rintro x hx rfl;exact h (by unfold Oper.looksAt;exact jq _ (List.mem_filterMap.2 ⟨.tmp d,by simpa using hx,rfl⟩))
theorem GD {all:Array Oper} {o:Oper} {st:St} {dst:Option Tmp} {v:V} (h:∀ d,dst=some d→d ∉ o.looksAt all):gh all (st.put dst v).fr o=gh all st.fr o:=by cases dst with|none=>rfl|some d =>have hd:=h d rfl;unfold gh;split;(·rfl);rename_i j want hg;split;(·rfl);rename_i e he;(have dL:d≠e:=by rintro rfl;exact hd (by unfold Oper.looksAt;exact kS _ (by rw [hg];simp only [];rw [he];simp)));simp only [St.put,cP dL]
section
variable {P:Program} {tt:Table} {all:Array Oper} {base:Nat}
theorem GF {o:Oper} {st st':St} (h:∀ x∈o.op.operands,st.eval x=st'.eval x) (hm:st.mem=st'.mem):ow tt o st=ow tt o st':=by
 unfold ow;split;·rename_i T x ho;rw [hm,h x (by rw [ho];simp [Op.operands])]
 rfl
theorem Jh {fl:Bool} {P:Program} {tt:Table} {o:Oper} {k:Nat} {st st':St} {v:V} {m:List bx} (h:∀ x∈o.op.operands,st.eval x=st'.eval x) (hm:st.mem=st'.mem):AH fl P tt o k st v m=AH fl P tt o k st' v m:=by
 have hs:=AK (tt:=tt) (key:=k) h hm;unfold AH;split;·rename_i f xs ts heq;rw [heq] at h;have o9:xs.toList.map st.eval=xs.toList.map st'.eval:=pT fun x hx=>h x (by simp [Op.operands,Call.operands];exact .inr (by simpa using hx));have hf:st.eval f=st'.eval f:=h f (by simp [Op.operands,Call.operands]);rw [o9,hf,hm]
 rw [hs]
theorem Px {fl:Bool} {P:Program} {tt:Table} {o:Oper} {k:Nat} {st:St} {v:V} {m:List bx} (h:AH fl P tt o k st v m):∃ B0 B:bx,B0.dZ=0∧B.dZ=0∧st.mem[k]?=some B0∧m=st.mem.set k B:=by
 unfold AH at h;split at h;·split at h;(·obtain⟨B0,B,h1,h2,h3,h4,h5⟩:=h;exact⟨B0,B,h1,h2,h3,h5⟩);exact h.elim
 obtain⟨B0,B,h1,h2,h3,h4,-⟩:=AL h.2;exact⟨B0,B,h1.1,h2,h3,h4⟩
theorem MK {o:Oper} {p:Pl} {st st':St} {v:V} {m:List bx} (hw:gh all st.fr o=gh all st'.fr o) (h:∀ x∈o.op.operands,st.eval x=st'.eval x) (hm:st.mem=st'.mem) :
  mf P tt all base o p st v m=mf P tt all base o p st' v m:=by
 have e1:∀ (mem:List bx) (x:Operand),St.eval { st with mem:=mem } x=st.eval x:=fun mem x=>by cases x <;> rfl
 have e2:∀ (mem:List bx) (x:Operand),St.eval { st' with mem:=mem } x=st'.eval x:=fun mem x=>by cases x <;> rfl
 unfold mf;rw [hw,nV h,Jg h hm,AK h hm,GF (st := { st with mem:=ez (p.mask.map (base + ·)) st.mem }) (st' := { st' with mem:=ez (p.mask.map (base + ·)) st'.mem }) (fun x hx=>by rw [e1,e2];exact h x hx) (by rw [hm]),Jh h hm,hm];simp only [pb h]
 rw [AJ (st := { st with mem:=[] }) (st' := { st' with mem:=[] }) (fun x hx=>by rw [e1,e2];exact h x hx) rfl,
  AJ (st := { st with mem:=ez (p.mask.map (base + ·)++p.abs) st'.mem }) (st' := { st' with mem:=ez (p.mask.map (base + ·)++p.abs) st'.mem }) (fun x hx=>by rw [e1,e2];exact h x hx) rfl]
theorem Lg {o:Oper} {p:Pl} {st:St} {dst:Option Tmp} {u v:V} {m:List bx} (h:∀ d,dst=some d→d ∉ o.looksAt all):mf P tt all base o p (st.put dst u) v m=mf P tt all base o p st v m :=
 MK (GD h) (fun x hx=>eval_put fun d hd=>CE (h d hd) x hx) (Ua _ _ _)
def xu (all:Array Oper) (x:Oper) (px:Pl) (y:Oper) (py:Pl):Bool :=
 px.cls != .z&&py.cls != .z&&x.apart all y&&(px.cls == .n||py.cls == .n||(px.cls == .r&&py.cls == .r)||((px.cls == .a||px.cls == .s)&&py.cls == .r&&py.mask.contains px.key)||(px.cls == .r&&(py.cls == .a||py.cls == .s)&&px.mask.contains py.key)||((px.cls == .a||px.cls == .s)&&(py.cls == .a||py.cls == .s)&&px.key != py.key)||(px.cls == .b&&(py.cls == .r||py.cls == .b||(py.cls == .w&&isApp y)||(py.cls == .a&&sn y)))||(py.cls == .b&&(px.cls == .r||(px.cls == .w&&isApp x)||(px.cls == .a&&sn x)))||(px.cls == .e&&py.cls == .r&&py.abs.contains px.key)||(px.cls == .r&&py.cls == .e&&px.abs.contains py.key)||(px.cls == .b&&(py.cls == .a||py.cls == .s)&&px.mask.contains py.key)||(py.cls == .b&&(px.cls == .a||px.cls == .s)&&py.mask.contains px.key)||(px.cls == .w&&isApp x&&py.cls == .a && !sn y&&px.key != py.key)||(py.cls == .w&&isApp y&&px.cls == .a && !sn x&&px.key != py.key)||(px.cls == .e && !px.mask.isEmpty&&py.cls == .a))
theorem Ji {o:Oper} {key:Nat} {st:St} {B:bx} {v:V} (h:hD tt o key st=some (B,v)):B.dZ=0:=by
 unfold hD at h;split at h;·split at h <;> cases h <;> rfl
 ·split at h <;> cases h <;> rfl
 ·split at h <;> cases h <;> rfl
 ·cases h;rfl
 ·split at h <;> cases h <;> rfl
 cases h
theorem xv {o:Oper} {p:Pl} (hp:p.cls = .n) {st:St} {v:V} {m:List bx} (h:mf P tt all base o p st v m) (mem:List bx):m=st.mem∧mf P tt all base o p { st with mem:=mem } v mem:=by
 unfold mf at h ⊢;dsimp only;split at h;·rename_i hw;rw [hp] at h;simp only [hw,hp];exact⟨h.2,h.1,trivial⟩
 ·rename_i hw;simp only [hw];exact⟨h.2,h.1,trivial⟩
 exact h.elim
theorem iA {o:Oper} {p:Pl} (hp:p.cls = .r) {st:St} {v:V} {m:List bx} (h:mf P tt all base o p st v m) {mem:List bx} (hm:ez (p.mask.map (base + ·)++p.abs) mem=ez (p.mask.map (base + ·)++p.abs) st.mem) :
  m=st.mem∧mf P tt all base o p { st with mem:=mem } v mem:=by
 unfold mf at h ⊢;dsimp only;split at h;·rename_i hw;rw [hp] at h;simp only [hw,hp];exact⟨h.2,by rw [hm];exact h.1,trivial⟩
 ·rename_i hw;simp only [hw];exact⟨h.2,h.1,trivial⟩
 exact h.elim
theorem oa {o:Oper} {p:Pl} (hp:p.cls = .a∨p.cls = .s) {st:St} {v:V} {m:List bx} (h:mf P tt all base o p st v m) :
  (m=st.mem∧∀ mem,mf P tt all base o p { st with mem:=mem } v mem) ∨
  ∃ B0 B:bx,B0.dZ=0∧B.dZ=0∧st.mem[base+p.key]?=some B0∧m=st.mem.set (base+p.key) B∧∀ mem:List bx,mem[base+p.key]?=some B0→mf P tt all base o p { st with mem:=mem } v (mem.set (base+p.key) B):=by
 unfold mf at h;split at h;·rename_i hw;(rcases hp with hp|hp);(·rw [hp] at h;obtain⟨h1,B,h2,h3⟩:=h;(have TL:B.dZ=0:=by (rcases h2 with h2|⟨-,h2⟩);(·exact Ji h2);obtain⟨e,rs,-,h5,-⟩:=n9.1 h2;rw [h5];rfl);refine .inr ⟨.hole,B,rfl,TL,gH.1 h1,h3,fun mem hm=>?_⟩;unfold mf;simp only [hw,hp];refine⟨gH.2 hm,B,?_,rfl⟩;(have e0:hD tt o (base+p.key) { st with mem:=mem }=hD tt o (base+p.key) st:=nV fun x _=>by cases x <;> rfl);rw [e0];(have e1:∀ Q,nd P o (St.eval { st with mem:=mem }) Q=nd P o st.eval Q:=fun Q=>pb fun x _=>by cases x <;> rfl);rw [e1];exact h2);rw [hp] at h;obtain⟨h1,h2⟩:=h;obtain⟨B0,B,h3,h4,h5,h6,h7⟩:=AL h2;refine .inr ⟨B0,B,h3.1,h4,h5,h6,fun mem hm=>?_⟩;unfold mf;simp only [hw,hp];exact⟨h1,h7 mem hm⟩
 ·rename_i hw;refine .inl ⟨h.2,fun mem=>?_⟩;unfold mf;simp only [hw];exact⟨h.1,trivial⟩
 exact h.elim
theorem Df {o:Oper} {p:Pl} (hp:p.cls = .e) {st:St} {v:V} {m:List bx} (h:mf P tt all base o p st v m) :
  m=st.mem∨∃ B0 B:bx,B0.dZ=0∧B.dZ=0∧st.mem[p.key]?=some B0∧m=st.mem.set p.key B:=by
 unfold mf at h;split at h;·rw [hp] at h;exact .inr (Px h)
 ·exact .inl h.2
 exact h.elim
theorem Jj {o:Oper} {p:Pl} (hp:p.cls = .a) {st:St} {v:V} {m:List bx} (h:mf P tt all base o p st v m) :
  (m=st.mem∧∀ mem,mf P tt all base o p { st with mem:=mem } v mem) ∨
  ∃ B:bx,st.mem[base+p.key]?=some .hole∧m=st.mem.set (base+p.key) B∧∀ mem:List bx,mem[base+p.key]?=some .hole→mf P tt all base o p { st with mem:=mem } v (mem.set (base+p.key) B):=by
 unfold mf at h;split at h;·rename_i hw;rw [hp] at h;obtain⟨h1,B,h2,h3⟩:=h;refine .inr ⟨B,gH.1 h1,h3,fun mem hm=>?_⟩;unfold mf;simp only [hw,hp];refine⟨gH.2 hm,B,?_,rfl⟩;(have e0:hD tt o (base+p.key) { st with mem:=mem }=hD tt o (base+p.key) st:=nV fun x _=>by cases x <;> rfl);rw [e0];(have e1:∀ Q,nd P o (St.eval { st with mem:=mem }) Q=nd P o st.eval Q:=fun Q=>pb fun x _=>by cases x <;> rfl);rw [e1];exact h2
 ·rename_i hw;refine .inl ⟨h.2,fun mem=>?_⟩;unfold mf;simp only [hw];exact⟨h.1,trivial⟩
 exact h.elim
theorem Jk {o:Oper} {p:Pl} (hp:p.cls = .e) (hf:(!p.mask.isEmpty)=true) {st:St} {v:V} {m:List bx} (h:mf P tt all base o p st v m) :
  (m=st.mem∧∀ mem,mf P tt all base o p { st with mem:=mem } v mem) ∨
  ∃ B0 B:bx,nh B=true∧st.mem[p.key]?=some B0∧m=st.mem.set p.key B∧∀ mem:List bx,mem[p.key]?=some B0→mf P tt all base o p { st with mem:=mem } v (mem.set p.key B):=by
 unfold mf at h;split at h;·rename_i hw;rw [hp] at h;dsimp only at h;(have ho:∀ mem:List bx,St.eval { st with mem:=mem }=st.eval:=fun mem=>funext fun x=>by cases x <;> rfl);unfold AH at h;split at h;(·rename_i f xs ts heq;split at h;(·rename_i g vs hg;obtain⟨B0,B,h1,h2,h3,⟨h4,h5⟩,h6⟩:=h;obtain⟨h7,h8⟩:=h5 hf;refine .inr ⟨B0,B,h7,h3,h6,fun mem hm=>?_⟩;unfold mf;simp only [hw,hp];unfold AH;rw [heq];dsimp only;rw [ho mem,hg];exact⟨B0,B,h1,h2,hm,⟨h8 mem hm,fun _=>⟨h7,h8⟩⟩,rfl⟩);exact h.elim);rename_i dL;obtain⟨h1,h2⟩:=h;obtain⟨B0,B,h3,h4,h5,h6,h7⟩:=AL h2;refine .inr ⟨B0,B,h3.2,h5,h6,fun mem hm=>?_⟩;unfold mf;simp only [hw,hp];unfold AH;split;(·rename_i f xs ts heq;exact (dL _ _ _ heq).elim);exact⟨h1,h7 mem hm⟩
 ·rename_i hw;refine .inl ⟨h.2,fun mem=>?_⟩;unfold mf;simp only [hw];exact⟨h.1,trivial⟩
 exact h.elim
theorem qc {o:Oper} {p:Pl} (hp:p.cls = .b) {st:St} {v:V} {m:List bx} (h:mf P tt all base o p st v m) :
  m=st.mem∧∀ mem:List bx,(ez (p.mask.map (base + ·)) mem).map eY=(ez (p.mask.map (base + ·)) st.mem).map eY→mf P tt all base o p { st with mem:=mem } v mem:=by
 unfold mf at h ⊢;dsimp only;split at h;·rename_i hw;rw [hp] at h;simp only [hw,hp];refine⟨h.2,fun mem hm=>⟨?_,trivial⟩⟩;have h1:=h.1;unfold ow at h1 ⊢;split at h1;(·rename_i T x ho;(have e:St.eval { st with mem:=ez (p.mask.map (base + ·)) mem } x=St.eval { st with mem:=ez (p.mask.map (base + ·)) st.mem } x:=by cases x <;> rfl);show pV tt ((ez (p.mask.map (base + ·)) mem).map eY) T (St.eval { st with mem:=ez (p.mask.map (base + ·)) mem } x)=some v;rw [hm,e];exact h1);cases h1
 ·rename_i hw;simp only [hw];exact⟨h.2,fun _ _=>⟨h.1,trivial⟩⟩
 exact h.elim
theorem Dg {o:Oper} {p:Pl} (hp:p.cls = .w) (ha:isApp o=true) {st:St} {v:V} {m:List bx} (h:mf P tt all base o p st v m):m.map eY=st.mem.map eY:=by
 unfold mf at h;split at h;·rw [hp] at h;exact Pv ha (gH.1 h.1) h.2
 ·rw [h.2]
 exact h.elim
theorem AM {o:Oper} {p:Pl} (hp:p.cls = .a) (ha:sn o=true) {st:St} {v:V} {m:List bx} (h:mf P tt all base o p st v m):m.map eY=st.mem.map eY:=by
 unfold mf at h;split at h;·rw [hp] at h;obtain⟨h1,B,h2,rfl⟩:=h;(have hB:eY B = .dead:=by (rcases h2 with h2|⟨-,h2⟩);(·unfold hD at h2;unfold sn at ha;split at h2;(·rename_i he;rw [he] at ha;cases ha);(·rename_i he;rw [he] at ha;cases ha);(·split at h2 <;> cases h2;rfl);(·cases h2;rfl);(·split at h2 <;> cases h2;rfl);cases h2);obtain⟨e,rs,-,h5,-⟩:=n9.1 h2;rw [h5];rfl);have hh:=gH.1 h1;apply dM;intro q;rw [ak,ak,bX];split;(·rename_i hq;subst hq;rw [if_pos (az.1 hh).1,hh,cx,cx,hB];rfl);rfl
 ·rw [h.2]
 exact h.elim
theorem Jl {mem:List bx} {q:Nat} {cs:List V} (hq:mem[q]?=some .hole) (n:Nat) (v:V):rowsOf (mem.set q (.box cs)) n v=rowsOf mem n v:=by cases v with|ms b dZ s l =>simp only [rowsOf];by_cases hb:q=b;(·subst hb;rw [hq,eX (az.1 hq).1]);rw [cP hb]|sc w=>unfold rowsOf;split <;> (try split) <;> simp_all|_=>rfl
theorem EF {mem:List bx} {q:Nat} {cs:List V} (hq:mem[q]?=some .hole) (n:Nat) (v:V):jb (mem.set q (.box cs)) n v=jb mem n v:=by cases v with|ms b dZ s l =>(cases s with|zero =>simp only [jb];by_cases hb:q=b;(·subst hb;rw [hq,eX (az.1 hq).1]);rw [cP hb]|succ s=>rfl)|sc w=>unfold jb;split <;> (try split) <;> simp_all|_=>rfl
theorem ML {tt:Table} {mem:List bx} {q:Nat} {cs:List V} (hq:mem[q]?=some .hole) (u:TypeId) (n:Nat) (x:V):rX tt (mem.set q (.box cs)) u n x=rX tt mem u n x:=by unfold rX;simp only [Jl hq]
theorem GG {tt:Table} {mem:List bx} {q:Nat} {cs:List V} (hq:mem[q]?=some .hole) (ts:List TypeId) (s x:V):fh tt (mem.set q (.box cs)) ts s x=fh tt mem ts s x:=by unfold fh;simp only [ML hq,EF hq]
theorem GH {P:Program} {tt:Table} {key q:Nat} {cs:List V} {o:Oper} {st:St} (ha:isApp o=true) (hk:st.mem[key]?=some .hole) (hq:st.mem[q]?=some .hole) (dL:key≠q) :
  oQ P tt key o { st with mem:=st.mem.set q (.box cs) }=(oQ P tt key o st).map fun p=>(p.1.set q (.box cs),p.2):=by
 unfold isApp at ha;split at ha;·rename_i xs ts ho;unfold oQ;simp only [ho];(have em:xs.toList.map (St.eval { st with mem:=st.mem.set q (.box cs) })=xs.toList.map st.eval:=pT fun x _=>by cases x <;> rfl);rw [em];split;(·rename_i s x hl;rw [GG hq];cases Je:fh tt st.mem ts.toList s x with|none=>rfl|some r =>obtain⟨size,rY,rows⟩:=r;cases rY with|none =>simp only [eM,cx];unfold dm;rw [arq,if_pos (az.1 hk).1,if_pos (az.1 hk).1,ant _ _ dL]|some p =>obtain⟨b,dZ⟩:=p;obtain⟨e,rs,hb⟩:=so Je;(have hbq:b≠q:=fun e=>by subst e;rw [hq] at hb;cases hb);simp only [eM,cx];rw [ant _ _ hbq]);rfl
 cases ha
theorem Dh {P:Program} {tt:Table} {key q:Nat} {o:Oper} {st:St} {m:List bx} {v:V} (ha:isApp o=true) (hk:st.mem[key]?=some .hole) (dL:key≠q) (h:oQ P tt key o st=some (m,v)):m[q]?=some .hole↔st.mem[q]?=some .hole:=by
 unfold isApp at ha;split at ha;·rename_i xs ts ho;unfold oQ at h;simp only [ho] at h;split at h;(·split at h;(·rename_i size rY rows Je;simp only [aF] at h;cases rY with|none =>simp only [eM,dy] at h;obtain⟨rfl,-⟩:=h;unfold dm;rw [if_pos (az.1 hk).1,cP dL]|some p =>obtain⟨b,dZ⟩:=p;obtain⟨e,rs,hb⟩:=so Je;simp only [eM,dy] at h;obtain⟨rfl,-⟩:=h;by_cases hbq:b=q;(·subst hbq;rw [eX (az.1 hb).1,hb];exact⟨fun h=>(by cases h),fun h=>(by cases h)⟩);rw [cP hbq]);cases h);cases h
 cases ha
theorem AN {o:Oper} {p:Pl} (hp:p.cls = .a) (hb:sn o=false) {st:St} {v:V} {m:List bx} (h:mf P tt all base o p st v m) :
  (m=st.mem∧∀ mem,mf P tt all base o p { st with mem:=mem } v mem) ∨
  (st.mem[base+p.key]?=some .hole∧∃ cs,m=st.mem.set (base+p.key) (.box cs)∧∀ mem:List bx,mem[base+p.key]?=some .hole→mf P tt all base o p { st with mem:=mem } v (mem.set (base+p.key) (.box cs))):=by
 unfold mf at h;split at h;·rename_i hw;rw [hp] at h;obtain⟨h1,B,h2,h3⟩:=h;(have hB:∃ cs,B = .box cs:=by (rcases h2 with h2|⟨-,h2⟩);(·unfold hD at h2;unfold sn at hb;split at hb;(·rename_i he;rw [he] at h2;dsimp only at h2;split at h2 <;> cases h2;exact⟨_,rfl⟩);(·rename_i he;rw [he] at h2;dsimp only at h2;split at h2 <;> cases h2;exact⟨_,rfl⟩);cases hb);unfold sn at hb;unfold nd at h2;split at hb;(·rename_i he;rw [he] at h2;exact h2.elim);(·rename_i he;rw [he] at h2;exact h2.elim);cases hb);obtain⟨cs,rfl⟩:=hB;refine .inr ⟨gH.1 h1,cs,h3,fun mem hm=>?_⟩;unfold mf;simp only [hw,hp];refine⟨gH.2 hm,_,?_,rfl⟩;(have e0:hD tt o (base+p.key) { st with mem:=mem }=hD tt o (base+p.key) st:=nV fun x _=>by cases x <;> rfl);rw [e0];(have e1:∀ Q,nd P o (St.eval { st with mem:=mem }) Q=nd P o st.eval Q:=fun Q=>pb fun x _=>by cases x <;> rfl);rw [e1];exact h2
 ·rename_i hw;refine .inl ⟨h.2,fun mem=>?_⟩;unfold mf;simp only [hw];exact⟨h.1,trivial⟩
 exact h.elim
theorem AO {o:Oper} {p:Pl} (hp:p.cls = .w) {st:St} {v:V} {m:List bx} (h:mf P tt all base o p st v m) :
  (m=st.mem∧∀ mem,mf P tt all base o p { st with mem:=mem } v mem) ∨
  (st.mem[base+p.key]?=some .hole∧oQ P tt (base+p.key) o st=some (m,v)∧∀ mem m',mem[base+p.key]?=some .hole→oQ P tt (base+p.key) o { st with mem:=mem }=some (m',v)→mf P tt all base o p { st with mem:=mem } v m'):=by
 unfold mf at h;split at h;·rename_i hw;rw [hp] at h;refine .inr ⟨gH.1 h.1,h.2,fun mem m' h1 h2=>?_⟩;unfold mf;simp only [hw,hp];exact⟨gH.2 h1,h2⟩
 ·rename_i hw;refine .inl ⟨h.2,fun mem=>?_⟩;unfold mf;simp only [hw];exact⟨h.1,trivial⟩
 exact h.elim
theorem St.put_comm (st:St) {x y:Option Tmp} (v u:V) (h:∀ d,x=some d→y≠some d):(st.put x v).put y u=(st.put y u).put x v:=by cases x with|none=>rfl|some d =>cases y with|none=>rfl|some e =>have dL:d≠e:=fun he=>h d rfl (he ▸ rfl);simp [St.put,ant _ _ dL]
theorem GI (st:St) (x:Option Tmp) (v:V) (m:List bx) : { st.put x v with mem:=m }=St.put { st with mem:=m } x v:=by cases x <;> rfl
theorem Jm {x y:Oper} {px py:Pl} (gV:xu all x px y py=true) {st:St} {Q:St→Prop} (h:gx P tt all base x px st fun st'=>gx P tt all base y py st' Q) :
  gx P tt all base y py st fun st'=>gx P tt all base x px st' Q:=by
 unfold xu at gV;rw [aL,aL,aL] at gV;obtain⟨⟨⟨We,hzy⟩,Je⟩,o2⟩:=gV;have We:px.cls ≠ .z:=by simpa using We
 have hzy:py.cls ≠ .z:=by simpa using hzy
 obtain⟨hxy,Py,hyx⟩:=Oper.apart_spec Je;obtain⟨v,m1,h1,h2⟩:=(jP We).1 h;obtain⟨u,m2,h3,h4⟩:=(jP hzy).1 h2;rw [Lg hxy] at h3;have fin:∀ m1' , mf P tt all base y py st u m1'→mf P tt all base x px { st with mem:=m1' } v m2→gx P tt all base y py st fun st'=>gx P tt all base x px st' Q:=fun m1' h5 h6=>by refine (jP hzy).2 ⟨u,m1',h5,(jP We).2 ⟨v,m2,by rw [Lg hyx];exact h6,?_⟩⟩;(have e1:({ (St.put { st with mem:=m1 } x.dst v) with mem:=m2 }:St).put y.dst u=({ (St.put { st with mem:=m1' } y.dst u) with mem:=m2 }:St).put x.dst v:=by rw [GI,GI];exact St.put_comm _ _ _ Py);rw [← e1];exact h4
 have back:∀ (m:List bx) (z:Oper) (pz:Pl) (c:V) (m':List bx),mf P tt all base z pz { ({ st with mem:=m }:St) with mem:=st.mem } c m'=mf P tt all base z pz st c m':=fun _ _ _ _ _=>rfl;simp only [gv,aL,beq_iff_eq,bne_iff_ne] at o2;rcases o2 with (((((((((((((hn|hn)|⟨hr,FW⟩)|⟨⟨ha,hr⟩,hm⟩)|⟨⟨hr,ha⟩,hm⟩)|⟨⟨ha,ha'⟩,dL⟩)|⟨hb,hy⟩)|⟨hb,hx⟩)|⟨⟨he,hr⟩,hm⟩)|⟨⟨hr,he⟩,hm⟩)|⟨⟨hb,ha⟩,hm⟩)|⟨⟨hb,ha⟩,hm⟩)|⟨⟨⟨⟨hw,Je⟩,ha⟩,qy⟩,dL⟩)|⟨⟨⟨⟨hw,Je⟩,ha⟩,qy⟩,dL⟩)|⟨⟨he,hm⟩,ha⟩
 ·obtain⟨rfl,-⟩:=xv hn h1 [];exact fin m2 h3 (xv hn h1 m2).2
 ·obtain⟨h5,h6⟩:=xv hn h3 st.mem;dsimp only at h5;subst h5;exact fin st.mem h6 h1
 ·obtain⟨rfl,-⟩:=iA hr h1 rfl;obtain⟨h5,h6⟩:=iA FW h3 (mem:=st.mem) rfl;dsimp only at h5;subst h5;exact fin st.mem h6 h1
 ·(rcases oa ha h1 with ⟨rfl,-⟩|⟨B0,B,I2,hv,hh,rfl,-⟩);(·obtain⟨h5,h6⟩:=iA hr h3 (mem:=st.mem) rfl;dsimp only at h5;subst h5;exact fin st.mem h6 h1);have oq:ez (py.mask.map (base + ·)++py.abs) (st.mem.set (base+px.key) B)=ez (py.mask.map (base + ·)++py.abs) st.mem:=n8 (jq _ (eI.2 ⟨_,by simpa using hm,rfl⟩)) hh I2 hv;obtain⟨h5,h6⟩:=iA hr h3 (mem:=st.mem) oq.symm;dsimp only at h5;subst h5;exact fin st.mem h6 h1
 ·obtain⟨rfl,-⟩:=iA hr h1 rfl;(rcases oa ha h3 with ⟨h5,h6⟩|⟨B0,B,I2,hv,hh,h5,h6⟩);(·dsimp only at h5;subst h5;exact fin st.mem h3 h1);dsimp only at h5 hh;subst h5;have oq:ez (px.mask.map (base + ·)++px.abs) (st.mem.set (base+py.key) B)=ez (px.mask.map (base + ·)++px.abs) st.mem:=n8 (jq _ (eI.2 ⟨_,by simpa using hm,rfl⟩)) hh I2 hv;exact fin _ h3 (iA hr h1 oq).2
 ·(rcases oa ha h1 with ⟨rfl,hx⟩|⟨B0,B,I2,hv,hh,rfl,hx⟩);(·exact fin m2 h3 (hx m2));(rcases oa ha' h3 with ⟨h5,h6⟩|⟨B0',B',an5,Ab,IJ,h5,h6⟩);(·dsimp only at h5;subst h5;exact fin st.mem (h6 st.mem) h1);dsimp only at h5 IJ;subst h5;(have D5:base+px.key≠base+py.key:=by omega);rw [cP D5] at IJ;have h7:=h6 st.mem IJ;have h8:=hx (st.mem.set (base+py.key) B') (by rw [cP (fun e=>D5 e.symm)];exact hh);refine fin _ h7 ?_;rw [ant _ _ D5];exact h8
 ·obtain⟨rfl,h5⟩:=qc hb h1;refine fin m2 h3 (h5 m2 (De ?_));(rcases hy with ((hy|hy)|⟨hy,ha⟩)|⟨hy,ha⟩);(·rw [(iA hy h3 rfl).1]);(·rw [(qc hy h3).1]);(·exact Dg hy ha h3);exact AM hy ha h3
 ·obtain⟨h5,h6⟩:=qc hb h3;dsimp only at h5;subst h5;refine fin st.mem (h6 st.mem (De ?_)) h1;(rcases hx with (hx|⟨hx,ha⟩)|⟨hx,ha⟩);(·rw [(iA hx h1 rfl).1]);(·exact (Dg hx ha h1).symm);exact (AM hx ha h1).symm
 ·(rcases Df he h1 with rfl|⟨B0,B,I2,hv,hh,rfl⟩);(·obtain⟨h5,h6⟩:=iA hr h3 (mem:=st.mem) rfl;dsimp only at h5;subst h5;exact fin st.mem h6 h1);have oq:ez (py.mask.map (base + ·)++py.abs) (st.mem.set px.key B)=ez (py.mask.map (base + ·)++py.abs) st.mem:=n8 (kS _ (by simpa using hm)) hh I2 hv;obtain⟨h5,h6⟩:=iA hr h3 (mem:=st.mem) oq.symm;dsimp only at h5;subst h5;exact fin st.mem h6 h1
 ·obtain⟨rfl,-⟩:=iA hr h1 rfl;(rcases Df he h3 with h5|⟨B0,B,I2,hv,hh,h5⟩);(·dsimp only at h5;subst h5;exact fin st.mem h3 h1);dsimp only at h5 hh;subst h5;have oq:ez (px.mask.map (base + ·)++px.abs) (st.mem.set py.key B)=ez (px.mask.map (base + ·)++px.abs) st.mem:=n8 (kS _ (by simpa using hm)) hh I2 hv;exact fin _ h3 (iA hr h1 oq).2
 ·obtain⟨rfl,h5⟩:=qc hb h1;(rcases oa ha h3 with ⟨h6,-⟩|⟨B0,B,I2,hv,hh,h6,-⟩);(·dsimp only at h6;subst h6;exact fin st.mem h3 h1);dsimp only at h6 hh;subst h6;refine fin _ h3 (h5 _ ?_);rw [n8 (eI.2 ⟨_,by simpa using hm,rfl⟩) hh I2 hv]
 ·obtain⟨h5,h6⟩:=qc hb h3;dsimp only at h5;subst h5;(rcases oa ha h1 with ⟨rfl,-⟩|⟨B0,B,I2,hv,hh,rfl,-⟩);(·exact fin st.mem h3 h1);refine fin st.mem (h6 st.mem ?_) h1;dsimp only;rw [n8 (eI.2 ⟨_,by simpa using hm,rfl⟩) hh I2 hv]
 ·(have qy:sn y=false:=by simpa using qy);(have hk:base+px.key≠base+py.key:=by omega);(rcases AN ha qy h3 with ⟨h5,h6⟩|⟨hq,cs,h5,h6⟩);(·dsimp only at h5;subst h5;exact fin st.mem (h6 st.mem) h1);dsimp only at h5 hq;subst h5;(rcases AO hw h1 with ⟨rfl,h7⟩|⟨hh,h7,h8⟩);(·exact fin _ (h6 _ hq) (h7 _));have hq0:=(Dh Je hh hk h7).1 hq;refine fin _ (h6 st.mem hq0) (h8 _ _ (by rw [cP (fun e=>hk e.symm)];exact hh) ?_);rw [GH Je hh hq0 hk,h7];rfl
 ·(have qy:sn x=false:=by simpa using qy);(have hk:base+py.key≠base+px.key:=by omega);(rcases AN ha qy h1 with ⟨rfl,h6⟩|⟨hq,cs,rfl,h6⟩);(·exact fin m2 h3 (h6 m2));(rcases AO hw h3 with ⟨h5,h7⟩|⟨hh,h7,h8⟩);(·dsimp only at h5;subst h5;exact fin st.mem (h7 st.mem) h1);dsimp only at hh h7;rw [cP (fun e=>hk e.symm)] at hh;rw [GH Je hh hq hk] at h7;cases h9:oQ P tt (base+py.key) y st with|none=>rw [h9] at h7;cases h7|some r =>obtain⟨m',u'⟩:=r;rw [h9] at h7;simp only [cx,aF,dy] at h7;obtain⟨rfl,rfl⟩:=h7;refine fin m' (h8 st.mem m' hh h9) (h6 m' ((Dh Je hh hk h9).2 hq))
 rcases Jk he hm h1 with ⟨rfl,hx⟩|⟨B0,B,hnB,hh,rfl,hx⟩
 ·exact fin m2 h3 (hx m2)
 rcases Jj ha h3 with ⟨h5,h6⟩|⟨B',IJ,h5,h6⟩
 ·dsimp only at h5;subst h5;exact fin st.mem (h6 st.mem) h1
 dsimp only at h5 IJ;subst h5;have D5:px.key≠base+py.key:=fun e=>by rw [← e,eX (az.1 hh).1] at IJ;cases IJ;cases hnB
 rw [cP D5] at IJ;have h7:=h6 st.mem IJ;have h8:=hx (st.mem.set (base+py.key) B') (by rw [cP (fun e=>D5 e.symm)];exact hh);refine fin _ h7 ?_;rw [ant _ _ D5];exact h8
end
end Go.Eng
end
section
namespace Go.Eng
variable [bB]
open Go.RowKit (Below)
theorem ti {mem:List bx} {size:Nat} {l:Int} {h:Option Int} {x v:V} (hc:cutAt [] size l h x=some v):cutAt mem size l h x=some v:=by
 unfold cutAt at hc ⊢;split at hc;·exact hc
 ·simp [mF] at hc
 cases hc
theorem Pz {P:Program} {tt:Table} {mem:List bx} {T:TypeId} {x v:V} {lo hi:Option V} (hc:D4 P tt [] T x lo hi=some v):D4 P tt mem T x lo hi=some v:=by
 unfold D4 at hc ⊢;split;·exact hc
 rename_i dL;split at hc;·exact absurd rfl (dL _)
 split at hc;·cases hc
 split at hc;·cases hc
 split at hc;·split at hc;(·exact ti hc);split at hc;(·exact ti hc);cases hc
 split at hc;·cases hc
 split at hc;·exact ti hc
 split at hc;·exact ti hc
 cases hc
theorem MM {tt:Table} {mem:List bx} {T:TypeId} {p v:V} (h:pV tt [] T p=some v):pV tt mem T p=some v:=by cases p <;> simp [pV,rowOf] at h ⊢;exact h
theorem Jn {tt:Table} {mem:List bx} {T:TypeId} {p i v:V} (h:oh tt [] T p i=some v):oh tt mem T p i=some v:=by
 unfold oh at h ⊢;split at h;·split at h;(·split at h;(·cases p <;> simp [indexAt,mF] at h ⊢;exact h);cases h);cases h
 cases h
theorem Jo {tt:Table} {mem:List bx} {T:TypeId} {b o:Nat} {i:V}:oh tt mem T (.ptr b o) i=none:=by
 unfold oh;split;·split;(·split <;> rfl);rfl
 rfl
theorem Jp {P:Program} {tt:Table} {mem:List bx} {T:TypeId} {p i v:V} (h:(match oh tt [] T p i with|some v=>some v|none=>Af P tt T p i)=some v):(match oh tt mem T p i with|some v=>some v|none=>Af P tt T p i)=some v:=by
 split at h;·rename_i u hu;cases h;rw [Jn hu]
 have hp:∃ b o,p = .ptr b o:=by unfold Af at h;split at h;(·exact⟨_,_,rfl⟩);cases h
 obtain⟨b,o,rfl⟩:=hp;rw [Jo];exact h
theorem GJ {P:Program} {mem:List bx} {T:TypeId} {m i v:V} {ok:Bool} (h:kB P [] T m i ok=some v):kB P mem T m i ok=some v:=by
 unfold kB at h ⊢;split at h;·split at h;(·split at h;(·rename_i hk;rw [if_pos hk];unfold pX at h ⊢;split at h;(·simp at h);(·exact h);cases h);cases h);cases h
 cases h
theorem PA {mem:List bx} {it v:V} (h:Mq [] it=some v):Mq mem it=some v:=by
 unfold Mq at h;split at h;·simp at h
 cases h
theorem PB {P:Program} {tt:Table} {mem:List bx} {ts:Array TypeId} {ty:TypeId} {xs:List V} {v:V} (h:(match xh [] ts P xs with|some v=>some v|none=>D7 P tt ts ty xs)=some v) :
  (match xh mem ts P xs with|some v=>some v|none=>D7 P tt ts ty xs)=some v:=by
 by_cases hx:∃ b,xs=[.mp b];·obtain⟨b,rfl⟩:=hx;simp [xh,D7,iq,pB,fe] at h
 have hn:∀ m,xh m ts P xs=none:=fun m=>by unfold xh;split;(·exact absurd ⟨_,rfl⟩ hx);rfl
 rw [hn] at h ⊢;exact h
theorem MN (st:St) (mem:List bx) (x:Operand):St.eval { st with mem:=mem } x=st.eval x:=by cases x <;> rfl
theorem fQ (st:St) (mem:List bx):St.eval { st with mem:=mem }=st.eval:=funext fun x=>MN st mem x
theorem MO {P:Program} {mem:List bx} {s d:TypeId} {x v:V} (h:vp P [] s d x=some v):vp P mem s d x=some v:=by cases x <;> first|exact h|(simp [vp] at h)
theorem Ub {P:Program} {tt:Table} {st:St} {o:Oper} {v:V} (h:iY P tt { st with mem:=[] } o=some v):iY P tt st o=some v:=by
 obtain⟨dst,op,type,pos,after,guard⟩:=o;cases op;case load T x=>simp only [iY,fQ] at h ⊢;exact MM h
 case indexAddr T x i=>simp only [iY,fQ] at h ⊢;exact Jp h
 case entry it=>simp only [iY,fQ] at h ⊢;exact PA h
 case convert s d x=>simp only [iY,fQ] at h ⊢;exact MO h
 case lookup T x i ok=>simp only [iY,fQ] at h ⊢;exact GJ h
 case slice T x lo hi mx =>
  cases mx
  ·simp only [iY,fQ] at h ⊢;exact Pz h
  cases lo <;> cases hi <;> simp only [iY,fQ,reduceCtorEq] at h ⊢
  exact h
 case call c =>
  obtain⟨callee,args,ts⟩:=c
  cases callee with
  | builtin b=>cases b <;> first|(simp only [iY,fQ] at h ⊢;exact h)|(simp only [iY,fQ] at h ⊢;exact PB h)|(simp [iY] at h)
  | _=>simp [iY] at h
 all_goals first|(simp only [iY,fQ] at h ⊢;exact h)|(simp [iY] at h)
theorem yy {mem:List bx} {v v':V} (h:ej [] v=some v'):ej mem v=some v'∧iF v=[]:=by
 unfold ej at h;split at h;·exact⟨h,rfl⟩
 ·exact⟨h,rfl⟩
 ·exact⟨h,rfl⟩
 ·exact⟨h,rfl⟩
 ·exact⟨h,rfl⟩
 ·exact⟨h,rfl⟩
 ·simp at h
 ·exact⟨h,rfl⟩
 cases h
theorem vP {mem:List bx}:∀ {vs vs':List V},iD [] vs=some vs'→iD mem vs=some vs'∧vs.flatMap iF=[]
 | [],vs',h=>⟨h,rfl⟩
 | c :: r,vs',h=>by
  simp only [iD] at h ⊢
  split at h
  ·rename_i c' hc
   split at h
   ·rename_i r' hr
    obtain⟨h1,h2⟩:=yy (mem:=mem) hc
    obtain⟨h3,h4⟩:=vP (mem:=mem) hr
    rw [h1,h3]
    exact⟨h,by simp [ae,h2,h4]⟩
   cases h
  cases h
theorem PC {mem:List bx} {v v':V} (h:ke [] v=some v'):ke mem v=some v'∧fP v=[]:=by
 unfold ke at h;split at h;·rename_i cs;split at h;(·rename_i l hl;obtain⟨h1,h2⟩:=vP (mem:=mem) hl;exact⟨by simp only [ke,h1];exact h,h2⟩);cases h
 rename_i dL;obtain⟨h1,h2⟩:=yy (mem:=mem) h;exact⟨by cases v <;> first|exact h1|exact absurd rfl (dL _),by cases v <;> first|exact h2|exact absurd rfl (dL _)⟩
theorem vQ {mem:List bx}:∀ {vs vs':List V},iE [] vs=some vs'→iE mem vs=some vs'∧vs.flatMap fP=[]
 | [],vs',h=>⟨h,rfl⟩
 | c :: r,vs',h=>by
  simp only [iE] at h ⊢
  split at h
  ·rename_i c' hc
   split at h
   ·rename_i r' hr
    obtain⟨h1,h2⟩:=PC (mem:=mem) hc
    obtain⟨h3,h4⟩:=vQ (mem:=mem) hr
    rw [h1,h3]
    exact⟨h,by simp [ae,h2,h4]⟩
   cases h
  cases h
theorem rA {v v':V} (h:ej [] v=some v') {E:Env} {x:Value} (hr:cY E v x):cY E v' x:=by
 unfold ej at h;split at h;·cases h;exact hr
 ·cases h;exact vz hr
 ·cases h;exact hr
 ·cases h;cases hr with|full _ _ _ h=>exact h
 ·cases h;exact hr
 ·cases h;exact hr
 ·simp at h
 ·cases h;cases hr with|iU _ f _ _ xs ys hx hy h1 h2 =>(have e1:xs = #[]:=by simpa using hx.symm);(have e2:ys = #[]:=by simpa using hy.symm);subst e1;subst e2;exact .sc _ _
 cases h
theorem qd {E:Env}:∀ {vs vs':List V} {xs:List Value},iD [] vs=some vs'→cU E vs xs→cU E vs' xs
 | [],vs',xs,h,hr=>by cases h;exact hr
 | c :: r,vs',xs,h,hr=>by
  obtain⟨x,ys,rfl,h1,h2⟩:=hr.of_cons
  simp only [iD] at h
  split at h
  ·rename_i c' hc
   split at h
   ·rename_i r' FW
    cases h
    exact .cons (rA hc h1) (qd FW h2)
   cases h
  cases h
theorem EG {v v':V} (h:ke [] v=some v') {E:Env} {x:Value} (hr:cY E v x):cY E v' x:=by
 unfold ke at h;split at h;·rename_i cs;split at h;(·rename_i l hl;cases h;cases hr with|agg _ _ xs hlen hh =>have:=qd hl (E:=E) (xs:=xs.toList) ⟨by simpa using hlen,fun i c x hc hx=>hh i c x hc (by simpa using hx)⟩;exact .agg _ _ _ (by simpa using this.1) fun i c x hc hx=>this.2 i c x hc (by simpa using hx));cases h
 exact rA h hr
theorem vR {E:Env}:∀ {vs vs':List V} {xs:List Value},iE [] vs=some vs'→cU E vs xs→cU E vs' xs
 | [],vs',xs,h,hr=>by cases h;exact hr
 | c :: r,vs',xs,h,hr=>by
  obtain⟨x,ys,rfl,h1,h2⟩:=hr.of_cons
  simp only [iE] at h
  split at h
  ·rename_i c' hc
   split at h
   ·rename_i r' FW
    cases h
    exact .cons (EG hc h1) (vR FW h2)
   cases h
  cases h
theorem vS (mem:List bx) (r:V):iG mem [] r=mem:=by unfold iG;split <;> rfl
theorem AB.hole {P:Program} {f:FuncId} {vs vs':List V} {e:Nat} {rs:List V} (hp:iE [] vs=some vs') (h:AB P f vs' e rs) {mem:List bx} {key:Nat} (ft:mem[key]?=some .hole) :
  bI P f vs mem (.ms key 0 0 rs.length) (mem.set key (.rows 0 e rs)):=by
 obtain⟨v0,h⟩:=h;refine⟨h.1,fun E w xs hs hx=>?_⟩;obtain⟨V8,hk⟩:=vQ (mem:=mem) hp;have h1:=mG hs (keys:=[]) hx V8 (by rw [hk];simp);have hE:(E.qx w []).pure=⟨E.F,fun _ _=>none,E.gl⟩:=by refine Env.Mo (funext fun ad=>?_) rfl;simp only [Env.pure,Env.qx];cases hh:E.F ad <;> simp
 rw [hE] at h1;have AP:key<mem.length:=(az.1 ft).1;have iz:∀ v,E.cC key v=none:=hs.mem key _ ft;have qC:de ⟨E.F,fun _ _=>none,E.gl⟩ w { tmps := #[],defers:=[] } { fr:=[],mem:=[] } := ⟨hs.F,(fun k v g e c h=>by cases h),(fun k B h=>by simp at h),(fun k _ v=>rfl),(fun k B h=>by simp at h),(fun k k' v v' g e c e' c' h=>by cases h),.nil _⟩;refine (h.2 _ w xs qC h1).mono ?_;rintro en w' ⟨E',x,rfl,gE,pO,hr⟩;have pC:∀ k v g e c,E'.cC k v=some (g,e,c)→w.heap.size≤g:=fun k v g e c hb=>by (rcases gE.cC _ _ _ _ _ hb with ⟨_,_,_,_,h⟩|h);(·cases h);exact h
 have hold:∀ b,b<w.heap.size→w'.heap[b]?=w.heap[b]?:=fun b hb=>gE.heap b hb fun _ _ _ _ h=>by cases h
 have hFo:∀ ad y,E'.F ad=some y→E.F ad=some y∨w.heap.size≤ad.block:=fun ad y hy=>by (rcases gE.F _ _ hy with h|h|⟨_,_,_,_,h⟩);(·exact .inl h);(·exact .inr h);cases h
 have PD:(⟨E'.F,fun k v=>if k=key then (if v=0 then E'.cC 0 v0 else none) else E.cC k v,E'.gl⟩:Env).cC key 0=E'.cC 0 v0:=by simp
 have Yw:∀ v,v≠0→(⟨E'.F,fun k v=>if k=key then (if v=0 then E'.cC 0 v0 else none) else E.cC k v,E'.gl⟩:Env).cC key v=none:=fun v hv=>by simp [hv]
 have ru:∀ k v,k≠key→(⟨E'.F,fun k v=>if k=key then (if v=0 then E'.cC 0 v0 else none) else E.cC k v,E'.gl⟩:Env).cC k v=E.cC k v:=fun k v hk=>if_neg hk;generalize Wf:(⟨E'.F,fun k v=>if k=key then (if v=0 then E'.cC 0 v0 else none) else E.cC k v,E'.gl⟩:Env)=E2 at PD Yw ru;have jV:E2.F=E'.F:=by rw [← Wf]
 have CY:E2.pure=E'.pure:=Env.Mo jV rfl;have Lh:∀ v t,E2.cC key v=some t→v=0∧E'.cC 0 v0=some t:=fun v t ht=>by by_cases hv:v=0;(·subst hv;exact⟨rfl,PD ▸ ht⟩);rw [Yw v hv] at ht;cases ht
 have hle:E.le E2:=⟨fun ad y hy=>by rw [jV];exact gE.le.F _ _ hy,fun k v t hk=>by by_cases fJ:k=key;(·subst fJ;rw [iz v] at hk;cases hk);rw [ru k v fJ];exact hk⟩;refine⟨E2,x,rfl,⟨hle,fun k v g e c hk=>?_,fun ad y hy=>?_,gE.os,gE.tape,gE.output,gE.size,fun b hb _=>hold b hb⟩,⟨fun ad y hy=>pO.F _ _ (by rw [← jV];exact hy),fun k v g e c hk=>?_,fun k B hk=>?_,fun k hk v=>?_,fun k B hk v hv=>?_,fun k k' v v' g e1 c1 e2 c2 h5 h6=>?_,.nil _⟩,?_⟩;·by_cases fJ:k=key;(·subst fJ;obtain⟨-,h⟩:=Lh _ _ hk;exact .inr (pC _ _ _ _ _ h));rw [ru k v fJ] at hk;exact .inl ⟨k,v,e,c,hk⟩
 ·rw [jV] at hy;(rcases hFo ad y hy with h|h);(·exact .inl h);exact .inr (.inl h)
 ·by_cases fJ:k=key;(·subst fJ;obtain⟨-,h⟩:=Lh _ _ hk;exact pO.lt _ _ _ _ _ h);rw [ru k v fJ] at hk;have:=hs.lt _ _ _ _ _ hk;have:=gE.size;omega
 ·rw [bX] at hk;by_cases fJ:key=k;(·subst fJ;simp only [if_true,AP] at hk;cases hk;have h0:=pO.mem 0 _ rfl;(rcases h0 with ⟨h1,h2⟩|⟨g,T,ys,c,h1,h2,h3,h4,h5,h6⟩);(·exact .inl ⟨h1,by rw [PD];exact h2⟩);exact .inr ⟨g,T,ys,c,by rw [PD];exact h1,h2,h3,h4,by rw [CY];exact h5,fun o=>by rw [jV];exact h6 o⟩);rw [if_neg fJ] at hk;refine (hs.mem k B hk).mono hle (fun v hv=>by rw [ru k v (fun e=>fJ e.symm)];exact hv) (fun g e c hb=>hold g (hs.lt _ _ _ _ _ hb)) fun g e c o hb hn=>?_;rw [jV];cases hy:E'.F ⟨g,o,none⟩ with|none=>rfl|some y =>(rcases hFo _ y hy with h|h);(·rw [hn] at h;cases h);have:=hs.lt _ _ _ _ _ hb;simp at h;omega
 ·dsimp only at hk;rw [arq] at hk;rw [ru k v (by omega)];exact hs.top k (by dsimp only;omega) v
 ·rw [bX] at hk;by_cases fJ:key=k;(·subst fJ;simp only [if_true,AP] at hk;cases hk;exact Yw v (by simp [bx.dZ] at hv;omega));rw [if_neg fJ] at hk;rw [ru k v (fun e=>fJ e.symm)];exact hs.dZ k B hk v hv
 ·by_cases iw:k=key <;> by_cases kG:k'=key;(·rw [iw,kG]);(·subst iw;obtain⟨-,h⟩:=Lh _ _ h5;rw [ru k' _ kG] at h6;have:=hs.lt _ _ _ _ _ h6;have:=pC _ _ _ _ _ h;omega);(·subst kG;obtain⟨-,h⟩:=Lh _ _ h6;rw [ru k _ iw] at h5;have:=hs.lt _ _ _ _ _ h5;have:=pC _ _ _ _ _ h;omega);rw [ru k _ iw] at h5;rw [ru k' _ kG] at h6;exact hs.apart _ _ _ _ _ _ _ _ _ h5 h6
 rcases El hr with ⟨h0,rfl⟩|⟨g,e,c,aa,cap,rfl,hb,hl,h0,hc⟩
 ·rw [h0];exact .ja _ _ _ _
 exact .ms _ _ _ _ _ g e c _ _ (by rw [PD];exact hb) hl h0 hc
theorem de.GK {E:Env} {w:World} {a:Act} {st:St} (hs:de E w a st) {xs:Array Value} {rs:List V} {e c:Nat} (T:TypeId) (hl:rs.length≤c) (hr:mE E.pure e rs (fun o=>xs[o]?)) :
  ∃ E',de E' (w.alloc (.cells xs T (0,0))) a st∧ic E w E' (w.alloc (.cells xs T (0,0)))∧cY E' (.slice rs) (.slice (some ⟨w.heap.size,0,none⟩) rs.length c):=by
 have p8:∀ o,(w.alloc (.cells xs T (0,0))).cell? ⟨w.heap.size,o,none⟩=xs[o]?:=fun o=>nQ (heap_alloc_new w _) o;have hle:E.le ⟨fun ad=>match E.F ad with|some x=>some x|none=>if ad.block=w.heap.size∧ad.spot=none then xs[ad.off]? else none,E.cC,E.gl.mono fun ad x h=>by simp only [h]⟩:=⟨fun ad x h=>by dsimp only;rw [h],fun _ _ _ h=>h⟩;refine⟨⟨fun ad=>match E.F ad with|some x=>some x|none=>if ad.block=w.heap.size∧ad.spot=none then xs[ad.off]? else none,E.cC,E.gl.mono fun ad x h=>by simp only [h]⟩,⟨fun ad x hx=>?_,fun k v g e c h=>?_,fun k B hB=>?_,hs.top,hs.dZ,hs.apart,hs.fr.mono hle⟩,⟨hle,fun k v g e c h=>.inl ⟨k,v,e,c,h⟩,fun ad x hx=>?_,rfl,rfl,rfl,by simp,fun b hb _=>ed w _ b hb⟩,?_⟩;·dsimp only at hx;split at hx;(·rename_i y hy;cases hx;rw [World.cell?_alloc_lt w _ ad (World.block_lt_of_cell? w ad (hs.F ad _ hy))];exact hs.F ad _ hy);split at hx;(·rename_i hc;obtain⟨b,o,el⟩:=ad;obtain⟨rfl,rfl⟩:=hc;rw [p8];exact hx);cases hx
 ·have:=hs.lt _ _ _ _ _ h;simp;omega
 ·refine (hs.mem k B hB).mono hle (fun v h=>h) (fun g e' c' hb=>ed w _ g (hs.lt _ _ _ _ _ hb)) fun g e c o hb hn=>?_;dsimp only;rw [hn];have:=hs.lt _ _ _ _ _ hb;simp;intro h;omega
 ·dsimp only at hx;split at hx;(·rename_i y hy;cases hx;exact .inl hy);split at hx;(·rename_i hc;exact .inr (.inl (by rw [hc.1];exact aB _)));cases hx
 have hn:∀ o,E.F ⟨w.heap.size,o,none⟩=none:=fun o=>by cases hx:E.F ⟨w.heap.size,o,none⟩ with|none=>rfl|some x=>have:=World.block_lt_of_cell? w _ (hs.F _ _ hx);simp at this
 refine .slice _ rs _ c e ⟨w.heap.size,0,none⟩ (fun i j=>(xs[i*e+j]?).getD undef) (fun _=>rfl) hl (fun i row hi=>(hr i row hi).1) (fun i row j cc hi hj=>?_) (fun i row j cc hi hj=>?_) fun i row j cc hi hj=>?_;·obtain⟨x,hx,h1,h2⟩:=(hr i row hi).2 j cc hj;rw [add_lit,cr];simp only [hn,true_and,if_true,and_self];dsimp only at hx;rw [hx];rfl
 ·obtain⟨x,hx,h1,h2⟩:=(hr i row hi).2 j cc hj;dsimp only at hx ⊢;rw [hx];exact h1
 obtain⟨x,hx,h1,h2⟩:=(hr i row hi).2 j cc hj;dsimp only at hx ⊢;rw [hx];exact h2.mono (Env.lq hle)
section
variable {P:Program} {tt:Table} (ht:TT P tt)
include ht
theorem AQ {E:Env} {w:World} {a:Act} {st:St} (hs:de E w a st) {o:Oper} {mem:List bx} {Q:V→Prop} {R:St→Prop} (h:tL P tt o { st with mem:=mem } Q) (hQ:∀ v,Q v→R (st.put o.dst v))
  (kf:∀ v,iY P tt { st with mem:=mem } o=some v→∃ x,(execOp a.eval o).run P w = .ok (.value x) w∧cY E v x)
  {ρ:Option Nat} {n:Nat} {next:Act→World→Prop} {Q':Exit→Act→World→Prop} (hn:∀ v w',Gv E w a o.dst R v w'→next (a.put o.dst v) w'):o.wpIn (WF ρ) n P a w next Q':=by
 obtain⟨dst,op,type,pos,after,guard⟩:=o;have gen:∀ (oO:∀ c,op ≠ .defer c),(∀ f xs ts,op ≠ .call { callee:=.value f,args:=xs,argTypes:=ts })→(∀ T ps,op ≠ .build T ps)→(∀ T l ps,op ≠ .buildSlice T l ps)→Oper.wpIn (WF ρ) n P { dst:=dst,op:=op,type:=type,pos:=pos,after:=after,guard:=guard } a w next Q':=by intro oO h1 h2 h3;(have hv:∃ v,iY P tt { st with mem:=mem } { dst:=dst,op:=op,type:=type,pos:=pos,after:=after,guard:=guard }=some v∧Q v:=by unfold tL at h;split at h;(·rename_i heq;exact absurd heq (h1 _ _ _));unfold y3 at h;dsimp only at h;split at h;(·rename_i v hv;split at hv;(·exact absurd rfl (h2 _ _));(·exact absurd rfl (h3 _ _ _));exact⟨v,hv,h⟩);exact h.elim);obtain⟨v,hv,hq⟩:=hv;obtain⟨x,h4,h5⟩:=kf v hv;exact dr oO h4 (hn _ _ ⟨E,_,hs.put dst h5,ic.refl E w,hQ _ hq⟩)
 cases op;case defer c=>simp [tL,y3,iY] at h
 case build T ps =>
  simp only [tL,y3,fQ] at h
  split at h
  ·rename_i v hv
   obtain⟨x,h1,h2⟩:=vK ht hs hv
   exact dr (by simp) (dz h1) (hn _ _ ⟨E,_,hs.put dst h2,ic.refl E w,hQ _ h⟩)
  exact h.elim
 case buildSlice T len ps =>
  simp only [tL,y3,fQ] at h
  split at h
  ·rename_i v hv
   split at hv
   ·rename_i size rs hl
    cases hv
    obtain⟨Z,e,h1,h2,h3,h4⟩:=Ej ht (fun p _=>hs.eval p.2) hl
    obtain⟨E',h5,h6,h7⟩:=hs.GK (xs:=Z) (rs:=rs) (c:=len) e (by omega) h4
    rw [h3] at h7
    exact dr (by simp) (jr h1) (hn _ _ ⟨E',_,h5.put dst h7,h6,hQ _ h⟩)
   cases hv
  exact h.elim
 case call c =>
  obtain⟨callee,args,ts⟩:=c
  cases callee with
  | value f =>
   simp only [tL,fQ] at h
   split at h
   ·rename_i g vs hg
    obtain⟨vs',r,h1,h2,h3⟩:=h
    obtain⟨h4,h5⟩:=vQ (mem:=st.mem) h1
    obtain⟨ys,h6,h7⟩:=sd (P:=P) (w:=w) (hs.eval f) (hs.pY args) hg
    have hc:ym P g vs st dst R:=by
     rcases h2 with h2|h2
     ·exact .inl ⟨vs',r,h4,h2,by rw [h5,vS];exact hQ _ h3⟩
     refine .inr (.inr (.inr ⟨r,fun E1 w1 xs1 Gr ry=>?_,hQ _ h3⟩))
     obtain⟨x,g1,g2⟩:=h2 E1 w1 xs1 Gr (vR h1 ry)
     exact⟨x,g1,g2⟩
    rcases yr hs hc h6 with ⟨h8,h9⟩|⟨v,h8,h9⟩
    ·refine yp (by simp) (f:=g) (xs:=ys) ?_ h9 fun e w' ⟨v,hv,ha⟩=>⟨v,hv,hn _ _ ha⟩
     rw [← h8,← h7]
     simp only [execOp,resolve]
    refine dr (by simp) (v:=v) ?_ (hn _ _ h9)
    rw [← h8,← h7]
    simp only [execOp,resolve]
   exact h.elim
  | _=>exact gen (by simp) (by simp) (by simp) (by simp)
 all_goals exact gen (by simp) (by simp) (by simp) (by simp)
omit ht in
theorem vT {mem:List bx} {k:Nat} (h:mem[k]?=some .hole) (B:bx):dm mem k B=mem.set k B:=by unfold dm;rw [if_pos (az.1 h).1]
theorem GL {all:Array Oper} {base:Nat} {E:Env} {w:World} {a:Act} {st:St} (hs:de E w a st) {i:Nat} {o:Oper} {p:Pl} {Q:St→Prop} (hi:all[i]?=some o) (h:gx P tt all base o p st Q)
  {ρ:Option Nat} {n:Nat} {next:Act→World→Prop} {Q':Exit→Act→World→Prop} (hn:∀ v w',Gv E w a o.dst Q v w'→next (a.put o.dst v) w'):wpOpIn (WF ρ) n P all Q' i next a w:=by
 unfold wpOpIn;rw [hi];dsimp only;unfold gx at h;split at h;·rename_i hw;rw [if_pos (iO hs hw)];split at h;(·rw [zJ] at h;exact AQ ht hs h (fun _ h=>h) (fun v hv=>tb ht hs (Ub hv)) hn);(·rw [zJ] at h;exact AQ ht hs h (fun _ h=>h) (fun v hv=>tb ht (hs.ez _) hv) hn);(·obtain⟨hh,h⟩:=h;rw [gH] at hh;split at h;(·rename_i B v hb;refine gN ht hs (key:=base+p.key) (.inl hh) ?_ hn;unfold hD at hb;unfold dn;split at hb;(·rename_i T heq;rw [heq];dsimp only;split at hb;(·rename_i i hi;cases hb;rw [hi];dsimp only;rw [vT hh];exact h);cases hb);(·rename_i heq;rw [heq];dsimp only;split at hb;(·rename_i i hi;cases hb;rw [hi];dsimp only;rw [vT hh];exact h);cases hb);(·rename_i heq;rw [heq];dsimp only;split at hb;(·rename_i i hi;cases hb;rw [hi];dsimp only;rw [vT hh];exact h);cases hb);(·rename_i heq;rw [heq];dsimp only;cases hb;rw [vT hh];exact h);(·rename_i heq;rw [heq];dsimp only;split at hb;(·rename_i i hi;cases hb;rw [hi];dsimp only;rw [vT hh];exact h);cases hb);cases hb);rw [Dd] at h;unfold nd at h;split at h;(·rename_i f xs ts heq;split at h;(·rename_i g vs hg;obtain⟨vs',e,rs,h1,h2,h3⟩:=h;refine gN ht hs (key:=base+p.key) (.inl hh) ?_ hn;unfold dn;rw [heq];dsimp only;split;(·rename_i k hk;rw [hk] at hg;simp [di] at hg);rw [hg];exact .inr (.inl ⟨_,_,h2.hole h1 hh,h3⟩));exact h.elim);exact h.elim);(·obtain⟨hh,h⟩:=h;rw [gH] at hh;split at h;(·rename_i m v hb;refine gN ht hs (key:=base+p.key) (.inl hh) ?_ hn;unfold oQ at hb;unfold dn;split at hb;(·rename_i heq;rw [heq];dsimp only;split at hb;(·rename_i i hi;cases hb;rw [hi];exact h);cases hb);(·rename_i xs ts heq;rw [heq];dsimp only;split at hb;(·rename_i s x TW;rw [TW];dsimp only;split at hb;(·rename_i size rY rows ha;rw [ha];simp only [aF] at hb;dsimp only;rw [hb];exact h);cases hb);cases hb);(·rename_i heq;rw [heq];dsimp only;split at hb;(·rename_i i hi;cases hb;rw [hi];exact h);cases hb);(·rename_i heq;rw [heq];dsimp only;split at hb;(·rename_i i hi;cases hb;rw [hi];exact h);cases hb);cases hb);exact h.elim);(·split at h;(·rename_i m hb;refine gN ht hs (key:=st.mem.length) (.inr rfl) ?_ hn;unfold rI at hb;unfold dn;split at hb;(·rename_i heq;rw [heq];dsimp only;split at hb;(·rename_i b off hp;split at hb;(·rename_i hk;subst hk;rw [hp,hb];exact h);cases hb);cases hb);cases hb);exact h.elim);(·split at h;(·rename_i v hb;refine gN ht hs (key:=st.mem.length) (.inr rfl) ?_ hn;replace hb:=ED hb;have ho:=MH (P:=P) hb;unfold ow at hb;unfold dn;split at hb;(·rename_i heq;rw [heq];dsimp only;rw [ho];exact h);cases hb);exact h.elim);(·refine gN ht hs (key:=st.mem.length) (.inr rfl) ?_ hn;unfold o8 at h;unfold dn;split at h;(·rename_i f xs ts heq;split at h;(·rename_i g vs hg;rw [heq];dsimp only;split;(·rename_i k hk;rw [hk] at hg;simp [di] at hg);rw [hg];(rcases h with ⟨vs',r,h1,h2,h3⟩|⟨r,m',h1,h2⟩);(·exact .inl ⟨vs',r,h1,h2,h3⟩);exact .inr (.inl ⟨r,m',h1,h2⟩));exact h.elim);exact h.elim);refine gN ht hs (key:=st.mem.length) (.inr rfl) ?_ hn;unfold vO at h;unfold dn;split at h;(·rename_i f xs ts heq;split at h;(·rename_i g vs hg;obtain⟨v,B0,B,-,-,h1,⟨h2,-⟩,h3⟩:=h;rw [heq];dsimp only;split;(·rename_i k hk;rw [hk] at hg;simp [di] at hg);rw [hg];exact .inr (.inl ⟨_,_,h2,h3⟩));exact h.elim);split at h;(·rename_i m hb;unfold rI at hb;split at hb;(·rename_i heq;rw [heq];dsimp only;split at hb;(·rename_i b off hp;split at hb;(·rename_i hk;subst hk;rw [hp,hb];exact h);cases hb);cases hb);cases hb);exact h.elim
 ·rename_i hw;rw [if_neg (by rw [iO hs hw];simp)];exact⟨fun _ _=>trivial,hn _ _ ⟨E,_,hs.put o.dst (.sc _ _),ic.refl E w,h⟩⟩
 exact h.elim
end
end Go.Eng
end
section
namespace Go.Eng
variable [bB]
def pl0:Pl:=⟨.n,0,[],[],[]⟩
def ox (o:Oper) (k:Nat):Bool:=o.after.any fun e=>Region.binds .any e&&e.on==k
def ss (all:Array Oper) (y:Oper) (py:Pl):Nat→List Oper→List Pl→Bool
 | _,[],_=>true
 | k,x :: r,px=>(ox y k||py.Wc.contains k||xu all x (px.headD pl0) y py)&&ss all y py (k+1) r px.tail
def Jq (o:Oper) (i:Nat):Bool:=o.after.all fun e=>!Region.binds .any e||decide (e.on<i)
def su (plan:List Pl) (i:Nat):Pl:=(plan[i]?).getD pl0
def PE (plan:List Pl) (y:Oper) (py:Pl):Bool:=py.Wc.all fun k=>ox y k||y.after.any fun e=>Region.binds .any e&&(su plan e.on).Wc.contains k
def zK (all:Array Oper) (plan:List Pl):Nat→List Oper→List Pl→Bool
 | _,[],_=>true
 | i,y :: r,py=>Jq y i&&PE plan y (py.headD pl0)&&ss all y (py.headD pl0) 0 (all.toList.take i) plan&&zK all plan (i+1) r py.tail
def ug (all:Array Oper) (plan:List Pl):Bool:=zK all plan 0 all.toList plan
theorem uK {α:Type} (l:List α) (i:Nat) (d:α):(l.drop i).headD d=(l[i]?).getD d:=by rw [List.headD_eq_head?_getD,List.head?_drop]
theorem vU {all:Array Oper} {y:Oper} {py:Pl} {plan:List Pl}:∀ {l:List Oper} {n:Nat},ss all y py n l (plan.drop n)=true→∀ k x,l[k]?=some x→(ox y (n+k)=true∨(n+k)∈py.Wc)∨xu all x (su plan (n+k)) y py=true
 | [],n,_,k,x,h=>by simp at h
 | z :: r,n,h,k,x,hk=>by
  simp only [ss,aL,gv,uK] at h
  cases k with
  | zero=>simp at hk;subst hk;simpa [su] using h.1
  | succ k =>
   have h2:=h.2
   rw [arD] at h2
   have:=vU h2 k x (by simpa using hk)
   rw [mr,Te 1 k] at this
   exact this
theorem yz {all:Array Oper} {plan:List Pl}:∀ {l:List Oper} {n:Nat},zK all plan n l (plan.drop n)=true→∀ k y,l[k]?=some y→(Jq y (n+k)=true∧PE plan y (su plan (n+k))=true)∧ss all y (su plan (n+k)) 0 (all.toList.take (n+k)) plan=true
 | [],n,_,k,x,h=>by simp at h
 | z :: r,n,h,k,x,hk=>by
  simp only [zK,aL,uK] at h
  cases k with
  | zero=>simp at hk;subst hk;exact h.1
  | succ k =>
   have h2:=h.2
   rw [arD] at h2
   have:=yz h2 k x (by simpa using hk)
   rw [mr,Te 1 k] at this
   exact this
theorem qe {all:Array Oper} {plan:List Pl} (h:ug all plan=true) {i:Nat} {y:Oper} (hi:all[i]?=some y) :
  (∀ e∈y.after,Region.binds .any e=true→e.on<i)∧(∀ k∈(su plan i).Wc,ox y k=true∨∃ e∈y.after,Region.binds .any e=true∧k∈(su plan e.on).Wc)∧∀ k x,k<i→all[k]?=some x→(ox y k=true∨k∈(su plan i).Wc)∨xu all x (su plan k) y (su plan i)=true:=by
 have:=yz (n:=0) h i y (by simpa using hi);rw [cr] at this;obtain⟨⟨h1,h3⟩,h2⟩:=this;refine⟨fun e he hb=>?_,fun k hk=>?_,fun k x hk hx=>?_⟩;·unfold Jq at h1;have:=Array.all_eq_true_iff_forall_mem.1 h1 e he;simpa [hb] using this
 ·unfold PE at h3;have:=aZ.1 h3 k hk;rw [gv] at this;refine this.imp id fun h=>?_;rw [asi] at h;obtain⟨e,he,h⟩:=h;rw [aL] at h;exact⟨e,he,h.1,by simpa using h.2⟩
 have:=vU (n:=0) h2 k x (by rw [jI hk];simpa using hx);rwa [cr] at this
section
variable {P:Program} {tt:Table} {all:Array Oper} {plan:List Pl} {base:Nat}
def GM (P:Program) (tt:Table) (all:Array Oper) (plan:List Pl) (base:Nat):List Nat→St→(St→Prop)→Prop
 | [],st,K=>K st
 | i :: r,st,K=>match all[i]? with
  | some o=>gx P tt all base o (su plan i) st fun st'=>GM P tt all plan base r st' K
  | none=>False
theorem qN {o:Oper} {p:Pl} {st:St} {K K':St→Prop} (h:∀ s,K s→K' s) (hh:gx P tt all base o p st K):gx P tt all base o p st K':=by
 by_cases hz:p.cls = .z;·unfold gx at hh ⊢;split at hh;(·rw [hz] at hh ⊢;exact AF hh h);(·exact h _ hh);exact hh.elim
 obtain⟨v,m,h1,h2⟩:=(jP hz).1 hh;exact (jP hz).2 ⟨v,m,h1,h _ h2⟩
theorem AR {i:Nat} {o:Oper} (hi:all[i]?=some o) {K:St→Prop} {σ2:List Nat}:∀ {σ1:List Nat} {st:St},(∀ k∈σ1,∀ x,all[k]?=some x→xu all x (su plan k) o (su plan i)=true) →
  GM P tt all plan base (σ1++i :: σ2) st K→gx P tt all base o (su plan i) st fun st'=>GM P tt all plan base (σ1++σ2) st' K
 | [],st,_,h=>by simpa [GM,hi] using h
 | k :: r,st,hp,h=>by
  simp only [ay,GM] at h ⊢
  cases hk:all[k]? with
  | none=>rw [hk] at h;exact h.elim
  | some x =>
   rw [hk] at h
   dsimp only at h ⊢
   exact Jm (hp k (by simp) x hk) (qN (fun s hs=>AR hi (fun k' lY=>hp k' (by simp [lY])) hs) h)
theorem vV {y:Oper} {k:Nat} {listed:Array Bool} (h:ox y k=true) (hl:∀ e∈y.after,Region.binds .any e=true→listed.getD e.on false=true):listed.getD k false=true:=by unfold ox at h;rw [asi] at h;obtain⟨e,he,h⟩:=h;rw [aL,beq_iff_eq] at h;rw [← h.2];exact hl e he h.1
def PF (all:Array Oper) (listed:Array Bool):Prop:=∀ (i:Nat) (o:Oper),listed.getD i false=true→all[i]?=some o→∀ e∈o.after,Region.binds .any e=true→listed.getD e.on false=true
theorem Jr (gV:ug all plan=true) {listed:Array Bool} (hc:PF all listed) (kO:listed.size=all.size):∀ (i:Nat) (y:Oper),all[i]?=some y→(∀ e∈y.after,Region.binds .any e=true→listed.getD e.on false=true)→∀ k∈(su plan i).Wc,listed.getD k false=true:=by intro i;induction i using Nat.strongRecOn with|_ i ih =>intro y hy hl k hk;(rcases (qe gV hy).2.1 k hk with h|⟨e,he,hb,h⟩);(·exact vV h hl);have h1:=hl e he hb;(have bL:e.on<all.size:=by have:e.on<i:=(qe gV hy).1 e he hb;have:=(dO.1 hy).1;omega);have hz:=cd bL;exact ih e.on ((qe gV hy).1 e he hb) _ hz (hc e.on _ h1 hz) k h
theorem GO (ht:TT P tt) (gV:ug all plan=true) {ρ:Option Nat} {n:Nat} {K:St→Prop} {Q':Exit→Act→World→Prop}:∀ (fuel:Nat) (listed:Array Bool) (σ:List Nat),listed.size=all.size→PF all listed→σ.length≤fuel→σ.Pairwise (· < ·)→(∀ i,i∈σ↔listed[i]?=some false) →
  ∀ {E:Env} {w:World} {a:Act} {st:St},de E w a st→GM P tt all plan base σ st K→(∀ a' w',a'.defers=a.defers→(∃ E' st',de E' w' a' st'∧ic E w E' w'∧K st')→Q' .normal a' w')→wpAnyIn (WF ρ) n P .any all Q' fuel listed a w:=by
 intro fuel;have done:∀ (listed:Array Bool) (σ:List Nat),listed.size=all.size→σ.Pairwise (· < ·)→(∀ i,i∈σ↔listed[i]?=some false)→Region.ready .any all listed=[]→σ=[]:=by intro listed σ kO Di ng hr;cases σ with|nil=>rfl|cons i r =>exfalso;have hif:=(ng i).1 (by simp);(have bL:i<all.size:=by rw [← kO];exact (dO.1 hif).1);(have:i∈Region.ready .any all listed:=by refine mem_ready.2 ⟨by simp [kU,hif],all[i],cd bL,fun e he hb=>?_⟩;have X6:=(qe gV (cd bL)).1 e he hb;(have hs:e.on<listed.size:=by omega);cases hv:listed[e.on] with|true=>simp [kU,cd hs,hv]|false =>have:e.on∈i :: r:=(ng e.on).2 (by rw [cd hs,hv]);(rcases cI.1 this with h|h);(·omega);have:=List.rel_of_pairwise_cons Di h;omega);rw [hr] at this;cases this
 induction fuel with|zero =>(intro listed σ kO o2 hlen Di ng E w a st hs h hq;have hσ:σ=[]:=cj.1 (by omega);subst hσ;refine⟨?_,hq _ _ rfl ⟨E,st,hs,ic.refl E w,h⟩⟩;cases hr:Region.ready .any all listed with|nil=>rfl|cons j l =>(have hj:j∈Region.ready .any all listed:=by rw [hr];simp);obtain⟨h0,o,ho,-⟩:=mem_ready.1 hj;(have bL:j<listed.size:=by rw [kO];exact (dO.1 ho).1);have:j∈([]:List Nat):=(ng j).2 (by rw [cd bL];congr 1;simpa [kU,cd bL] using h0);cases this)|succ fuel ih =>intro listed σ kO o2 hlen Di ng E w a st hs h hq;refine⟨fun hr=>?_,fun i hi=>?_⟩;(·have:=done listed σ kO Di ng hr;subst this;exact hq _ _ rfl ⟨E,st,hs,ic.refl E w,h⟩);obtain⟨h0,o,ho,Yx⟩:=mem_ready.1 hi;(have bL:i<listed.size:=by rw [kO];exact (dO.1 ho).1);(have hif:listed[i]?=some false:=by rw [cd bL];congr 1;simpa [kU,cd bL] using h0);obtain⟨σ1,σ2,rfl⟩:=List.append_of_mem ((ng i).2 hif);rw [asq] at Di;obtain⟨qC,rH,Yy⟩:=Di;rw [List.pairwise_cons] at rH;have js:=AR ho (σ1:=σ1) (fun k hk x hx=>by have hki:k<i:=Yy k hk i (by simp);(rcases (qe gV ho).2.2 k x hki hx with hw|hw);(·exfalso;have h1:=hw.elim (fun hw=>vV hw Yx) fun hw=>Jr gV o2 kO i o ho Yx k hw;have h2:=(ng k).1 (by simp [hk]);rw [kU,h2] at h1;cases h1);exact hw) h;refine GL ht hs ho js ?_;rintro v w' ⟨E',st',h1,h2,h3⟩;refine ih (listed.setIfInBounds i true) (σ1++σ2) (by simpa using kO) ?_ ?_ ?_ ?_ h1 h3 fun a' w'' hd ⟨Ch,I9,h4,h5,h6⟩=>hq _ _ (hd.trans (put_defers _ _ _)) ⟨Ch,I9,h4,h2.trans h5,h6⟩;(·intro j z hj hz e he hb;by_cases hji:j=i;(·subst hji;rw [ho] at hz;cases hz;exact getD_set_true (Yx e he hb));rw [getD_set_ne false (fun e=>hji e.symm)] at hj;exact getD_set_true (o2 j z hj hz e he hb));(·simp at hlen ⊢;omega);(·rw [asq];exact⟨qC,rH.2,fun x hx y hy=>Yy x hx y (by simp [hy])⟩);intro j;rw [Array.getElem?_setIfInBounds];by_cases hji:i=j;(·subst hji;rw [if_pos rfl];constructor;(·intro hj;(rcases ib.1 hj with h|h);(·have:=Yy i h i (by simp);omega);have:=rH.1 i h;omega);split;(·intro h;cases h);intro h;cases h);rw [if_neg hji,← ng j];simp only [ib,cI];constructor;(·rintro (h|h);(·exact .inl h);exact .inr (.inr h));rintro (h|h|h);(·exact .inl h);(·exact absurd h.symm hji);exact .inr h
def runM (P:Program) (tt:Table) (all:Array Oper) (base:Nat):List Oper→List Pl→St→(St→Prop)→Prop
 | [],_,st,K=>K st
 | o :: r,p :: ps,st,K=>gx P tt all base o p st fun st'=>runM P tt all base r ps st' K
 | _ :: _,[],_,_=>False
@[congr] theorem Yz {base Wg:Nat} {l:List Oper} {ps:List Pl} {st st':St} {K:St→Prop} (hb:base=Wg) (h:st=st'):runM P tt all base l ps st K=runM P tt all Wg l ps st' K:=by rw [hb,h]
theorem PG {K:St→Prop}:∀ {l:List Oper} {n:Nat} {st:St},(∀ k x,l[k]?=some x→all[n+k]?=some x)→runM P tt all base l (plan.drop n) st K→GM P tt all plan base (List.range' n l.length) st K
 | [],n,st,_,h=>h
 | o :: r,n,st,dN,h=>by
  have ho:all[n]?=some o:=dN 0 o rfl
  rw [af,aro,GM,ho]
  dsimp only
  cases hd:plan.drop n with
  | nil=>rw [hd] at h;exact h.elim
  | cons p ps =>
   rw [hd] at h
   have hp:su plan n=p:=by rw [su,← uK,hd];rfl
   have PH:ps=plan.drop (n+1):=by rw [← arD,hd];rfl
   rw [hp]
   subst PH
   exact qN (fun s hs=>PG (fun k x hk=>by have:=dN (k+1) x (by simpa using hk);rwa [show n+(k+1)=n+1+k by omega] at this) hs) h
theorem de.adf {E:Env} {w:World} {a:Act} {st:St} (hs:de E w a st) (m:Nat):de E w a { st with mem:=st.mem++List.replicate m .hole }:=by
 have get:∀ {k:Nat} {B:bx},(st.mem++List.replicate m .hole)[k]?=some B→st.mem[k]?=some B∨(B=bx.hole∧st.mem.length≤k):=fun {k B} h=>by (rcases bz k st.mem.length with hk|hk);(·rw [bA hk] at h;exact .inl h);rw [a8 hk,arU] at h;split at h;(·cases h;exact .inr ⟨rfl,hk⟩);cases h
 refine⟨hs.F,hs.lt,fun k B hk=>?_,fun k hk=>hs.top k (by simp at hk;omega),fun k B hk v hv=>?_,hs.apart,hs.fr⟩;·(rcases get hk with h|⟨rfl,fJ⟩);(·exact hs.mem k B h);exact fun v=>hs.top k fJ v
 rcases get hk with h|⟨rfl,fJ⟩
 ·exact hs.dZ k B h v hv
 exact hs.top k fJ v
theorem qf (ht:TT P tt) (hm:P.follows .mixedOrders=true) {ρ:Option Nat} {n0:Nat} {st:St} {Q:Exit→St→Prop} (plan:List Pl) (m:Nat) {id:Nat} {ops:Array Oper} (gV:ug ops plan=true)
  (h:runM P tt ops st.mem.length ops.toList plan { st with mem:=st.mem++List.replicate m .hole } (Q .normal)):ek P ρ n0 (.region id ops true) st Q:=fun E0 w0 h0 E w a he hs oq=>by
 refine wpIn_region_any hm ?_
 have hd:de E { w with drawn:=w.drawn+1 } a { st with mem:=st.mem++List.replicate m .hole }:=(hs.drew (w:=w)).adf m
 have hI:=PG (all:=ops) (plan:=plan) (n:=0) (l:=ops.toList) (fun k x hk=>by rw [cr];simpa using hk) h
 rw [← arp] at hI
 refine GO (P:=P) (tt:=tt) ht gV ops.size _ (List.range ops.toList.length) (by simp) (fun j z hj=>by simp [kU,asx] at hj;split at hj <;> simp at hj) (by simp) (List.pairwise_lt_range) (fun i=>?_) hd hI fun a' w' hdf ⟨E',st',h1,h2,h3⟩=>⟨E',st',h1,(he.trans (ic.drew E w)).trans h2,?_,h3⟩
 ·simp only [al4,asx]
  simp
 rw [hdf];exact (oq.La (ic.drew E w)).La h2
theorem mS (ht:TT P tt) (hm:P.follows .mixedOrders=true) {ρ:Option Nat} {n0:Nat} {st:St} {Q:Exit→St→Prop} (plan:List Pl) (m:Nat) {id:Nat} {ops:Array Oper} {y:Code} (gV:ug ops plan=true)
  (h:∀ K:St→Prop,(∀ st',ek P ρ n0 y st' Q→K st')→runM P tt ops st.mem.length ops.toList plan { st with mem:=st.mem++List.replicate m .hole } K):ek P ρ n0 (.seq (.region id ops true) y) st Q :=
 bE (qf ht hm plan m gV (h (fun st'=>ek P ρ n0 y st' Q) fun _ h=>h))
theorem l8 (ht:TT P tt) (hm:P.follows .mixedOrders=true) {ρ:Option Nat} {n0:Nat} {st:St} {Q:Exit→St→Prop} (plan:List Pl) (m:Nat) {id:Nat} {ops:Array Oper} (gV:ug ops plan=true)
  (h:∀ K:St→Prop,(∀ st',Q .normal st'→K st')→runM P tt ops st.mem.length ops.toList plan { st with mem:=st.mem++List.replicate m .hole } K):ek P ρ n0 (.region id ops true) st Q :=
 qf ht hm plan m gV (h (Q .normal) fun _ h=>h)
end
end Go.Eng
end
section
namespace Go.Eng
variable [bB]
open Go.RowKit (Below)
def nW:bx→Bool
 | .rows _ _ _=>true
 | .rP _ _ _=>true
 | .dead=>true
 | .hole=>true
 | _=>false
theorem bI.live {P:Program} {f:FuncId} {vs vs':List V} {b v s l:Nat} {bS:List bx} (hp:iE [] vs=some vs') (h:bI P f vs' [] (.ms b v s l) bS) (hm:bS.all nW=true) (mem:List bx) :
  bI P f vs mem (.ms (mem.length+b) v s l) (mem++bS):=by
 refine⟨h.1,fun E w xs hs hx=>?_⟩;obtain⟨V8,hk⟩:=vQ (mem:=mem) hp;have h1:=mG hs (keys:=[]) hx V8 (by rw [hk];simp);have hE:(E.qx w []).pure=⟨E.F,fun _ _=>none,E.gl⟩:=by refine Env.Mo (funext fun ad=>?_) rfl;simp only [Env.pure,Env.qx];cases hh:E.F ad <;> simp
 rw [hE] at h1;have qC:de ⟨E.F,fun _ _=>none,E.gl⟩ w { tmps := #[],defers:=[] } { fr:=[],mem:=[] } := ⟨hs.F,(fun k v g e c h=>by cases h),(fun k B h=>by simp at h),(fun k _ v=>rfl),(fun k B h=>by simp at h),(fun k k' v v' g e c e' c' h=>by cases h),.nil _⟩;refine (h.2 _ w xs qC h1).mono ?_;rintro en w' ⟨E',x,rfl,gE,pO,hr⟩;have pC:∀ k v g e c,E'.cC k v=some (g,e,c)→w.heap.size≤g:=fun k v g e c hb=>by (rcases gE.cC _ _ _ _ _ hb with ⟨_,_,_,_,h⟩|h);(·cases h);exact h
 have hold:∀ b,b<w.heap.size→w'.heap[b]?=w.heap[b]?:=fun b hb=>gE.heap b hb fun _ _ _ _ h=>by cases h
 have hFo:∀ ad y,E'.F ad=some y→E.F ad=some y∨w.heap.size≤ad.block:=fun ad y hy=>by (rcases gE.F _ _ hy with h|h|⟨_,_,_,_,h⟩);(·exact .inl h);(·exact .inr h);cases h
 have ru:∀ k v,k<mem.length→(⟨E'.F,fun k v=>if k<mem.length then E.cC k v else E'.cC (k-mem.length) v,E'.gl⟩:Env).cC k v=E.cC k v:=fun k v hk=>if_pos hk;have uz:∀ k v,mem.length≤k→(⟨E'.F,fun k v=>if k<mem.length then E.cC k v else E'.cC (k-mem.length) v,E'.gl⟩:Env).cC k v=E'.cC (k-mem.length) v:=fun k v hk=>if_neg (by omega);generalize Wf:(⟨E'.F,fun k v=>if k<mem.length then E.cC k v else E'.cC (k-mem.length) v,E'.gl⟩:Env)=E2 at ru uz;have jV:E2.F=E'.F:=by rw [← Wf]
 have CY:E2.pure=E'.pure:=Env.Mo jV rfl;have hle:E.le E2:=⟨fun ad y hy=>by rw [jV];exact gE.le.F _ _ hy,fun k v t hk=>by (rcases bz k mem.length with fJ|fJ);(·rw [ru k v fJ];exact hk);rw [hs.top k fJ v] at hk;cases hk⟩;have get:∀ {k:Nat} {B:bx},(mem++bS)[k]?=some B→(k<mem.length∧mem[k]?=some B)∨(mem.length≤k∧bS[k-mem.length]?=some B):=fun {k B} h=>by (rcases bz k mem.length with hk|hk);(·rw [bA hk] at h;exact .inl ⟨hk,h⟩);rw [a8 hk] at h;exact .inr ⟨hk,h⟩
 refine⟨E2,x,rfl,⟨hle,fun k v g e c hk=>?_,fun ad y hy=>?_,gE.os,gE.tape,gE.output,gE.size,fun b hb _=>hold b hb⟩,⟨fun ad y hy=>pO.F _ _ (by rw [← jV];exact hy),fun k v g e c hk=>?_,fun k B hk=>?_,fun k hk v=>?_,fun k B hk v hv=>?_,fun k k' v v' g e1 c1 e2 c2 h5 h6=>?_,.nil _⟩,?_⟩;·(rcases bz k mem.length with fJ|fJ);(·rw [ru k v fJ] at hk;exact .inl ⟨k,v,e,c,hk⟩);rw [uz k v fJ] at hk;exact .inr (pC _ _ _ _ _ hk)
 ·rw [jV] at hy;(rcases hFo ad y hy with h|h);(·exact .inl h);exact .inr (.inl h)
 ·(rcases bz k mem.length with fJ|fJ);(·rw [ru k v fJ] at hk;have:=hs.lt _ _ _ _ _ hk;have:=gE.size;omega);rw [uz k v fJ] at hk;exact pO.lt _ _ _ _ _ hk
 ·(rcases get hk with ⟨fJ,hB⟩|⟨fJ,hB⟩);(·refine (hs.mem k B hB).mono hle (fun v hv=>by rw [ru k v fJ];exact hv) (fun g e c hb=>hold g (hs.lt _ _ _ _ _ hb)) fun g e c o hb hn=>?_;rw [jV];cases hy:E'.F ⟨g,o,none⟩ with|none=>rfl|some y =>(rcases hFo _ y hy with h|h);(·rw [hn] at h;cases h);have:=hs.lt _ _ _ _ _ hb;simp at h;omega);have hl:=aZ.1 hm B (aE hB);have h0:=pO.mem _ B hB;cases B with|hole=>(exact fun v=>by rw [uz k v fJ];exact h0 v)|dead=>trivial|box cs=>simp [nW] at hl|loop s p fr ps a b=>simp [nW] at hl|map dP clock=>simp [nW] at hl|jJ m since seen last=>simp [nW] at hl|n5 T kb v l=>simp [nW] at hl|oW T v O=>simp [nW] at hl|nL s pos=>simp [nW] at hl|og=>simp [nW] at hl|rows v e rs =>((rcases h0 with ⟨h1,h2⟩|⟨g,T,ys,c,h1,h2,h3,h4,h5,h6⟩);(·exact .inl ⟨h1,by rw [uz k v fJ];exact h2⟩);exact .inr ⟨g,T,ys,c,by rw [uz k v fJ];exact h1,h2,h3,h4,by rw [CY];exact h5,fun o=>by rw [jV];exact h6 o⟩)|rP v e rs =>(rcases h0 with ⟨h1,h2⟩|⟨g,c,h1,h2,h3⟩);(·exact .inl ⟨h1,by rw [uz k v fJ];exact h2⟩);exact .inr ⟨g,c,by rw [uz k v fJ];exact h1,h2,by rw [CY,jV];exact h3⟩
 ·dsimp only at hk;simp only [ab] at hk;rw [uz k v (by omega)];exact pO.top _ (by dsimp only;omega) v
 ·(rcases get hk with ⟨fJ,hB⟩|⟨fJ,hB⟩);(·rw [ru k v fJ];exact hs.dZ k B hB v hv);rw [uz k v fJ];exact pO.dZ _ B hB v hv
 ·(rcases bz k mem.length with iw|iw <;> rcases bz k' mem.length with kG|kG);(·rw [ru k _ iw] at h5;rw [ru k' _ kG] at h6;exact hs.apart _ _ _ _ _ _ _ _ _ h5 h6);(·rw [ru k _ iw] at h5;rw [uz k' _ kG] at h6;have:=hs.lt _ _ _ _ _ h5;have:=pC _ _ _ _ _ h6;omega);(·rw [uz k _ iw] at h5;rw [ru k' _ kG] at h6;have:=hs.lt _ _ _ _ _ h6;have:=pC _ _ _ _ _ h5;omega);rw [uz k _ iw] at h5;rw [uz k' _ kG] at h6;have:=pO.apart _ _ _ _ _ _ _ _ _ h5 h6;omega
 cases hr with|ms _ b v s l g e c a cap hb hl h0 hc=>exact .ms _ _ _ _ _ g e c _ _ (by rw [uz _ v (by omega),ee];exact hb) hl h0 hc|ja=>exact .ja _ _ _ _
theorem de.GQ {E:Env} {w:World} {a:Act} {st:St} (hs:de E w a st) (v e:Nat):de E w a { st with mem:=st.mem++[.rows v e []] }:=by
 have get:∀ {k:Nat} {B:bx},(st.mem++[bx.rows v e []])[k]?=some B→st.mem[k]?=some B∨(B=bx.rows v e []∧st.mem.length≤k):=fun {k B} h=>by (rcases bz k st.mem.length with hk|hk);(·rw [bA hk] at h;exact .inl h);rw [a8 hk] at h;cases fJ:k-st.mem.length with|zero=>rw [fJ] at h;cases h;exact .inr ⟨rfl,hk⟩|succ j=>rw [fJ] at h;cases h
 refine⟨hs.F,hs.lt,fun k B hk=>?_,fun k hk=>hs.top k (by simp at hk;omega),fun k B hk v hv=>?_,hs.apart,hs.fr⟩;·(rcases get hk with h|⟨rfl,fJ⟩);(·exact hs.mem k B h);exact .inl ⟨rfl,hs.top k fJ v⟩
 rcases get hk with h|⟨rfl,fJ⟩
 ·exact hs.dZ k B h v hv
 exact hs.top k fJ v
theorem de.PI {E:Env} {w:World} {a:Act} {st:St} (hs:de E w a st) {i:Nat} (b v:Nat) (h:st.fr[i]?=some (.sc (.slice none 0 0))):de E w a { st with fr:=st.fr.set i (.ms b v 0 0) }:=hs.TZ h
theorem MQ {P:Program} {ρ:Option Nat} {n0:Nat} {c:Code} {st:St} {Q:Exit→St→Prop} (i v e:Nat) (h0:st.fr[i]?=some (.sc (.slice none 0 0))) (h:ek P ρ n0 c { fr:=st.fr.set i (.ms st.mem.length v 0 0),mem:=st.mem++[.rows v e []] } Q):ek P ρ n0 c st Q :=
 sg (fun E w a hs=>(hs.PI (i:=i) st.mem.length v h0).GQ v e) h
end Go.Eng
end
section
namespace Go.Eng
variable [bB]
open Go.RowKit (Below)
theorem AS {E E':Env} {w w':World} {mem bS l:List bx} (hs:de E w { tmps := #[],defers:=[] } { fr:=[],mem:=mem++l }) (Uc:ic (E.cut mem.length) w E' w') (Jc:de E' w' { tmps := #[],defers:=[] } { fr:=[],mem:=bS })
  (hlen:bS.length=mem.length) (hb:bS.all (aK mem.length)=true):∃ E2,ic E w E2 w'∧de E2 w' { tmps := #[],defers:=[] } { fr:=[],mem:=bS++l }∧(E'.cut mem.length).le E2:=by
 have qC:=Jc.cut (n:=mem.length) rfl (by rw [bR (by dsimp only;omega)];exact hb);rw [bR (by dsimp only;omega)] at qC;dsimp only at qC;have GR:∀ k,mem.length≤k→∀ v,(E.cut mem.length).cC k v=none:=fun k hk v=>if_neg (by omega);have gE:ic (E.cut mem.length) w (E'.cut mem.length) w':=Uc.cut GR;have pw:∀ k v t,(E.cut mem.length).cC k v=some t→k<mem.length∧E.cC k v=some t:=fun k v t h=>by (rcases bz k mem.length with hk|hk);(·exact⟨hk,(if_pos hk).symm.trans h⟩);rw [GR k hk] at h;cases h
 have adh:∀ k v t,(E'.cut mem.length).cC k v=some t→k<mem.length:=fun k v t h=>by (rcases bz k mem.length with hk|hk);(·exact hk);have h0:(E'.cut mem.length).cC k v=none:=if_neg (by omega);rw [h0] at h;cases h
 generalize an8:E'.cut mem.length=Ch at qC gE adh;have ru:∀ k v,k<mem.length→(⟨Ch.F,fun k v=>if k<mem.length then Ch.cC k v else E.cC k v,Ch.gl⟩:Env).cC k v=Ch.cC k v:=fun k v hk=>if_pos hk;have uz:∀ k v,mem.length≤k→(⟨Ch.F,fun k v=>if k<mem.length then Ch.cC k v else E.cC k v,Ch.gl⟩:Env).cC k v=E.cC k v:=fun k v hk=>if_neg (by omega);generalize Wf:(⟨Ch.F,fun k v=>if k<mem.length then Ch.cC k v else E.cC k v,Ch.gl⟩:Env)=E2 at ru uz;have jV:E2.F=Ch.F:=by rw [← Wf]
 have o2:∀ k v t,k<mem.length→E.cC k v=some t→(E.cut mem.length).cC k v=some t:=fun k v t hk h=>(if_pos hk).trans h;have hle:E.le E2:=⟨fun ad y hy=>by rw [jV];exact gE.le.F _ _ hy,fun k v t hk=>by (rcases bz k mem.length with fJ|fJ);(·rw [ru k v fJ];exact gE.le.cC _ _ _ (o2 _ _ _ fJ hk));rw [uz k v fJ];exact hk⟩;have rJ:Ch.le E2:=⟨fun ad y hy=>by rw [jV];exact hy,fun k v t hk=>by rw [ru k v (adh _ _ _ hk)];exact hk⟩;have Av:∀ k v g e c,mem.length≤k→E.cC k v=some (g,e,c)→∀ k0 v0 e0 c0,(E.cut mem.length).cC k0 v0≠some (g,e0,c0):=fun k v g e c hk hb k0 v0 e0 c0 h=>by obtain⟨h1,h2⟩:=pw _ _ _ h;have:=hs.apart _ _ _ _ _ _ _ _ _ h2 hb;omega
 have get:∀ {k:Nat} {B:bx},(bS++l)[k]?=some B→(k<mem.length∧bS[k]?=some B)∨(mem.length≤k∧(mem++l)[k]?=some B):=fun {k B} h=>by (rcases bz k mem.length with hk|hk);(·rw [bA (by omega)] at h;exact .inl ⟨hk,h⟩);rw [a8 (by omega),hlen] at h;exact .inr ⟨hk,by rw [a8 hk];exact h⟩
 refine⟨E2,⟨hle,fun k v g e c hk=>?_,fun ad y hy=>?_,gE.os,gE.tape,gE.output,gE.size,fun b hb dL=>gE.heap b hb fun k v e c h=>dL _ _ _ _ (pw _ _ _ h).2⟩,⟨fun ad y hy=>qC.F _ _ (by rw [← jV];exact hy),fun k v g e c hk=>?_,fun k B hk=>?_,fun k hk v=>?_,fun k B hk v hv=>?_,fun k k' v v' g e1 c1 e2 c2 h5 h6=>?_,.nil _⟩,rJ⟩;·(rcases bz k mem.length with fJ|fJ);(·rw [ru k v fJ] at hk;(rcases gE.cC _ _ _ _ _ hk with ⟨k0,v0,e0,c0,h⟩|h);(·exact .inl ⟨_,_,_,_,(pw _ _ _ h).2⟩);exact .inr h);rw [uz k v fJ] at hk;exact .inl ⟨_,_,_,_,hk⟩
 ·rw [jV] at hy;(rcases gE.F _ _ hy with h|h|⟨k0,v0,e0,c0,h⟩);(·exact .inl h);(·exact .inr (.inl h));exact .inr (.inr ⟨_,_,_,_,(pw _ _ _ h).2⟩)
 ·(rcases bz k mem.length with fJ|fJ);(·rw [ru k v fJ] at hk;exact qC.lt _ _ _ _ _ hk);rw [uz k v fJ] at hk;exact rm (hs.lt _ _ _ _ _ hk) gE.size
 ·(rcases get hk with ⟨fJ,hB⟩|⟨fJ,hB⟩);(·exact (qC.mem k B hB).mono rJ (fun v hv=>by rw [ru k v fJ];exact hv) (fun _ _ _ _=>rfl) fun g e c o _ hn=>by rw [jV];exact hn);refine (hs.mem k B hB).mono hle (fun v hv=>by rw [uz k v fJ];exact hv) (fun g e c hb=>gE.heap g (hs.lt _ _ _ _ _ hb) fun k0 v0 e0 c0 h=>Av _ _ _ _ _ fJ hb _ _ _ _ h) fun g e c o hb hn=>?_;rw [jV];cases hy:Ch.F ⟨g,o,none⟩ with|none=>rfl|some y =>(rcases gE.F _ _ hy with h|h|⟨k0,v0,e0,c0,h⟩);(·have h':E.F ⟨g,o,none⟩=some y:=h;rw [hn] at h';cases h');(·have:=hs.lt _ _ _ _ _ hb;simp at h;omega);exact absurd h (Av _ _ _ _ _ fJ hb _ _ _ _)
 ·dsimp only at hk;simp only [ab] at hk;rw [uz k v (by omega)];exact hs.top k (by simp;omega) v
 ·(rcases get hk with ⟨fJ,hB⟩|⟨fJ,hB⟩);(·rw [ru k v fJ];exact qC.dZ k B hB v hv);rw [uz k v fJ];exact hs.dZ k B hB v hv
 have mixed:∀ k k' v v' g e1 c1 e2 c2,k<mem.length→mem.length≤k'→Ch.cC k v=some (g,e1,c1)→E.cC k' v'=some (g,e2,c2)→k=k':=fun k k' v v' g e1 c1 e2 c2 hk lY h h'=>by (rcases gE.cC _ _ _ _ _ h with ⟨k0,v0,e0,c0,h0⟩|h0);(·exact absurd h0 (Av _ _ _ _ _ lY h' _ _ _ _));have:=hs.lt _ _ _ _ _ h';omega
 rcases bz k mem.length with iw|iw <;> rcases bz k' mem.length with kG|kG
 ·rw [ru k _ iw] at h5;rw [ru k' _ kG] at h6;exact qC.apart _ _ _ _ _ _ _ _ _ h5 h6
 ·rw [ru k _ iw] at h5;rw [uz k' _ kG] at h6;exact mixed _ _ _ _ _ _ _ _ _ iw kG h5 h6
 ·rw [uz k _ iw] at h5;rw [ru k' _ kG] at h6;exact (mixed _ _ _ _ _ _ _ _ _ kG iw h6 h5).symm
 rw [uz k _ iw] at h5;rw [uz k' _ kG] at h6;exact hs.apart _ _ _ _ _ _ _ _ _ h5 h6
theorem GU {E:Env} {w:World} {mem l:List bx} (hs:de E w { tmps := #[],defers:=[] } { fr:=[],mem:=mem++l }) (hb:mem.all (aK mem.length)=true):de (E.cut mem.length) w { tmps := #[],defers:=[] } { fr:=[],mem:=mem }:=by have h:=hs.cut (n:=mem.length) rfl (by rw [rq];exact hb);rwa [rq] at h
theorem cU.below {E:Env} {n:Nat} {vs:List V} {xs:List Value} (h:cU E vs xs) (hb:vs.all (aG n)=true):cU (E.cut n) vs xs :=
 ⟨h.1,fun i v x hv hx=>iP (h.2 i v x hv hx) (aZ.1 hb v (aE hv))⟩
theorem bI.frame {P:Program} {f:FuncId} {vs:List V} {r:V} {mem bS:List bx} (h:bI P f vs mem r bS) (hv:vs.all (aG mem.length)=true) (hm:mem.all (aK mem.length)=true) (hr:aG mem.length r=true) (hlen:bS.length=mem.length) (hm':bS.all (aK mem.length)=true) (l:List bx) :
  bI P f vs (mem++l) r (bS++l):=by refine⟨h.1,fun E w xs hs hx=>?_⟩;refine (h.2 _ w xs (GU hs hm) (hx.below hv)).mono ?_;rintro en w' ⟨E',x,rfl,gE,pO,kF⟩;obtain⟨E2,h1,h2,h3⟩:=AS hs gE pO hlen hm';exact⟨E2,x,rfl,h1,h2,(iP kF hr).mono h3⟩
theorem IS.frame {P:Program} {k:Nat} {vs:List V} {mem bS:List bx} {b:Bool} (h:IS P k vs mem b bS) (hk:k<mem.length) (hv:vs.all (aG mem.length)=true) (hm:mem.all (aK mem.length)=true) (hlen:bS.length=mem.length) (hm':bS.all (aK mem.length)=true) (l:List bx) :
  IS P k vs (mem++l) b (bS++l):=by intro E w xs lp e c hs hx hb;obtain⟨fn,tmps,assign,body,h1,h2⟩:=h _ w xs lp e c (GU hs hm) (hx.below hv) ((if_pos hk).trans hb);refine⟨fn,tmps,assign,body,h1,h2.mono ?_⟩;rintro en w' ⟨E',rfl,gE,pO⟩;obtain⟨E2,h3,h4,-⟩:=AS hs gE pO hlen hm';exact⟨E2,rfl,h3,h4⟩
mutual
theorem pc {n m:Nat} (h:n≤m):∀ {v:V},aG n v=true→aG m v=true
 | .ms _ _ _ _,hv=>by simp [aG] at hv ⊢;omega
 | .ptr _ _,hv=>by simp [aG] at hv ⊢;omega
 | .j9 _,hv=>by simp [aG] at hv ⊢;omega
 | .mp _,hv=>by simp [aG] at hv ⊢;omega
 | .iv _ _ _ _,hv=>by simp [aG] at hv ⊢;omega
 | .undef,_=>rfl
 | .sc _,_=>rfl
 | .slice _,_=>rfl
 | .fq _,_=>rfl
 | .gn,_=>rfl
 | .full _,_=>rfl
 | .agg cs,hv=>by simp only [aG] at hv ⊢;exact ni h hv
 | .eg cs,hv=>by simp only [aG] at hv ⊢;exact ni h hv
 | .iU f a b,hv=>by simp only [aG,aL] at hv ⊢;exact⟨ni h hv.1,ni h hv.2⟩
theorem ni {n m:Nat} (h:n≤m):∀ {l:List V},aQ n l=true→aQ m l=true
 | [],_=>rfl
 | c :: r,hv=>by simp only [aQ,aL] at hv ⊢;exact⟨pc h hv.1,ni h hv.2⟩
end
theorem yA {n m:Nat} (h:n≤m) {B:bx} (hv:aK n B=true):aK m B=true:=by cases B with|box cs=>simp only [aK,aZ] at hv ⊢;exact fun x hx=>pc h (hv x hx)|loop a b fr c d e=>simp only [aK,aZ] at hv ⊢;exact fun x hx=>pc h (hv x hx)|map dP c=>simp only [aK,aZ] at hv ⊢;exact fun x hx=>pc h (hv x hx)|jJ m s se l=>simp only [aK,decide_eq_true_eq] at hv ⊢;omega|n5 T kb v l=>simp only [aK,decide_eq_true_eq] at hv ⊢;omega|_=>rfl
theorem qO {n m:Nat} (h:n≤m) {l:List bx} (hv:l.all (aK n)=true):l.all (aK m)=true:=aZ.2 fun x hx=>yA h (aZ.1 hv x hx)
theorem adj:(false==true)=false:=rfl
theorem adk:(true==false)=false:=rfl
theorem Ud (mem:List bx) (ts:Array TypeId) (P:Program) (r:List V):xh mem ts P [.slice r]=none:=rfl
theorem Ue (mem:List bx) (ts:Array TypeId) (P:Program) (b v s l:Nat):xh mem ts P [.ms b v s l]=none:=rfl
theorem Uf (mem:List bx) (ts:Array TypeId) (P:Program) (x:Value):xh mem ts P [.sc x]=none:=rfl
theorem cV {P:Program} {tt:Table} {all:Array Oper} {base:Nat}:∀ (k:Nat) {l:List Oper} {ps:List Pl} {st:St} {K:St→Prop},k≤l.length→k≤ps.length →
  (∀ K1:St→Prop,(∀ s,runM P tt all base (l.drop k) (ps.drop k) s K→K1 s)→runM P tt all base (l.take k) (ps.take k) st K1)→runM P tt all base l ps st K
 | 0,l,ps,st,K,_,_,h=>by
  have:=h (fun s=>runM P tt all base l ps s K) fun s hs=>hs
  simpa [runM] using this
 | k+1,[],ps,st,K,hl,_,h=>by simp at hl
 | k+1,o :: r,[],st,K,_,hp,h=>by simp at hp
 | k+1,o :: r,p :: ps,st,K,hl,hp,h=>by
  simp only [runM]
  have h1:=h (fun s=>runM P tt all base (r.drop k) (ps.drop k) s K) fun s hs=>hs
  simp only [gf,runM] at h1
  exact qN (fun s hs=>cV k (by simpa using hl) (by simpa using hp) fun K1 ff=>Dj hs ff) h1
where
 Dj {P:Program} {tt:Table} {all:Array Oper} {base:Nat}:∀ {l:List Oper} {ps:List Pl} {st:St} {K K':St→Prop},runM P tt all base l ps st K→(∀ s,K s→K' s)→runM P tt all base l ps st K'
  | [],_,_,_,_,h,hk=>hk _ h
  | o :: r,[],_,_,_,h,_=>by simp [runM] at h
  | o :: r,p :: ps,st,K,K',h,hk=>by
   simp only [runM] at h ⊢
   exact qN (fun s hs=>Dj hs hk) h
end Go.Eng
end
section
namespace Go.Eng
variable [bB]
theorem sw {α:Type} {l:List α} {t:Nat} {x:α} (h:l[t]?=some x):l.set t x=l:=by
 apply dM;intro i;rw [bX];split;·rename_i hi;subst hi;rw [if_pos (az.1 h).1,h]
 rfl
section
variable {P:Program} {ρ:Option Nat} {n0:Nat} {Q:Exit→St→Prop} {c:Code} {st:St}
theorem de.xw {E:Env} {w:World} {a:Act} (hs:de E w a st) {k t:Nat} {cs:List V} (hk:st.mem[k]?=some (.box cs)) (hp:cs.all kY=true) (h0:st.fr[t]?=some (.ptr k 0)) :
  ∃ E',de E' w a { fr:=st.fr.set t (.fq cs),mem:=st.mem.set k .dead }∧ic E w E' w:=by
 obtain⟨g,T,xs,hb,hh,hr,hf⟩:=hs.mem k _ hk;have hF:∀ ad x,E.F ad=some x→(if ad.block=g then w.cell? ad else E.F ad)=some x:=fun ad x h=>by split;(·exact hs.F ad x h);exact h
 obtain⟨E',hE⟩:∃ E':Env,E' = { F:=fun ad=>if ad.block=g then w.cell? ad else E.F ad,cC:=E.cC,gl:=E.gl.mono hF }:=⟨_,rfl⟩;have eF:∀ ad,E'.F ad=if ad.block=g then w.cell? ad else E.F ad:=fun ad=>by rw [hE]
 have eb:E'.cC=E.cC:=by rw [hE]
 have hle:E.le E':=⟨fun ad x h=>by rw [eF];exact hF ad x h,fun _ _ _ h=>by rw [eb];exact h⟩;obtain⟨x,hx,hrx⟩:=hs.fr.get h0;have hxv:x = .pointer (some ⟨g,0,none⟩):=by cases hrx with|ptr _ _ _ g' e c gD=>rw [hb] at gD;cases gD;rfl
 subst hxv;have hpu:=cU.pure hr hp;have kF:cY E' (.fq cs) (.pointer (some ⟨g,0,none⟩)):=by (have h1:∀ j,(Addr.mk g 0 none).add j=⟨g,j,none⟩:=fun j=>by unfold Addr.add;by_cases hj:j=0 <;> simp [hj]);refine .fq _ _ _ (fun j=>(xs[j]?).getD undef) (fun j c hj=>?_) fun j c hj=>?_;(·obtain⟨y,hy,-⟩:=hpu.get hj;rw [h1,eF,if_pos rfl,nQ hh];simp only [dQ] at hy;rw [hy];rfl);obtain⟨y,hy,OI⟩:=hpu.get hj;simp only [dQ] at hy;rw [hy];exact OI.mono (Env.lq hle)
 have zw:cU E' (st.fr.set t (.fq cs)) a.tmps.toList:=by have:=cU.set (n:=t) (hs.fr.mono hle) kF;rwa [sw hx] at this
 refine⟨E',⟨fun ad y hy=>?_,fun k' v g' e c h=>hs.lt k' v g' e c (by rwa [eb] at h),fun k' B hB=>?_,fun k' lY v=>?_,fun k' B hB v hv=>?_,fun k1 k2 v1 v2 g' e c e' c' q1 q2=>?_,zw⟩,?_⟩;·rw [eF] at hy;split at hy;(·exact hy);exact hs.F ad y hy
 ·rw [bX] at hB;split at hB;(·split at hB;(·cases hB;exact trivial);cases hB);rename_i dL;refine (hs.mem k' B hB).mono hle (fun v h=>by rw [eb];exact h) (fun _ _ _ _=>rfl) fun g' e c o q1 q2=>?_;rw [eF];split;(·rename_i hg;have hg:g'=g:=hg;subst hg;exact absurd (hs.apart _ _ _ _ _ _ _ _ _ hb q1) dL);exact q2
 ·rw [eb];exact hs.top k' (by simpa using lY) v
 ·rw [eb];rw [bX] at hB;split at hB;(·rename_i hke;split at hB;(·cases hB;subst hke;exact hs.dZ k _ hk v hv);cases hB);exact hs.dZ k' B hB v hv
 ·rw [eb] at q1 q2;exact hs.apart _ _ _ _ _ _ _ _ _ q1 q2
 refine⟨hle,fun k' v g' e c h=>.inl ⟨k',v,e,c,by rwa [eb] at h⟩,fun ad y hy=>?_,rfl,rfl,rfl,aB _,fun _ _ _=>rfl⟩;rw [eF] at hy;split at hy;·rename_i hg;exact .inr (.inr ⟨k,0,0,0,by rw [hg];exact hb⟩)
 exact .inl hy
end
theorem de.YA {E:Env} {w:World} {m:List bx} {k:Nat} {cs:List V} {x:Value} (hs:de E w { tmps := #[],defers:=[] } { fr:=[],mem:=m }) (hr:cY E (.ptr k 0) x) (hk:m[k]?=some (.box cs)) (hp:cs.all kY=true) :
  ∃ E',de E' w { tmps := #[],defers:=[] } { fr:=[],mem:=m.set k .dead }∧ic E w E' w∧cY E' (.fq cs) x:=by have h1:de E w { tmps := #[x],defers:=[] } { fr:=[.ptr k 0],mem:=m }:=⟨hs.F,hs.lt,hs.mem,hs.top,hs.dZ,hs.apart,.cons hr (.nil _)⟩;obtain⟨E',h2,h3⟩:=h1.xw (t:=0) hk hp rfl;obtain⟨y,ys,hy,YB,-⟩:=h2.fr.of_cons;cases hy;exact⟨E',⟨h2.F,h2.lt,h2.mem,h2.top,h2.dZ,h2.apart,.nil _⟩,h3,YB⟩
end Go.Eng
end
