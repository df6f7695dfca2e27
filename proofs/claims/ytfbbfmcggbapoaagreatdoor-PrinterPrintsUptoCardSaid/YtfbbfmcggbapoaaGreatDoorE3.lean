import Derived.Test.YtfbbfmcggbapoaaGreatDoorE2
import Derived.RangeFuncRecord
import Derived.OrdersIn
open Array renaming any_eq_true'->awA,foldl_toList->awa,getD_eq_getD_getElem?->lu,getElem?_eq_getElem->cb,getElem?_eq_none->avG,getElem?_eq_some_iff->dT,getElem?_replicate->awQ,getElem?_setIfInBounds_ne->Ft,getElem?_toList->dV,mapM_eq_mapM_toList->awl,toArray_toList->cJ,toList_append->AE
open Bool renaming and_eq_true->aG,false_eq_true->bw,or_eq_true->ez
open Go.RowKit.Below renaming heap_alloc->eB
open List renaming all_eq_true->ba,append_nil->ai,cons_append->al,ext_getElem?->eh,flatMap_cons->ag,flatMap_nil->aj,foldl_cons->kZ,getElem?_append->po,getElem?_append_left->bz,getElem?_append_right->bm,getElem?_cons_zero->aI,getElem?_eq_none->ep,getElem?_eq_none_iff->awR,getElem?_eq_some_iff->az,getElem?_map->ae,getElem?_replicate->awh,getElem?_set->cf,getElem?_set_ne->cT,getElem?_set_self->fi,getElem?_take->gU,getElem?_take_of_lt->hH,length_append->ab,length_cons->af,length_eq_zero_iff->b9,length_nil->ah,length_set->avK,length_take->eK,mapM_cons->av0,map_congr_left->AF,map_cons->bo,mem_append->ey,mem_append_left->fT,mem_append_right->gO,mem_cons->dp,mem_cons_of_mem->bZ,mem_cons_self->cP,mem_map->dS,mem_of_getElem?->aw,mem_range->api,nodup_cons->aws,pairwise_append->awH,range'_succ->avI,range_eq_range'->avJ,set_comm->aq7,tail_drop->av1,take_left->rW,take_of_length_le->b8,take_succ_cons->AH
open List.cons renaming injEq->awr
open Nat renaming add_assoc->eD,add_comm->VQ,add_sub_cancel_left->eC,eq_zero_or_pos->Dt,le_refl->aA,le_trans->gw,lt_of_lt_of_le->rV,lt_or_ge->bn,zero_add->dc
open Option renaming bind_some->av7,map_eq_some_iff->bp,map_some->bU
open Option.some renaming injEq->aD
open Prod.mk renaming injEq->dK
set_option linter.all false
section
namespace Go.Eng
variable [bJ]
open Go.RowKit (Below)
theorem jG {P:g7} {s:Sem Value} {w w':World} {x:Value} (h:s.run P w = .ok x w'):(do pure (Next.value (<- s)):Sem Next).run P w = .ok (.value x) w':=by simp [h]
def Ik (E:Env) (w:World) (a:Act) (dst:Option Tmp) (Q:St->Prop) (v:Value) (w':World):Prop:=∃ E' st',dt E' w' (a.put dst v) st'/\iF E w E' w'/\Q st'
def WF (ρ:Option Nat):Fence := { fn:=fun _=>True,depth:=none,alive:=false,round:=ρ }
theorem BD {ρ:Option Nat} {n:Nat} {P:g7} {f:FuncId} {xs:Array Value} {w:World} {R:Ending->World->Prop} (h:Calls P f xs w R):CallsIn (WF ρ) n P f xs w R:=by have h1:CallsIn Fence.wide n P f xs w R:=callsIn_wide.2 h;cases ρ with|none=>exact h1|some l=>exact h1.inRound l
theorem Il {n:Nat} {P:g7} {f:FuncId} {xs:Array Value} {w:World} {R:Ending->World->Prop} (h:CallsIn (WF none) n P f xs w R):Calls P f xs w R:=callsIn_wide.1 h
theorem K4 {ρ:Option Nat} {n:Nat} {P:g7} {l:Nat} {f:FuncId} {tmps:Array Value} {assign body:Code} {w:World} {R:Ending->World->Prop} (h:RoundIn Fence.wide 0 P l f tmps assign body w R):RoundIn (WF ρ) n P l f tmps assign body w R:=by refine⟨trivial,fun c cs _=>?_⟩;exact h.2 c cs (room_wide _)
section
variable {P:g7} {ρ:Option Nat} {n:Nat} {o:Oper} {a:Act} {w w':World} {next:Act->World->Prop} {Q:Exit->Act->World->Prop} (o7:∀ c,o.op ≠ .defer c)
include o7
theorem dG {v:Value} (h:(execOp a.eval o).run P w = .ok (.value v) w') (hn:next (a.put o.dst v) w'):o.wpIn (WF ρ) n P a w next Q:=by refine⟨fun _ _=>trivial,?_⟩;rw [Oper.semAt_eq _ _ _ o7,h];exact hn
theorem oL (h:(execOp a.eval o).run P w = .ok .skip w') (hn:next (a.put o.dst undef) w'):o.wpIn (WF ρ) n P a w next Q:=by refine⟨fun _ _=>trivial,?_⟩;rw [Oper.semAt_eq _ _ _ o7,h];exact hn
theorem zH {f:FuncId} {xs:Array Value} {R:Ending->World->Prop} (h:(execOp a.eval o).run P w = .ok (.enter f xs) w) (hc:Calls P f xs w R) (hR:∀ e w',R e w'->∃ v,e = .returned v/\next (a.put o.dst v) w') :
  o.wpIn (WF ρ) n P a w next Q:=by refine⟨fun _ _=>trivial,?_⟩;rw [Oper.semAt_eq _ _ _ o7,h];refine⟨fun h=>by simp [WF] at h,(BD hc).mono fun e w' he=>?_⟩;obtain⟨v,rfl,hn⟩:=hR e w' he;exact hn
theorem zI {l:Nat} {f:FuncId} {tmps:Array Value} {assign body:Code} {R:Ending->World->Prop} (h:(execOp a.eval o).run P w = .ok (.round l f tmps assign body) w) (hc:RoundIn Fence.wide 0 P l f tmps assign body w R)
  (hR:∀ e w',R e w'->∃ v,e = .returned v/\next (a.put o.dst v) w'):o.wpIn (WF ρ) n P a w next Q:=by refine⟨fun _ _=>trivial,?_⟩;rw [Oper.semAt_eq _ _ _ o7,h];refine⟨fun h=>by simp [WF] at h,(K4 hc).mono fun e w' he=>?_⟩;obtain⟨v,rfl,hn⟩:=hR e w' he;exact hn
end
theorem zJ {P:g7} {E:Env} {w:World} {a:Act} {st:St} (hs:dt E w a st) {f:FuncId} {vs:List V} {dst:Option Tmp} {Q:St->Prop} (h:zw P f vs st dst Q) {xs:Array Value} (hx:dh E vs xs.toList) :
  ((callFunc f xs).run P w = .ok (.enter f xs) w/\Calls P f xs w fun e w'=>∃ v,e = .returned v/\Ik E w a dst Q v w')\/∃ v,(callFunc f xs).run P w = .ok (.value v) w/\Ik E w a dst Q v w:=by
 rcases h with ⟨vs',r,hp,hf,hQ⟩|⟨r,b7,hf,hQ⟩|⟨R,hf,hQ⟩|⟨r,hf,hQ⟩
 ·refine .inl ⟨hf.1 xs w,(Pc hs hx hp hf).mono ?_⟩;rintro e w' ⟨E',x,rfl,gM,qo,hr⟩;exact⟨x,rfl,E',_,qo.put dst hr,gM,hQ⟩
 ·refine .inl ⟨hf.1 xs w,(hf.2 E w xs hs.bare hx).mono ?_⟩;rintro e w' ⟨E',x,rfl,gM,qo,hr⟩;exact⟨x,rfl,E',_,(hs.Ih qo gM.le).put dst hr,gM,hQ⟩
 ·refine .inl ⟨hf.1 xs w,(hf.2 E w xs hs.bare hx).mono ?_⟩;rintro e w' ⟨E',x,r,b7,rfl,hR,gM,qo,hr⟩;exact⟨x,rfl,E',_,(hs.Ih qo gM.le).put dst hr,gM,hQ _ _ hR⟩
 obtain⟨x,h1,h2⟩:=hf E w xs hs.F hx;exact .inr ⟨x,h1,E,_,hs.put dst h2,iF.refl E w,hQ⟩
theorem ib {P:g7} {tt:Table} (ht:TT P tt) {E:Env} {w:World} {a:Act} {st:St} (hs:dt E w a st) {key:Nat} (hk:jo st.mem key) {o:Oper} {Q:St->Prop} (h:dv P tt key o st Q)
  {ρ:Option Nat} {n:Nat} {next:Act->World->Prop} {Q':Exit->Act->World->Prop} (hn:∀ v w',Ik E w a o.dst Q v w'->next (a.put o.dst v) w'):o.wpIn (WF ρ) n P a w next Q':=by
 obtain⟨dst,op,type,pos,after,guard⟩:=o;have o7:∀ c,op ≠ .defer c:=by rintro c rfl;simp [dv,lM] at h
 unfold dv at h;dsimp only at h;split at h;·rename_i T;split at h;(·rename_i i hi;obtain⟨info,u9,-,-,z,hz,AL⟩:=ht.size T i hi;(have hr:dh E (i.zero.map V.sc) z.cells.toList:=by rw [AL];exact⟨by simp,fun k c x hc hx=>by simp only [ae,hx,bU,aD] at hc;subst hc;exact .sc _ _⟩);obtain⟨E',h1,h2,h3⟩:=hs.Rm hk hr T;refine dG o7 (v:=.pointer (some ⟨w.heap.size,0,none⟩)) (w':=w.alloc (.cells z.cells T (0,0))) ?_ (hn _ _ ⟨E',_,h1.put dst h3,h2,h⟩);(have hzv:(zeroValue T).run P w = .ok z w:=by simp [zeroValue,fJ u9,hz]);simp [execOp,Instr.alloc,hzv,newVar,newRow]);exact h.elim
 ·rename_i T x;split at h;(·rename_i cs nj;obtain⟨hr,-⟩:=rj (hs.eval x) nj;obtain⟨E',h1,h2,h3⟩:=hs.Rm hk hr T;refine dG o7 (v:=.pointer (some ⟨w.heap.size,0,none⟩)) (w':=w.alloc (.cells (a.eval x).cells T (0,0))) ?_ (hn _ _ ⟨E',_,h1.put dst h3,h2,h⟩);simp [execOp,Instr.box,newVar,newRow]);exact h.elim
 ·split at h;(·rename_i v hv;obtain⟨x,h1,h2⟩:=wQ ht hs hv;exact dG o7 (dN h1) (hn _ _ ⟨E,_,hs.put dst h2,iF.refl E w,h⟩));exact h.elim
 ·rename_i T len parts;split at h;(·rename_i size rs hl;obtain⟨Z,e,h1,h2,h3,h4⟩:=FQ ht (fun p _=>hs.eval p.2) hl;obtain⟨E',h5,h6,h7⟩:=hs.wH hk (xs:=Z) (rs:=rs) (c:=len) e h2 (by omega) h4;rw [h3] at h7;exact dG o7 (jG h1) (hn _ _ ⟨E',_,h5.put dst h7,h6,h⟩));split at h;(·rename_i size rs hl;unfold Wq at hl;split at hl;(·rename_i vs' Pf;obtain⟨E1,rb,Wr,RG⟩:=hs.freeze Pf;(have wR:∀ (l:List (Nat×Operand)) (us RC:List V),us=l.map (fun p=>st.eval p.2)->jj st.mem us=some RC->dh E1 RC (l.map fun p=>a.eval p.2)->∀ p∈l,df E1 (evP st.mem st.eval p.2) (a.eval p.2):=by intro l;induction l with|nil=>intro us RC _ _ _ p hp;simp at hp|cons q r ih =>intro us RC hu hp hr p abp;subst hu;simp only [bo,jj] at hp;split at hp;(·rename_i c' hc;split at hp;(·rename_i r' KI;cases hp;obtain⟨y,ys,hy,g1,g2⟩:=hr.of_cons;simp only [bo,awr] at hy;obtain⟨rfl,rfl⟩:=hy;(rcases dp.1 abp with rfl|abp);(·unfold evP;rw [hc];exact g1);exact ih _ _ rfl KI g2 p abp);cases hp);cases hp);(have sA:dh E (parts.toList.map fun p=>st.eval p.2) (parts.toList.map fun p=>a.eval p.2):=by refine⟨by simp,fun i v x hv hx=>?_⟩;simp only [ae,bp] at hv hx;obtain⟨q,hq,rfl⟩:=hv;obtain⟨q',VY,rfl⟩:=hx;rw [hq] at VY;cases VY;exact hs.eval q.2);have alw:=wR parts.toList _ _ rfl Pf (RG _ sA);(have gW:jo ({ st with mem:=iA st.mem (F1 st.eval parts.toList) }:St).mem key:=by unfold jo;dsimp only;rw [vK,vf];(rcases hk with hk|hk);(·rw [hk];exact .inl rfl);exact .inr hk);obtain⟨Z,e,h1,h2,h3,h4⟩:=FQ ht (w:=w) alw hl;obtain⟨E',h5,h6,h7⟩:=rb.wH gW (xs:=Z) (rs:=rs) (c:=len) e h2 (by omega) h4;rw [h3] at h7;exact dG o7 (jG h1) (hn _ _ ⟨E',_,h5.put dst h7,Wr.trans h6,h⟩));cases hl);exact h.elim
 ·rename_i T p x;split at h;(·rename_i b7 hm;obtain⟨w',h1,h2,h3⟩:=wI ht hs (hs.eval _) (hs.eval _) hm;refine oL o7 (w':=w') ?_ (hn _ _ ⟨E,_,h2.put dst (.sc _ _),h3,h⟩);simp [execOp,h1]);split at h;(·rename_i b7 hm;unfold F2 at hm;split at hm;(·rename_i v' Bg;obtain⟨E1,rb,Wr,RG⟩:=hs.freeze (vs:=[st.eval x]) (vs':=[v']) (by simp [jj,Bg]);simp only [ag,aj,ai] at rb;obtain⟨z,r,hz,h4,-⟩:=(RG [a.eval x] (.cons (hs.eval x) (.nil _))).of_cons;simp only [awr] at hz;obtain⟨rfl,-⟩:=hz;obtain⟨w',h1,h2,h3⟩:=wI ht rb ((hs.eval p).mono Wr.le) h4 hm;refine oL o7 (w':=w') ?_ (hn _ _ ⟨E1,_,h2.put dst (.sc _ _),Wr.trans h3,h⟩);simp [execOp,h1]);cases hm);exact h.elim
 ·rename_i xs ts;split at h;(·rename_i s x Ws;split at h;(·rename_i size sO rows ha;have he:=hs.qx xs;rw [Ws] at he;obtain⟨y,r1,hy,DJ,he⟩:=he.of_cons;obtain⟨z,r2,hz,H7,he⟩:=he.of_cons;have:=he.of_nil;subst this;subst hz;(have sA:xs.map a.eval = #[y,z]:=by rw [<- cJ (xs:=xs.map a.eval),hy]);obtain⟨v,w',E',h1,h2,h3,h4⟩:=qd ht hs (ty:=type) hk DJ H7 ha;refine dG o7 (v:=v) (w':=w') ?_ (hn _ _ ⟨E',_,h2.put dst h4,h3,h⟩);simp only [execOp,resolve,Sem.run_bind,Sem.run_pure,Result.andThen_ok,invoke,builtin,sA,h1]);unfold zy at h;split at h;(·rename_i size b v l rs news ha;have he:=hs.qx xs;rw [Ws] at he;obtain⟨y,r1,hy,DJ,he⟩:=he.of_cons;obtain⟨z,r2,hz,H7,he⟩:=he.of_cons;have:=he.of_nil;subst this;subst hz;(have sA:xs.map a.eval = #[y,z]:=by rw [<- cJ (xs:=xs.map a.eval),hy]);obtain⟨u,w',E',o',nC,h1,Wt,hd2,h2,h3,h4⟩:=DS ht hs (ty:=type) DJ H7 ha;refine dG o7 (v:=u) (w':=w') ?_ (hn _ _ ⟨E',_,h2.put dst h4,h3,h o' nC Wt hd2⟩);simp only [execOp,resolve,Sem.run_bind,Sem.run_pure,Result.andThen_ok,invoke,builtin,sA,h1]);exact h.elim);exact h.elim
 ·rename_i f xs ts;split at h;(·rename_i k hfv;have hf:=hs.eval f;rw [hfv] at hf;generalize hfx:a.eval f=fx at hf;cases hf with|kx _ _ l e c hb =>(rcases h with ⟨b,b7,hy,hQ⟩|⟨R,hy,hQ⟩);rotate_left;(·obtain⟨fn,tmps,assign,body,h1,h2⟩:=hy E w (xs.map a.eval) l e c hs.bare (hs.qx xs) hb;refine zI o7 (l:=l) (f:=fn) (tmps:=tmps) (assign:=assign) (body:=body) ?_ h2 fun e w' ⟨E',b,b7,he,hR,gM,qo⟩=>⟨_,he,hn _ _ ⟨E',_,(hs.Ih qo gM.le).put dst (.sc _ _),gM,hQ _ _ hR⟩⟩;rw [<- h1];simp [execOp,resolve,hfx,Deferred.ofValue,invoke]);obtain⟨fn,tmps,assign,body,h1,h2⟩:=hy E w (xs.map a.eval) l e c hs.bare (hs.qx xs) hb;refine zI o7 (l:=l) (f:=fn) (tmps:=tmps) (assign:=assign) (body:=body) ?_ h2 fun e w' ⟨E',he,gM,qo⟩=>⟨_,he,hn _ _ ⟨E',_,(hs.Ih qo gM.le).put dst (.sc _ _),gM,hQ⟩⟩;rw [<- h1];simp [execOp,resolve,hfx,Deferred.ofValue,invoke]);rename_i hfv;split at h;(·rename_i g vs hg;obtain⟨ys,h1,h2⟩:=sW (P:=P) (w:=w) (hs.eval f) (hs.qx xs) hg;(rcases zJ hs h h1 with ⟨h3,h4⟩|⟨v,h3,h4⟩);(·refine zH o7 (f:=g) (xs:=ys) ?_ h4 fun e w' ⟨v,hv,ha⟩=>⟨v,hv,hn _ _ ha⟩;rw [<- h3,<- h2];simp only [execOp,resolve]);refine dG o7 (v:=v) ?_ (hn _ _ h4);rw [<- h3,<- h2];simp only [execOp,resolve]);exact h.elim
 ·split at h;(·rename_i size rs cap hm;obtain⟨E',w',h1,h2,h3,h4⟩:=H9 (P:=P) ht hs hk (hs.eval _) (hs.eval _) hm;exact dG o7 (jG h1) (hn _ _ ⟨E',_,h2.put dst h4,h3,h⟩));exact h.elim
 ·obtain⟨E',w',h1,h2,h3,h4⟩:=DQ (P:=P) hs hk _;exact dG o7 (jG h1) (hn _ _ ⟨E',_,h2.put dst h4,h3,h⟩)
 ·split at h;(·rename_i b7 hm;obtain⟨w',h1,h2,h3⟩:=ve (P:=P) hs (hs.eval _) (hs.eval _) (hs.eval _) hm;refine oL o7 (w':=w') ?_ (hn _ _ ⟨E,_,h2.put dst (.sc _ _),h3,h⟩);simp [execOp,h1]);exact h.elim
 ·split at h;(·rename_i b7 hm;obtain⟨w',h1,h2,h3⟩:=ve (P:=P) hs (hs.eval _) (hs.eval _) (hs.eval _) hm;refine oL o7 (w':=w') ?_ (hn _ _ ⟨E,_,h2.put dst (.sc _ _),h3,h⟩);simp [execOp,h1]);exact h.elim
 ·split at h;(·rename_i b7 v hm;obtain⟨z,w',h1,h2,h3,h4⟩:=FV (P:=P) hs (hs.eval _) (hs.eval _) hm;exact dG o7 (jG h1) (hn _ _ ⟨E,_,h2.put dst h4,h3,h⟩));exact h.elim
 ·rename_i T m s x;split at h;(·rename_i b7 hm;obtain⟨w',h1,h2,h3⟩:=FW (P:=P) (T:=T) hs (hs.eval _) (hs.eval _) (hs.eval _) hm;refine oL o7 (w':=w') ?_ (hn _ _ ⟨E,_,h2.put dst (.sc _ _),h3,h⟩);simp [execOp,h1]);exact h.elim
 ·rename_i xs ts;split at h;(·rename_i b7 hm;obtain⟨w',h1,h2,h3⟩:=DP (ty:=type) hs (hs.qx xs) hm;refine dG o7 (v:=.tuple #[]) (w':=w') ?_ (hn _ _ ⟨E,_,h2.put dst (.sc _ _),h3,h⟩);simp only [execOp,resolve,Sem.run_bind,Sem.run_pure,Result.andThen_ok,invoke,builtin,h1]);exact h.elim
 ·split at h;(·rename_i B hB;obtain⟨E',w',h1,h2,h3,h4⟩:=Bw (P:=P) hs hk (hs.eval _) hB;exact dG o7 (jG h1) (hn _ _ ⟨E',_,h2.put dst h4,h3,h⟩));exact h.elim
 ·obtain⟨z,w',st',h1,h2,h3,h4⟩:=H8 (P:=P) (ty:=type) hs (hs.eval _) h;exact dG o7 (jG h1) (hn _ _ ⟨E,st',h2,h3,h4⟩)
 ·rename_i op T x y yT;split at h;(·rename_i m hm;obtain⟨b,hb,fG⟩:=F0 (P:=P) (w:=w) ht x y (hs.eval x) (hs.eval y) hm;exact dG o7 (dN fG) (hn _ _ ⟨E,_,hs.put dst (.sc _ _),iF.refl E w,h b hb⟩));split at h;(·rename_i v hv;obtain⟨x,h1,h2⟩:=uf ht hs hv;exact dG o7 h1 (hn _ _ ⟨E,_,hs.put dst h2,iF.refl E w,h⟩));exact h.elim
 split at h;·rename_i v hv;obtain⟨x,h1,h2⟩:=uf ht hs hv;exact dG o7 h1 (hn _ _ ⟨E,_,hs.put dst h2,iF.refl E w,h⟩)
 exact h.elim
def gE (all:Array Oper) (fr:List V) (o:Oper):Option Bool :=
 match o.guard with
 | none=>some true
 | some (j,want)=>match (all[j]?).bind (·.dst) with
  | none=>some false
  | some d=>match fr[d]? with
   | some (.sc (.bool b))=>some (b==want)
   | some (.sc _)=>some false
   | some _=>none
   | none=>some false
theorem jb {E:Env} {w:World} {a:Act} {st:St} (hs:dt E w a st) {all:Array Oper} {o:Oper} {b:Bool} (h:gE all st.fr o=some b):Region.wanted o (yielded all a.tmps)=b:=by
 unfold gE at h;unfold Region.wanted;split at h;·rename_i hg;rw [hg];simpa using h
 rename_i j want hg;rw [hg];dsimp only;unfold yielded;split at h;·rename_i hd;rw [hd];simp at h;subst h;rfl
 rename_i d hd;rw [hd];split at h;·rename_i bb hf;obtain⟨x,hx,hr⟩:=hs.fr.get hf;obtain rfl:=fL hr;simp only [aD] at h;subst h;(have:a.tmps[d]?=some (.bool bb):=by simpa using hx);simp [this]
 ·rename_i v dI hf;obtain⟨x,hx,hr⟩:=hs.fr.get hf;obtain rfl:=fL hr;simp only [aD] at h;subst h;(have:a.tmps[d]?=some x:=by simpa using hx);simp only [av7,this];cases x <;> first|rfl|exact absurd rfl (dI _)
 ·cases h
 rename_i hf;simp only [aD] at h;subst h;have hl:st.fr.length=a.tmps.size:=by have:=hs.fr.1;simpa using this
 have:a.tmps[d]?=none:=by rw [awR] at hf;exact avG (by omega)
 simp [this]
def eV (P:g7) (tt:Table) (all:Array Oper):List Oper->St->(St->Prop)->Prop
 | [],st,Q=>Q st
 | o :: r,st,Q=>match gE all st.fr o with
  | some true=>dv P tt st.mem.length o st fun st'=>eV P tt all r st' Q
  | some false=>eV P tt all r (st.put o.dst (.sc undef)) Q
  | none=>False
@[congr] theorem YV {P:g7} {f f':FuncId} {vs vs':List V} {st st':St} {dst:Option Tmp} {Q:St->Prop} (hf:f=f') (hv:vs=vs') (h:st=st'):zw P f vs st dst Q=zw P f' vs' st' dst Q:=by rw [hf,hv,h]
theorem put_defers (a:Act) (dst:Option Tmp) (v:Value):(a.put dst v).defers=a.defers:=by cases dst <;> rfl
theorem wS {P:g7} {tt:Table} (ht:TT P tt) {ρ:Option Nat} {n:Nat} {all:Array Oper} {Q:St->Prop} {Q':Exit->Act->World->Prop}:∀ (Wu pre:List Oper),all.toList=pre++Wu ->
  ∀ {E:Env} {w:World} {a:Act} {st:St},dt E w a st->eV P tt all Wu st Q->(∀ a' w',a'.defers=a.defers->(∃ E' st',dt E' w' a' st'/\iF E w E' w'/\Q st')->Q' .normal a' w')->wpOpsIn (WF ρ) n P all Q' (List.range' pre.length Wu.length) a w:=by intro Wu;induction Wu with|nil=>intro pre _ E w a st hs h hq;exact hq _ _ rfl ⟨E,st,hs,iF.refl E w,h⟩|cons o r ih =>intro pre cZ E w a st hs h hq;(have lz:all[pre.length]?=some o:=by rw [<- dV,cZ,bm (aA _)];simp);(have RH:all.toList=(pre++[o])++r:=by rw [cZ];simp);have ih':=@ih (pre++[o]) RH;simp only [ab,af,ah,dc] at ih';rw [af,avI,wpOpsIn,lz];dsimp only;simp only [eV] at h;split at h;(·rename_i hw;rw [gH (jb hs hw)];refine ib ht hs (.inr rfl) h ?_;rintro v w' ⟨E',st',h1,h2,h3⟩;exact ih' h1 h3 fun a'' w'' hd ⟨Dw,K5,h4,h5,h6⟩=>hq _ _ (hd.trans (put_defers _ _ _)) ⟨Dw,K5,h4,h2.trans h5,h6⟩);(·rename_i hw;rw [g5 (by rw [jb hs hw];simp)];exact⟨fun _ _=>trivial,ih' (hs.put o.dst (.sc _ _)) h fun a'' w'' hd h=>hq _ _ (hd.trans (put_defers _ _ _)) h⟩);exact h.elim
def Marks (E:Env) (w:World) (base:Nat) (ds:List Deferred):Prop :=
 ∃ rs:List Nat,ds=rs.map (fun r => { target:=.collected r,args := #[] })/\rs.Nodup/\∀ r∈rs,base<=r/\w.heap[r]?=some (.deferred (some []))/\∀ k v e c,E.cE k v≠some (r,e,c)
theorem Marks.Q6 {E E':Env} {w w':World} {base:Nat} {ds:List Deferred} (h:Marks E w base ds) (he:iF E w E' w'):Marks E' w' base ds:=by
 obtain⟨rs,h1,h2,h3⟩:=h;refine⟨rs,h1,h2,fun r hr=>?_⟩;obtain⟨h6,h4,h5⟩:=h3 r hr;have bH:r<w.heap.size:=by (rcases bn r w.heap.size with h|h);(·exact h);rw [avG h] at h4;cases h4
 refine⟨h6,(he.heap r bH h5).trans h4,fun k v e c hk=>?_⟩;rcases he.cE _ _ _ _ _ hk with ⟨k0,v0,e0,c0,h⟩|h
 ·exact h5 _ _ _ _ h
 omega
theorem Marks.nil (E:Env) (w:World) (base:Nat):Marks E w base []:=⟨[],rfl,.nil,fun r h=>by simp at h⟩
def RI (E0:Env) (w0:World) (Q:Exit->St->Prop):Exit->Act->World->Prop:=fun ex a' w'=>∃ E' st',dt E' w' a' st'/\iF E0 w0 E' w'/\Marks E' w' w0.heap.size a'.defers/\Q ex st'
def fc (P:g7) (ρ:Option Nat) (n0:Nat) (c:Code) (st:St) (Q:Exit->St->Prop):Prop :=
 ∀ (E0:Env) (w0:World),(∀ k,n0<=k->∀ v,E0.cE k v=none)->∀ (E:Env) (w:World) (a:Act),iF E0 w0 E w->dt E w a st->Marks E w w0.heap.size a.defers->c.wpIn (WF ρ) 0 P (RI E0 w0 Q) a w
def iQ (next:St->Prop) (Q:Exit->St->Prop):Exit->St->Prop
 | .normal,st=>next st
 | e,st=>Q e st
def kB (id:Nat) (Q:Exit->St->Prop):Exit->St->Prop
 | .exit j,st=>if j=id then Q .normal st else Q (.exit j) st
 | e,st=>Q e st
section
variable {P:g7} {tt:Table} {ρ:Option Nat} {n0:Nat} {st:St} {Q:Exit->St->Prop}
theorem fc.mono {c:Code} {Q':Exit->St->Prop} (h:fc P ρ n0 c st Q) (hq:∀ e st',Q e st'->Q' e st'):fc P ρ n0 c st Q' :=
 fun E0 w0 h0 E w a he hs hm=>wpIn_mono (h E0 w0 h0 E w a he hs hm) fun _ _ _ ⟨E',st',h1,h2,h4,h3⟩=>⟨E',st',h1,h2,h4,hq _ _ h3⟩
theorem cR (h:Q .normal st):fc P ρ n0 .skip st Q:=fun E0 w0 h0 E w a he hs hm=>wpIn_skip ⟨E,st,hs,he,hm,h⟩
theorem cy (h:Q .ret st):fc P ρ n0 .ret st Q:=fun E0 w0 h0 E w a he hs hm=>wpIn_ret ⟨E,st,hs,he,hm,h⟩
theorem fA {id:Nat} (h:Q (.exit id) st):fc P ρ n0 (.exit id) st Q:=fun E0 w0 h0 E w a he hs hm=>wpIn_exit ⟨E,st,hs,he,hm,h⟩
theorem bS {x y:Code} (h:fc P ρ n0 x st (iQ (fun st'=>fc P ρ n0 y st' Q) Q)):fc P ρ n0 (.seq x y) st Q:=fun E0 w0 h0 E w a he hs hm=>by refine wpIn_seq (wpIn_mono (h E0 w0 h0 E w a he hs hm) ?_);rintro e a' w' ⟨E',st',h1,h2,h4,h3⟩;cases e with|normal=>exact h3 E0 w0 h0 E' w' a' h2 h1 h4|_=>exact⟨E',st',h1,h2,h4,h3⟩
theorem bD {c:Operand} {x y:Code} {b:Bool} (hc:st.eval c = .sc (.bool b)) (h:fc P ρ n0 (if b=true then x else y) st Q):fc P ρ n0 (.cond c x y) st Q:=fun E0 w0 h0 E w a he hs hm=>by have:=hs.eval c;rw [hc] at this;exact wpIn_cond (t:=b) (fL this) (h E0 w0 h0 E w a he hs hm)
theorem cz {id:Nat} {c:Code} (h:fc P ρ n0 c st (kB id Q)):fc P ρ n0 (.block id c) st Q:=fun E0 w0 h0 E w a he hs hm=>by refine wpIn_block (wpIn_mono (h E0 w0 h0 E w a he hs hm) ?_);rintro e a' w' ⟨E',st',h1,h2,h4,h3⟩;cases e with|exit j =>simp only [Exit.inBlock,kB] at h3 ⊢;split;(·rename_i hj;rw [gH hj] at h3;exact⟨E',st',h1,h2,h4,h3⟩);rename_i hj;rw [g5 hj] at h3;exact⟨E',st',h1,h2,h4,h3⟩|_=>exact⟨E',st',h1,h2,h4,h3⟩
theorem mV (ht:TT P tt) {id:Nat} {ops:Array Oper} (h:eV P tt ops ops.toList st (Q .normal)):fc P ρ n0 (.region id ops false) st Q:=fun E0 w0 h0 E w a he hs hm=>by refine wpIn_region ?_;have:=wS ht (ρ:=ρ) (n:=0) (Q':=RI E0 w0 Q) ops.toList [] (by simp) hs h (fun a' w' hd ⟨E',st',h1,h2,h3⟩=>⟨E',st',h1,he.trans h2,by rw [hd];exact hm.Q6 h2,h3⟩);rw [avJ];simpa using this
def mv (P:g7) (ρ:Option Nat) (n0:Nat) (c:Code):Nat->St->(Exit->St->Prop)->Prop
 | 0,_,_=>False
 | n+1,st,Q=>fc P ρ n0 c st (iQ (fun st'=>mv P ρ n0 c n st' Q) Q)
theorem sX {c:Code} (n:Nat) (h:mv P ρ n0 c n st Q):fc P ρ n0 (.loop c) st Q:=fun E0 w0 h0 E w a he hs hm=>by
 refine wpIn_loop_rounds n ?_;have key:∀ (n:Nat) (E1:Env) (w1:World) (a1:Act) (uR:St),dt E1 w1 a1 uR->iF E0 w0 E1 w1->Marks E1 w1 w0.heap.size a1.defers->mv P ρ n0 c n uR Q->Code.roundsIn (WF ρ) 0 P c (RI E0 w0 Q) n a1 w1:=by intro n;induction n with|zero=>intro E1 w1 a1 uR _ _ _ h;exact h.elim|succ n ih =>intro E1 w1 a1 uR h1 h2 h5 h3;refine wpIn_mono (h3 E0 w0 h0 E1 w1 a1 h2 h1 h5) ?_;rintro e a' w' ⟨E',st',h4,h5,h7,h6⟩;cases e with|normal=>exact ih E' w' a' st' h4 h5 h7 h6|_=>exact⟨E',st',h4,h5,h7,h6⟩
 exact key n E w a st hs he hm h
theorem sY {c:Code} {st':St} (hw:∀ E w a,dt E w a st->dt E w a st') (h:fc P ρ n0 c st' Q):fc P ρ n0 c st Q :=
 fun E0 w0 h0 E w a he hs hm=>h E0 w0 h0 E w a he (hw E w a hs) hm
mutual
def aQ (n:Nat):V->Bool
 | .ms b _ _ _=>decide (b<n)
 | .ptr b _=>decide (b<n)
 | .kx b=>decide (b<n)
 | .mp b=>decide (b<n)
 | .iI b _ _ _=>decide (b<n)
 | .undef=>true
 | .sc _=>true
 | .slice _=>true
 | .fQ _=>true
 | .gn=>true
 | .full _=>true
 | .agg cs=>bC n cs
 | .fZ cs=>bC n cs
 | .jh _ first cap=>bC n first&&bC n cap
def bC (n:Nat):List V->Bool
 | []=>true
 | c :: r=>aQ n c&&bC n r
end
theorem gR (n:Nat) (l:List V):bC n l=l.all (aQ n):=by induction l with|nil=>rfl|cons c r ih=>simp [bC,ih]
def a6 (n:Nat):bx->Bool
 | .box cs=>cs.all (aQ n)
 | .loop _ _ fr _ _ _=>fr.all (aQ n)
 | .map dU _=>dU.all (fun k=>aQ n k.2.2)
 | .jX m _ _ _=>decide (m<n)
 | .ox _ kb _ _=>decide (kb<n)
 | _=>true
def Env.cut (E:Env) (n:Nat):Env := { F:=E.F,cE:=fun k v=>if k<n then E.cE k v else none,gl:=E.gl }
theorem jc {E:Env} {n:Nat} {v:V} {x:Value} (h:df E v x) (hb:aQ n v=true):df (E.cut n) v x:=by induction h with|undef=>exact .undef _ _|sc=>exact .sc _ _|slice E rows a cap vz ad xf ha mF hz hF h1 hR ih=>exact .slice _ _ _ _ vz ad xf ha mF hz hF h1 hR|ms E b v s l g e c a cap fw hl h0 wD=>exact .ms _ _ _ _ _ g e c _ _ ((gH (by simpa [aQ] using hb)).trans fw) hl h0 wD|jr=>exact .jr _ _ _ _|ptr E b o g e c fw=>exact .ptr _ _ _ g e c ((gH (by simpa [aQ] using hb)).trans fw)|kx E b l e c fw=>exact .kx _ _ l e c ((gH (by simpa [aQ] using hb)).trans fw)|mp E b l e c fw=>exact .mp _ _ l e c ((gH (by simpa [aQ] using hb)).trans fw)|iI E b v i o g e c fw=>exact .iI _ _ _ _ _ g e c ((gH (by simpa [aQ] using hb)).trans fw)|fQ E cs ad xf hF hR ih=>exact .fQ _ _ _ xf hF hR|gn=>exact .gn _|full E rows a h ih=>exact .full _ _ _ (ih rfl)|agg E cs xs hl hh ih =>rw [aQ,gR] at hb;exact .agg _ _ _ hl fun i c x hc hx=>ih i c x hc hx (ba.1 hb c (aw hc))|fZ E cs xs hl hh ih =>rw [aQ,gR] at hb;exact .fZ _ _ _ hl fun i c x hc hx=>ih i c x hc hx (ba.1 hb c (aw hc))|jh E f first cap xs ys hx hy h1 h2 ih1 ih2 =>rw [aQ,gR,gR,aG] at hb;exact .jh _ _ _ _ _ _ hx hy (fun i c x hc hx=>ih1 i c x hc hx (ba.1 hb.1 c (aw hc))) fun i c x hc hx=>ih2 i c x hc hx (ba.1 hb.2 c (aw hc))
theorem dt.cut {E:Env} {w:World} {a:Act} {st:St} (hs:dt E w a st) {n:Nat} (hf:st.fr.all (aQ n)=true) (hm:(st.mem.take n).all (a6 n)=true):dt (E.cut n) w a { st with mem:=st.mem.take n }:=by
 have ix:∀ k v,k<n->(E.cut n).cE k v=E.cE k v:=fun k v h=>gH h;have fP:∀ k v,n<=k->(E.cut n).cE k v=none:=fun k v h=>g5 (by omega);have bH:∀ {k v t},(E.cut n).cE k v=some t->k<n/\E.cE k v=some t:=fun {k v t} h=>by by_cases hk:k<n;(·rw [ix k v hk] at h;exact⟨hk,h⟩);rw [fP k v (by omega)] at h;cases h
 have lz:∀ {k:Nat} {B:bx},(st.mem.take n)[k]?=some B->k<n/\st.mem[k]?=some B:=fun {k B} h=>by rw [gU] at h;split at h;(·exact⟨by assumption,h⟩);cases h
 refine⟨hs.F,fun k v g e c h=>hs.lt _ _ _ _ _ (bH h).2,fun k B hk=>?_,fun k hk v=>?_,fun k B hk v hv=>?_,fun k k' v v' g e1 c1 e2 c2 h5 h6=>hs.apart _ _ _ _ _ _ _ _ _ (bH h5).2 (bH h6).2,⟨hs.fr.1,fun i v x hv hx=>jc (hs.fr.2 i v x hv hx) (ba.1 hf v (aw hv))⟩⟩;·obtain⟨fe,mm⟩:=lz hk;have cZ:=ba.1 hm B (aw hk);have h:=hs.mem k B mm;cases B with|hole=>(exact fun v=>by rw [ix k v fe];exact h v)|dead=>trivial|box cs =>obtain⟨g,T,xs,h1,h2,h3,h4⟩:=h;exact⟨g,T,xs,(ix k 0 fe).trans h1,h2,⟨h3.1,fun i v x hv hx=>jc (h3.2 i v x hv hx) (ba.1 cZ v (aw hv))⟩,h4⟩|loop s oe fr params assign body =>obtain⟨l,fn,tmps,db,h1,h2,h3,h4⟩:=h;exact⟨l,fn,tmps,db,(ix k 0 fe).trans h1,h2,⟨h3.1,fun i v x hv hx=>jc (h3.2 i v x hv hx) (ba.1 cZ v (aw hv))⟩,h4⟩|map dU clock =>obtain⟨g,es,h1,h2,h3,h4⟩:=h;exact⟨g,es,(ix k 0 fe).trans h1,h2,⟨h3.1,fun i kb e hk he=>let ⟨p1,p2,p3⟩:=h3.2 i kb e hk he;⟨p1,p2,jc p3 (ba.1 cZ kb (aw hk))⟩⟩,h4⟩|jX m since seen last =>obtain⟨g,gm,e,c,h1,h2,h3,h4⟩:=h;(have RJ:m<n:=by simpa [a6] using cZ);exact⟨g,gm,e,c,(ix k 0 fe).trans h1,(ix m 0 RJ).trans h2,h3,h4⟩|ox T kb v l =>obtain⟨g,T',p,s,h1,h2,h3,h4,h5⟩:=h;exact⟨g,T',p,s,(ix k 0 fe).trans h1,h2,h3,jc h4 (by simpa [a6,aQ] using cZ),h5⟩|pq T v O =>((rcases h with ⟨h1,h2⟩|⟨g,cur,c,h1,h2⟩);(·exact .inl ⟨h1,(ix k v fe).trans h2⟩);exact .inr ⟨g,cur,c,(ix k v fe).trans h1,h2⟩)|n9 s pos =>obtain⟨g,h1,h2,h3⟩:=h;exact⟨g,(ix k 0 fe).trans h1,h2,h3⟩|oG =>obtain⟨g,h1,h2,h3⟩:=h;exact⟨g,(ix k 0 fe).trans h1,h2,h3⟩|rows v e rs =>((rcases h with ⟨h1,h2⟩|⟨g,T,xs,c,h1,h2⟩);(·exact .inl ⟨h1,(ix k v fe).trans h2⟩);exact .inr ⟨g,T,xs,c,(ix k v fe).trans h1,h2⟩)|sF v e rs =>(rcases h with ⟨h1,h2⟩|⟨g,c,h1,h2⟩);(·exact .inl ⟨h1,(ix k v fe).trans h2⟩);exact .inr ⟨g,c,(ix k v fe).trans h1,h2⟩
 ·by_cases fe:k<n;(·rw [ix k v fe];refine hs.top k ?_ v;dsimp only at hk;rw [eK] at hk;omega);exact fP k v (by omega)
 obtain⟨fe,mm⟩:=lz hk;rw [ix k v fe];exact hs.ej k B mm v hv
def forget (zK:List Nat) (fr:List V):List V:=zK.foldl (fun fr i=>fr.set i .undef) fr
theorem dt.forget {E:Env} {w:World} {a:Act} (zK:List Nat):∀ {st:St},dt E w a st->dt E w a { st with fr:=Eng.forget zK st.fr }:=by induction zK with|nil=>intro st hs;exact hs|cons i r ih =>intro st hs;(have:dt E w a { st with fr:=st.fr.set i .undef }:=by refine⟨hs.F,hs.lt,hs.mem,hs.top,hs.ej,hs.apart,⟨by simpa using hs.fr.1,fun j v x hv hx=>?_⟩⟩;dsimp only at hv;rw [cf] at hv;split at hv;(·split at hv;(·cases hv;exact .undef _ _);cases hv);exact hs.fr.2 j v x hv hx);exact ih this
theorem BE {c:Code} (n:Nat) (zK:List Nat) (hn:n0<=n) (hf:(forget zK st.fr).all (aQ n)=true) (hm:(st.mem.take n).all (a6 n)=true)
  (h:fc P ρ n0 c { fr:=forget zK st.fr,mem:=st.mem.take n } Q):fc P ρ n0 c st Q:=fun E0 w0 h0 E w a he hs qg=>by
 have h1:=(hs.forget zK).cut (n:=n) hf hm
 refine h E0 w0 h0 (E.cut n) w a ⟨⟨he.le.F,fun k v t hk=>?_⟩,fun k v g e c hk=>?_,he.F,he.os,he.tape,he.output,he.size,he.heap⟩ h1 ?_
 rotate_left 2
 ·obtain⟨rs,m1,m2,m3⟩:=qg
  refine⟨rs,m1,m2,fun r hr=>⟨(m3 r hr).1,(m3 r hr).2.1,fun k v e c hk=>?_⟩⟩
  have:E.cE k v=some (r,e,c):=by
   by_cases fe:k<n
   ·exact ((gH fe).symm.trans hk:E.cE k v=_)
   have h2:(E.cut n).cE k v=none:=g5 fe
   rw [h2] at hk;cases hk
  exact (m3 r hr).2.2 _ _ _ _ this
 ·have:k<n:=by
   rcases bn k n with bH|fP
   ·exact bH
   rw [h0 k (by omega) v] at hk;cases hk
  exact (gH this).trans (he.le.cE _ _ _ hk)
 have:E.cE k v=some (g,e,c):=by
  by_cases fe:k<n
  ·exact ((gH fe).symm.trans hk:E.cE k v=_)
  have h2:(E.cut n).cE k v=none:=g5 fe
  rw [h2] at hk;cases hk
 exact he.cE _ _ _ _ _ this
theorem dt.Wv {E:Env} {w:World} {a:Act} {st:St} (hs:dt E w a st) {i b v:Nat} (h:st.fr[i]?=some (.sc (.slice none 0 0))):dt E w a { st with fr:=st.fr.set i (.ms b v 0 0) }:=by
 refine⟨hs.F,hs.lt,hs.mem,hs.top,hs.ej,hs.apart,⟨by simpa using hs.fr.1,fun j u x hu hx=>?_⟩⟩;dsimp only at hu;rw [cf] at hu;split at hu;·rename_i KH;subst KH;split at hu;(·cases hu;have:=hs.fr.2 _ _ _ h hx;rw [fL this];exact .jr _ _ _ _);cases hu
 exact hs.fr.2 j u x hu hx
end
def vM (tt:Table) (st:St):ResultVar->Option V
 | .tmp t=>some (st.fr.getD t .undef)
 | .cell a T=>qs tt st.mem T (st.fr.getD a .undef)
def so (tt:Table) (st:St):List ResultVar->Option (List V)
 | []=>some []
 | r :: rs=>match vM tt st r with
  | some v=>match so tt st rs with|some l=>some (v :: l)|none=>none
  | none=>none
def rm (tt:Table) (rs:Array ResultVar) (st:St):Option V :=
 match so tt st rs.toList with
 | some [v]=>K0 st.mem v
 | some vs=>K0 st.mem (.fZ vs)
 | none=>none
theorem oM {P:g7} {tt:Table} (ht:TT P tt) {E:Env} {w:World} {a:Act} {st:St} (hs:dt E w a st):∀ (rs:List ResultVar) (vs:List V),so tt st rs=some vs ->
  ∃ xs:List Value,(rs.mapM (fun|.tmp t=>pure (a.tmps.getD t undef)|.cell p t=>do loadVar t (<- asAddr (a.tmps.getD p undef))):Sem (List Value)).run P w = .ok xs w/\dh E vs xs
 | [],vs,h=>by simp [so] at h;subst h;exact⟨[],rfl,.nil _⟩
 | r :: rs,vs,h=>by
  simp only [so] at h
  split at h
  ·rename_i v hv
   split at h
   ·rename_i l hl
    simp only [aD] at h;subst h
    obtain⟨xs,h1,h2⟩:=oM ht hs rs l hl
    have hx:∃ x,((match r with|.tmp t=>pure (a.tmps.getD t undef)|.cell p t=>do loadVar t (<- asAddr (a.tmps.getD p undef))):Sem Value).run P w = .ok x w/\df E v x:=by
     cases r with
     | tmp t =>
      simp only [vM,aD] at hv;subst hv
      exact⟨_,rfl,hs.eval (.tmp t)⟩
     | cell p t =>
      simp only [vM] at hv
      have hp:=hs.eval (.tmp p)
      obtain⟨y,h3,h4⟩:=zf ht hs hp hv
      refine⟨y,?_,h4⟩
      have YW:∃ ad,a.tmps.getD p undef = .pointer (some ad):=by
       have rn:df E (st.fr.getD p .undef) (a.tmps.getD p undef):=hp
       revert rn hv
       generalize st.fr.getD p .undef=q
       generalize a.tmps.getD p undef=z
       intro hv rn
       cases rn with
       | ptr=>exact⟨_,rfl⟩
       | iI=>exact⟨_,rfl⟩
       | fQ=>exact⟨_,rfl⟩
       | _=>simp [qs] at hv
      obtain⟨ad,had⟩:=YW
      have h3':(Instr.loadAt t (a.tmps.getD p undef)).run P w = .ok y w:=h3
      show ((do loadVar t (<- asAddr (a.tmps.getD p undef))):Sem Value).run P w=_
      rw [had] at h3' ⊢
      simpa [Instr.loadAt,Instr.sureAddr,asAddr] using h3'
    obtain⟨x,h3,h4⟩:=hx
    refine⟨x :: xs,?_,.cons h4 h2⟩
    simp only [av0,Sem.run_bind]
    rw [h3]
    simp only [Result.andThen_ok]
    rw [h1]
    rfl
   cases h
  cases h
theorem K6 {P:g7} {tt:Table} (ht:TT P tt) {E:Env} {w:World} {a:Act} {st:St} (hs:dt E w a st) {fn:Func} {r:V} (h:rm tt fn.results st=some r) :
  ∃ keys x,(results fn a.tmps).run P w = .ok x w/\df (E.qW w keys).pure r x:=by
 unfold rm at h
 have run:∀ xs:List Value,(fn.results.toList.mapM (fun|.tmp t=>pure (a.tmps.getD t undef)|.cell p t=>do loadVar t (<- asAddr (a.tmps.getD p undef))):Sem (List Value)).run P w = .ok xs w ->
   (results fn a.tmps).run P w = .ok (if h:xs.toArray.size=1 then xs.toArray[0] else .tuple xs.toArray) w:=fun xs hx=>by
  unfold results
  rw [awl]
  simp only [Sem.run_bind,Sem.run_map]
  erw [hx]
  rfl
 split at h;·rename_i v hv;obtain⟨xs,h1,h2⟩:=oM ht hs _ _ hv;obtain⟨x,ys,rfl,h3,h4⟩:=h2.of_cons;have:=h4.of_nil;subst this;exact⟨refs v,x,run _ h1,El hs h3 h fun k hk=>hk⟩
 ·rename_i vs dI hv;obtain⟨xs,h1,h2⟩:=oM ht hs _ _ hv;(have hl:xs.toArray.size≠1:=by have:=h2.1;intro he;match vs,xs,this,he with|[v],_,_,_=>exact dI v rfl|[],[],_,he=>simp at he|[],_ :: _,h,_=>simp at h|_ :: _ :: _,[],h,_=>simp at h|_ :: _ :: _,_ :: [],h,_=>simp at h|_ :: _ :: _,_ :: _ :: _,_,he=>simp at he);have h3:=run _ h1;rw [dif_neg hl] at h3;exact⟨refs (.fZ vs),_,h3,El hs (.fZ _ _ _ (by simpa using h2.1) fun i c x hc hx=>h2.2 i c x hc (by simpa using hx)) h fun k hk=>hk⟩
 cases h
def dj (fn:Func) (args:List V) (mem:List bx):St := { fr:=args++List.replicate (fn.ntmps-args.length) (.sc undef),mem:=mem }
theorem zL {E:Env} (fn:Func) {args:List V} {mem:List bx} {xs:Array Value} (hx:dh E args xs.toList):dh E (dj fn args mem).fr (xs++Array.replicate (fn.ntmps-xs.size) undef).toList:=by
 have hl:args.length=xs.size:=by have:=hx.1;simpa using this
 simp only [dj,AE,Array.toList_replicate,hl];refine hx.append ⟨by simp,fun i v x hv hx=>?_⟩;rw [awh] at hv hx;split at hv;·rename_i hi;rw [gH hi] at hx;cases hv;cases hx;exact .sc _ _
 cases hv
theorem F4 {P:g7} {w:World} {r:Nat} (h:w.heap[r]?=some (.deferred (some []))):(Instr.takeDeferred r).run P w = .ok [] { w with heap:=w.heap.setIfInBounds r (.deferred none) }:=by simp [Instr.takeDeferred,getObj,setObj,Sem.run,h,bind,Sem.bind,pure]
theorem rq {P:g7} {fn:Func} {tmps:Array Value} {R:Ending->World->Prop}:∀ (rs:List Nat) (w:World),rs.Nodup->(∀ r∈rs,w.heap[r]?=some (.deferred (some []))) ->
  (∀ w',w'.os=w.os->w'.tape=w.tape->w'.output=w.output->w'.heap.size=w.heap.size->(∀ b,b ∉ rs->w'.heap[b]?=w.heap[b]?)->∃ v,(results fn tmps).run P w' = .ok v w'/\R (.returned v) w') ->
  LeavesInM (WF none) 0 P fn tmps R (rs.map (fun r => { target:=.collected r,args := #[] })) .returning w
 | [],w,_,_,h=>by
  obtain⟨v,h1,h2⟩:=h w rfl rfl rfl rfl fun _ _=>rfl
  exact⟨v,h1,h2⟩
 | r :: rs,w,hn,hr,h=>by
  refine⟨by simp,.inl ⟨r,_,rfl,F4 (hr r (cP ..)),?_⟩⟩
  rw [aws] at hn
  have Io:∀ b,b≠r->(w.heap.setIfInBounds r (.deferred none))[b]?=w.heap[b]?:=fun b hb=>Ft (fun e=>hb e.symm)
  refine rq rs _ hn.2 (fun r' KI=>?_) fun w' h1 h2 h3 h4 h5=>?_
  ·rw [Io r' (fun e=>hn.1 (e ▸ KI))];exact hr r' (bZ _ KI)
  exact h w' h1 h2 h3 (by rw [h4];simp) fun b hb=>by
   simp only [dp,not_or] at hb
   rw [h5 b hb.2,Io b hb.1]
theorem dt.RL {E:Env} {w w':World} {a:Act} {st:St} (hs:dt E w a st) {rs:List Nat} (hr:∀ r∈rs,w.heap[r]?=some (.deferred (some []))/\∀ k v e c,E.cE k v≠some (r,e,c)) (ly:w'.heap.size=w.heap.size)
  (hh:∀ b,b ∉ rs->w'.heap[b]?=w.heap[b]?):dt E w' a st:=by
 refine⟨fun ad x hx=>?_,fun k v g e c h=>by rw [ly];exact hs.lt _ _ _ _ _ h,fun k B hk=>?_,hs.top,hs.ej,hs.apart,hs.fr⟩;·have hc:=hs.F ad x hx;(have:ad.block ∉ rs:=fun pY=>by have:=(hr _ pY).1;simp [World.cell?,this] at hc);rw [<- hc];simp [World.cell?,hh _ this]
 exact (hs.mem k B hk).mono E.le_refl (fun _ h=>h) (fun g e c h=>hh g fun pY=>(hr g pY).2 _ _ _ _ h) fun _ _ _ _ _ h=>h
theorem Na {P:g7} {tt:Table} (ht:TT P tt) {f:FuncId} {fn:Func} {body:Code} {args:List V} {r:V} (hf:P.funcs[f]?=some fn) (hb:fn.body=some body)
  (fM:∀ (xs:Array Value) (w:World),(callFunc f xs).run P w = .ok (.enter f xs) w)
  (h:fc P none 0 body (dj fn args []) fun ex st'=>(ex = .ret\/ex = .normal)/\rm tt fn.results st'=some r):dz P f args r:=by
 refine⟨fM,fun F hg w xs hF hx=>Il (n:=0) (callsIn_of_wp_marks hf hb trivial ?_)⟩;have hs:dt ⟨F,fun _ _=>none,hg⟩ w { tmps:=xs++Array.replicate (fn.ntmps-xs.size) undef,defers:=[] } (dj fn args []):=by refine⟨hF,(fun k v g e c h=>by cases h),(fun k B h=>by simp [dj] at h),(fun k _ v=>rfl),(fun k B h=>by simp [dj] at h),(fun k k' v v' g e c e' c' h=>by cases h),zL fn hx⟩
 refine wpIn_mono (h _ w (fun k _ v=>rfl) _ w _ (iF.refl _ w) hs (.nil _ _ _)) ?_;rintro e a' w' ⟨E',st',h1,h2,⟨rs,hd,o7,ym⟩,he,hr⟩
 have post:LeavesInM (WF none) 0 P fn a'.tmps (fun e w'=>∃ F' x,e = .returned x/\(∀ ad y,F ad=some y->F' ad=some y)/\(∀ ad y,F' ad=some y->w'.cell? ad=some y)/\(∀ ad y,F' ad=some y->F ad=some y\/w.heap.size<=ad.block) /\
   (∃ Ib,df ⟨F',fun _ _=>none,Ib⟩ r x)/\Below w.heap.size w w') a'.defers .returning w':=by
  rw [hd]
  refine rq rs w' o7 (fun r hr=>(ym r hr).2.1) fun w2 k1 k2 k3 k4 k5=>?_
  have sn:=h1.RL (fun r hr=>(ym r hr).2) k4 k5
  obtain⟨keys,x,h3,h4⟩:=K6 ht sn hr
  have hold:∀ r∈rs,w.heap.size<=r:=fun r hr=>(ym r hr).1
  refine⟨x,h3,(E'.qW w2 keys).F,x,rfl,fun ad y hy=>(Env.yy E' w2 keys).F _ _ (h2.le.F _ _ hy),fun ad y hy=>Env.M8 sn.F hy,fun ad y hy=>?_,⟨_,h4⟩,⟨k1.trans h2.os,k2.trans h2.tape,k3.trans h2.output,by rw [k4];exact h2.size,fun b hb=>(k5 b fun pY=>by have:=hold b pY;omega).trans (h2.heap b hb (by simp))⟩⟩
  rcases Env.FY hy with h|⟨k,-,e,c,h⟩
  ·rcases h2.F _ _ h with h|h|⟨k0,v0,e0,c0,h⟩
   ·exact .inl h
   ·exact .inr h
   cases h
  rcases h2.cE _ _ _ _ _ h with ⟨k0,v0,e0,c0,h⟩|h
  ·cases h
  exact .inr h
 rcases he with rfl|rfl <;> exact post
end Go.Eng
end
section
namespace Go.Eng
variable [bJ]
def uk:List (Nat×Ti)->Table
 | [],_=>none
 | (k,i) :: r,t=>if t=k then some i else uk r t
def F5:Value->Value->Bool
 | .bool a,.bool b=>a==b
 | .int k n,.int k' n'=>k==k'&&n==n'
 | .string a,.string b=>a.data==b.data
 | .pointer none,.pointer none=>true
 | .slice none a b,.slice none c d=>a==c&&b==d
 | .map none,.map none=>true
 | .nilFunc,.nilFunc=>true
 | .nilIface,.nilIface=>true
 | _,_=>false
def pJ:List Value->List Value->Bool
 | [],[]=>true
 | a :: r,b :: s=>F5 a b&&pJ r s
 | _,_=>false
theorem En {a b:Value} (h:F5 a b=true):a=b:=by
 unfold F5 at h;split at h;·simp at h;rw [h]
 ·simp at h;rw [h.1,h.2]
 ·rename_i a b;(have:a.data=b.data:=by simpa using h);congr 1;cases a;cases b;simp_all
 ·rfl
 ·simp at h;rw [h.1,h.2]
 ·rfl
 ·rfl
 ·rfl
 cases h
theorem ru:∀ {a b:List Value},pJ a b=true->a=b
 | [],[],_=>rfl
 | x :: r,y :: s,h=>by
  simp only [pJ,aG] at h
  rw [En h.1,ru h.2]
 | [],_ :: _,h=>by simp [pJ] at h
 | _ :: _,[],h=>by simp [pJ] at h
def yA (P:g7):List Field->List (Nat×Nat)->Bool
 | [],[]=>true
 | f :: r,p :: s=>f.offset==p.1&&p.2 != 0&&(match P.info? f.type with|some i=>i.size==p.2|none=>false)&&yA P r s
 | _,_=>false
def Ww (P:g7) (t:g9) (i:Ti):Bool :=
 match P.info? t with
 | none=>false
 | some info=>info.size==i.size&&info.bytes==i.bytes&&(match info.zero with|some z=>pJ z.cells.toList i.zero|none=>false) &&
  match P.underlying t with
  | none=>false
  | some d=>(i.agg==(match d with|.struct _=>true|.array _ _=>true|_=>false)) &&
   (match i.elem with|none=>true|some e=>(match d with|.slice e'=>e'==e|_=>false)) &&
   (match i.bT with|[]=>true|fl=>(match d with|.struct fs=>yA P fs.toList fl|_=>false)) &&
   (vF i.zero==false||i.agg||(match d with|.string=>true|_=>false))
def Nb (P:g7):List (Nat×Ti)->Bool
 | []=>true
 | (t,i) :: r=>Ww P t i&&Nb P r
theorem BF {P:g7}:∀ {fs:List Field} {fl:List (Nat×Nat)},yA P fs fl=true->fs.length=fl.length/\∀ (k off sz:Nat),fl[k]?=some (off,sz)->∃ f inf,fs[k]?=some f/\f.offset=off/\P.info? f.type=some inf/\inf.size=sz/\sz≠0
 | [],[],_=>⟨rfl,fun k off sz h=>by simp at h⟩
 | f :: r,p :: s,h=>by
  simp only [yA,aG,beq_iff_eq,bne_iff_ne] at h
  obtain⟨⟨⟨h1,h2⟩,h3⟩,h4⟩:=h
  obtain⟨h5,h6⟩:=BF h4
  refine⟨by simp [h5],fun k off sz hk=>?_⟩
  cases k with
  | zero =>
   simp only [aI,aD] at hk;subst hk
   split at h3
   ·rename_i inf hi
    exact⟨f,inf,rfl,h1,hi,by simpa using h3,h2⟩
   cases h3
  | succ k=>exact h6 k off sz (by simpa using hk)
 | [],_ :: _,h=>by simp [yA] at h
 | _ :: _,[],h=>by simp [yA] at h
theorem F6 {P:g7} {t:g9} {i:Ti} (h:Ww P t i=true) :
  (∃ info,P.info? t=some info/\info.size=i.size/\info.bytes=i.bytes/\∃ z,info.zero=some z/\z.cells.toList=i.zero) /\
  (∃ d,P.underlying t=some d/\(i.agg=true↔((∃ fs,d = .struct fs)\/∃ n e,d = .array n e))/\(∀ e,i.elem=some e->d = .slice e) /\
   (∀ (f off sz:Nat),i.bT[f]?=some (off,sz)->∃ fs fd inf,d = .struct fs/\fs.size=i.bT.length/\fs[f]?=some fd/\fd.offset=off/\P.info? fd.type=some inf/\inf.size=sz/\sz≠0))/\(vF i.zero=true->i.agg=false->P.underlying t=some .string):=by
 unfold Ww at h;split at h;·cases h
 rename_i info afY;simp only [aG,beq_iff_eq] at h;obtain⟨⟨⟨h1,h2⟩,h3⟩,h4⟩:=h;split at h3;·rename_i z hz;refine⟨⟨info,afY,h1,h2,z,hz,ru h3⟩,?_⟩;have h4c:=h4;split at h4;(·cases h4);rename_i d hd;simp only [aG,beq_iff_eq] at h4;obtain⟨⟨⟨h5,h6⟩,h7⟩,h8⟩:=h4;clear h4c;(have alx:vF i.zero=true->i.agg=false->P.underlying t=some .string:=fun hz ha=>by rw [hz,ha] at h8;rw [hd];cases d <;> first|rfl|(simp at h8));refine⟨⟨d,hd,?_,?_,?_⟩,alx⟩;(·rw [h5];cases d <;> simp);(·intro e he;rw [he] at h6;dsimp only at h6;split at h6;(·simp at h6;rw [h6]);cases h6);intro f off sz hf;split at h7;(·rename_i nX;rw [nX] at hf;simp at hf);split at h7;(·rename_i fs;obtain⟨h8,h9⟩:=BF h7;obtain⟨fd,inf,sZ,VZ⟩:=h9 f off sz hf;exact⟨fs,fd,inf,rfl,by simpa using h8,by simpa using sZ,VZ⟩);cases h7
 cases h3
theorem um {P:g7}:∀ {l:List (Nat×Ti)},Nb P l=true->∀ t i,uk l t=some i->Ww P t i=true
 | [],_,t,i,h=>by simp [uk] at h
 | (k,j) :: r,h,t,i,ht=>by
  simp only [Nb,aG] at h
  simp only [uk] at ht
  split at ht
  ·rename_i hk;subst hk;cases ht;exact h.1
  exact um h.2 t i ht
theorem tt_of {P:g7} {l:List (Nat×Ti)} (h:Nb P l=true):TT P (uk l) :=
 ⟨fun t i ht=>(F6 (um h t i ht)).1,fun t i ht=>(F6 (um h t i ht)).2.1,fun t i ht=>(F6 (um h t i ht)).2.2⟩
end Go.Eng
end
section
namespace Go.Eng
variable [bJ]
section
variable {P:g7} {tt:Table} {ρ:Option Nat} {n0:Nat} {st:St} {Q:Exit->St->Prop}
theorem s5 (ht:TT P tt) {id:Nat} {ops:Array Oper} {y:Code} (h:∀ K:St->Prop,(∀ st',fc P ρ n0 y st' Q->K st')->eV P tt ops ops.toList st K):fc P ρ n0 (.seq (.region id ops false) y) st Q :=
 bS (mV ht (h (fun st'=>fc P ρ n0 y st' Q) fun _ h=>h))
theorem r6 (ht:TT P tt) {id:Nat} {ops:Array Oper} (h:∀ K:St->Prop,(∀ st',Q .normal st'->K st')->eV P tt ops ops.toList st K):fc P ρ n0 (.region id ops false) st Q :=
 mV ht (h (Q .normal) fun _ h=>h)
def cp:List Bool->List V->List V
 | _,[]=>[]
 | [],_ :: r=>.undef :: cp [] r
 | b :: m,v :: r=>(if b=true then v else .undef) :: cp m r
theorem vN {E:Env}:∀ (m:List Bool) {vs:List V} {xs:List Value},dh E vs xs->dh E (cp m vs) xs
 | m,[],xs,h=>by rw [h.of_nil];cases m <;> exact .nil _
 | [],v :: r,xs,h=>by
  obtain⟨x,ys,rfl,h1,h2⟩:=h.of_cons
  exact .cons (.undef _ _) (vN [] h2)
 | b :: m,v :: r,xs,h=>by
  obtain⟨x,ys,rfl,h1,h2⟩:=h.of_cons
  refine .cons ?_ (vN m h2)
  cases b
  ·exact .undef _ _
  exact h1
theorem dt.mask {E:Env} {w:World} {a:Act} {st:St} (hs:dt E w a st) (m:List Bool):dt E w a { st with fr:=cp m st.fr } :=
 ⟨hs.F,hs.lt,hs.mem,hs.top,hs.ej,hs.apart,vN m hs.fr⟩
theorem qC {c:Code} (n:Nat) (m:List Bool) (hn:n0<=n) (hf:(cp m st.fr).all (aQ n)=true) (hm:(st.mem.take n).all (a6 n)=true)
  (h:fc P ρ n0 c { fr:=cp m st.fr,mem:=st.mem.take n } Q):fc P ρ n0 c st Q :=
 sY (st' := { st with fr:=cp m st.fr }) (fun E w a hs=>hs.mask m) (BE n [] hn hf hm h)
def Ip (n0:Nat) (st:St) (I:St->Prop):Prop :=
 ∃ (n:Nat) (m:List Bool),n0<=n/\(cp m st.fr).all (aQ n)=true/\(st.mem.take n).all (a6 n)=true/\I { fr:=cp m st.fr,mem:=st.mem.take n }
theorem vO {c:Code}:∀ {n n':Nat} {st:St},n<=n'->mv P ρ n0 c n st Q->mv P ρ n0 c n' st Q
 | 0,_,_,_,h=>h.elim
 | n+1,0,_,hn,_=>by omega
 | n+1,n'+1,st,hn,h=>fc.mono h fun e st' hq=>by
  cases e with
  | normal=>exact vO (by omega) hq
  | _=>exact hq
theorem dY {c:Code} (I:Nat->St->Prop) (N:Nat) (h0:Ip n0 st (I N))
  (step:∀ n st,I n st->fc P ρ n0 c st (iQ (fun st'=>∃ k,k<n/\Ip n0 st' (I k)) Q)):fc P ρ n0 (.loop c) st Q:=by
 have key:∀ (n:Nat) (st:St),I n st->mv P ρ n0 c (n+1) st Q:=by intro n;induction n using Nat.strongRecOn with|_ n ih =>intro st hi;refine fc.mono (step n st hi) fun e st' hq=>?_;cases e with|normal =>(obtain⟨k,hk,n1,m,h1,h2,h3,h4⟩:=hq;have:=ih k hk _ h4;have:mv P ρ n0 c n { fr:=cp m st'.fr,mem:=st'.mem.take n1 } Q:=vO (by omega) this;cases n with|zero=>omega|succ n=>exact qC n1 m h1 h2 h3 this)|_=>exact hq
 obtain⟨n1,m,h1,h2,h3,h4⟩:=h0;exact qC n1 m h1 h2 h3 (sX (N+1) (key N _ h4))
theorem Iq {c:Code} (h:∃ n,mv P ρ n0 c n st Q):fc P ρ n0 (.loop c) st Q:=let ⟨n,hn⟩:=h;sX n hn
end
theorem pK {α β:Type} (P:g7) (s:Sem α) (f:α->Sem β):dL P (s >>= f)=(dL P s).bind fun a=>dL P (f a):=by show dL P (s.bind f)=_;induction s with|pure a=>rfl|program k ih=>exact ih P|mark m k ih=>exact ih|_=>rfl
theorem wT {P:g7} {T:g9} {d:TypeDesc} (h:P.underlying T=some d):dL P (underlying T)=some d:=by simp [underlying,pK,program,dL,h,pure]
theorem zM {P:g7} {T:g9} (hT:P.underlying T=some .bool) (p q:Bool):dL P (Op.equal T (.bool p) (.bool q))=some (p==q):=by show dL P (Op.equalIn (9999+1) T (.bool p) (.bool q))=_;rw [Op.equalIn,pK,wT hT];rfl
section ints
variable (P:g7) (T:g9) (x y:Operand) (k:IntKind) (a b:Int)
theorem abt:dy P (oy .add T x y) (.sc (.int k a)) (.sc (.int k b))=some (.sc (.int k (k.wrap (a+b)))):=by simp [dy,fq,oy,binOp,Op.intArith,eqGuard,dL,j6,bind,pure,Sem.bind]
theorem abu:dy P (oy .sub T x y) (.sc (.int k a)) (.sc (.int k b))=some (.sc (.int k (k.wrap (a-b)))):=by simp [dy,fq,oy,binOp,Op.intArith,eqGuard,dL,j6,bind,pure,Sem.bind]
theorem abv:dy P (oy .mul T x y) (.sc (.int k a)) (.sc (.int k b))=some (.sc (.int k (k.wrap (a*b)))):=by simp [dy,fq,oy,binOp,Op.intArith,eqGuard,dL,j6,bind,pure,Sem.bind]
theorem abw:dy P (oy .lss T x y) (.sc (.int k a)) (.sc (.int k b))=some (.sc (.bool (decide (a<b)))):=by simp [dy,fq,oy,binOp,Op.intCmp,eqGuard,dL,j6,bind,pure,Sem.bind]
theorem abx:dy P (oy .leq T x y) (.sc (.int k a)) (.sc (.int k b))=some (.sc (.bool (decide (a<=b)))):=by simp [dy,fq,oy,binOp,Op.intCmp,eqGuard,dL,j6,bind,pure,Sem.bind]
theorem aby:dy P (oy .gtr T x y) (.sc (.int k a)) (.sc (.int k b))=some (.sc (.bool (decide (b<a)))):=by simp [dy,fq,oy,binOp,Op.intCmp,eqGuard,dL,j6,bind,pure,Sem.bind]
theorem abz:dy P (oy .geq T x y) (.sc (.int k a)) (.sc (.int k b))=some (.sc (.bool (decide (b<=a)))):=by simp [dy,fq,oy,binOp,Op.intCmp,eqGuard,dL,j6,bind,pure,Sem.bind]
theorem abA:dy P (oy .eql T x y) (.sc (.int k a)) (.sc (.int k b))=some (.sc (.bool (decide (a=b)))):=by simp [dy,fq,oy,binOp,Op.intCmp,eqGuard,dL,j6,bind,pure,Sem.bind];rfl
theorem abB:dy P (oy .neq T x y) (.sc (.int k a)) (.sc (.int k b))=some (.sc (.bool (!decide (a=b)))):=by simp [dy,fq,oy,binOp,Op.intCmp,eqGuard,dL,j6,bind,pure,Sem.bind];rfl
theorem abC (ts:Array g9) (ty:g9):u3 P (Builtin.max_ ts ty) [.sc (.int k a),.sc (.int k b)]=some (.sc (.int k (if a<b then b else a))):=by simp [u3,qa,fq,Builtin.max_,Builtin.max2,dL,j6,bind,pure,Sem.bind]
theorem abD (t:Bool):qt P (Op.unary .not) (.sc (.bool t))=some (.sc (.bool (!t))):=by simp [qt,fq,Op.unary,dL,j6,pure]
theorem abE:qt P (Op.unary .neg) (.sc (.int k a))=some (.sc (.int k (k.wrap (0-a)))):=by simp [qt,fq,Op.unary,Op.intArith,dL,j6,pure]
end ints
section strings
variable (P:g7) (T:g9) (x y:Operand) (a b:g6)
theorem Wx:dy P (oy .eql T x y) (.sc (.string a)) (.sc (.string b))=some (.sc (.bool (a.toList==b.toList))):=by simp [dy,fq,oy,binOp,Op.stringOp,eqGuard,dL,j6,bind,pure,Sem.bind]
theorem Wy:dy P (oy .neq T x y) (.sc (.string a)) (.sc (.string b))=some (.sc (.bool (!(a.toList==b.toList)))):=by simp [dy,fq,oy,binOp,Op.stringOp,eqGuard,dL,j6,bind,pure,Sem.bind]
theorem wU (h:((a.size+b.size:Nat):Int)<=IntKind.i64.max):dy P (oy .add T x y) (.sc (.string a)) (.sc (.string b))=some (.sc (.string (a++b))):=by
 have h':¬ ((a.size+b.size:Nat):Int)>IntKind.i64.max:=by omega
 simp only [dy,fq,oy,binOp,Op.stringOp,g5 h'];simp [eqGuard,dL,j6,bind,pure,Sem.bind]
theorem eM {P:g7} {T:g9} (hT:P.underlying T=some .string) (k:IntKind) (n:Int) (h0:0<=n) {c:UInt8} (hc:a[n.toNat]?=some c):dy P (Instr.index T) (.sc (.string a)) (.sc (.int k n))=some (.sc (.int .u8 c.toNat)):=by simp [dy,fq,Instr.index,asIntOf,underlying,hT,h0,hc,dL,j6,bind,pure,Sem.bind,program]
theorem Wz {P:g7} {tt:Table} {T:g9} (hT:P.underlying T=some .string) (ty:g9):FD P tt #[T] ty [.sc (.string a)]=some (.sc (.int .i64 a.size)):=by simp [FD,u3,qa,fq,Builtin.len_,underlying,hT,dL,j6,bind,pure,Sem.bind,program,goInt]
theorem K7 {P:g7} {tt:Table} {mem:List bx} {T:g9} (hT:P.underlying T=some .string) (k:IntKind) (n:Int) (h0:0<=n) (hn:n<=a.size) :
  Fy P tt mem T (.sc (.string a)) (some (.sc (.int k n))) none=some (.sc (.string (a.extract n.toNat a.size))):=by simp [Fy,dy,fq,Instr.sliceAt,Instr.slice,Instr.sliceBounds,Instr.sliceBound,asIntOf,underlying,hT,h0,hn,dL,j6,bind,pure,Sem.bind,program]
theorem WA {P:g7} {T:g9} (hT:P.underlying T=some .bool) (p q:Bool):dy P (oy .eql T x y) (.sc (.bool p)) (.sc (.bool q))=some (.sc (.bool (p==q))):=by
 have:dL P (do eqGuard .eql T x y (.bool p) (.bool q);binOp .eql T (.bool p) (.bool q))=some (.bool (p==q)):=by show dL P ((Op.equal T (.bool p) (.bool q)) >>= fun r=>Pure.pure (Value.bool r))=_;rw [pK,zM hT];rfl
 simp only [dy,fq,oy,this];rfl
theorem F7 {P:g7} {T:g9} (hT:P.underlying T=some .bool) (p q:Bool):dy P (oy .neq T x y) (.sc (.bool p)) (.sc (.bool q))=some (.sc (.bool (!(p==q)))):=by
 have:dL P (do eqGuard .neq T x y (.bool p) (.bool q);binOp .neq T (.bool p) (.bool q))=some (.bool (!(p==q))):=by show dL P ((Op.equal T (.bool p) (.bool q)) >>= fun r=>Pure.pure (Value.bool !r))=_;rw [pK,zM hT];rfl
 simp only [dy,fq,oy,this];rfl
theorem Nc {P:g7} {src dst:g9} {d:TypeDesc} {k':IntKind} (hs:P.underlying src=some d) (hd:P.underlying dst=some (.int k')) (k:IntKind) (n:Int):qt P (convert src dst) (.sc (.int k n))=some (.sc (.int k' (k'.wrap n))):=by simp [qt,fq,convert,underlying,hs,hd,Conv.intToInt,dL,j6,bind,pure,Sem.bind,program]
end strings
end Go.Eng
end
section
namespace Go.Eng
variable [bJ]
open Go.RowKit (Below)
theorem iF.cut {E E':Env} {w w':World} (h:iF E w E' w') {n:Nat} (hn:∀ k,n<=k->∀ v,E.cE k v=none):iF E w (E'.cut n) w':=by
 refine⟨⟨h.le.F,fun k v t hk=>?_⟩,fun k v g e c hk=>?_,h.F,h.os,h.tape,h.output,h.size,h.heap⟩;·(have:k<n:=by (rcases bn k n with bH|fP);(·exact bH);rw [hn k fP v] at hk;cases hk);exact (gH this).trans (h.le.cE _ _ _ hk)
 have:E'.cE k v=some (g,e,c):=by by_cases fe:k<n;(·exact ((gH fe).symm.trans hk:E'.cE k v=_));have h2:(E'.cut n).cE k v=none:=g5 fe;rw [h2] at hk;cases hk
 exact h.cE _ _ _ _ _ this
def qh (tt:Table) (rs:Array ResultVar) (st:St):Option V :=
 match so tt st rs.toList with
 | some [v]=>some v
 | some vs=>some (.fZ vs)
 | none=>none
theorem F8 {P:g7} {tt:Table} (ht:TT P tt) {E:Env} {w:World} {a:Act} {st:St} (hs:dt E w a st) {fn:Func} {r:V} (h:qh tt fn.results st=some r):∃ x,(results fn a.tmps).run P w = .ok x w/\df E r x:=by
 unfold qh at h
 have run:∀ xs:List Value,(fn.results.toList.mapM (fun|.tmp t=>pure (a.tmps.getD t undef)|.cell p t=>do loadVar t (<- asAddr (a.tmps.getD p undef))):Sem (List Value)).run P w = .ok xs w ->
   (results fn a.tmps).run P w = .ok (if h:xs.toArray.size=1 then xs.toArray[0] else .tuple xs.toArray) w:=fun xs hx=>by
  unfold results
  rw [awl]
  simp only [Sem.run_bind,Sem.run_map]
  erw [hx]
  rfl
 split at h;·rename_i v hv;simp only [aD] at h;subst h;obtain⟨xs,h1,h2⟩:=oM ht hs _ _ hv;obtain⟨x,ys,rfl,h3,h4⟩:=h2.of_cons;have:=h4.of_nil;subst this;exact⟨x,run _ h1,h3⟩
 ·rename_i vs dI hv;simp only [aD] at h;subst h;obtain⟨xs,h1,h2⟩:=oM ht hs _ _ hv;(have hl:xs.toArray.size≠1:=by have:=h2.1;intro he;match vs,xs,this,he with|[v],_,_,_=>exact dI v rfl|[],[],_,he=>simp at he|[],_ :: _,h,_=>simp at h|_ :: _ :: _,[],h,_=>simp at h|_ :: _ :: _,_ :: [],h,_=>simp at h|_ :: _ :: _,_ :: _ :: _,_,he=>simp at he);have h3:=run _ h1;rw [dif_neg hl] at h3;exact⟨_,h3,.fZ _ _ _ (by simpa using h2.1) fun i c x hc hx=>h2.2 i c x hc (by simpa using hx)⟩
 cases h
theorem RM {P:g7} {tt:Table} (ht:TT P tt) {f:FuncId} {fn:Func} {body:Code} {args:List V} {mem:List bx} {R:V->List bx->Prop} (hf:P.funcs[f]?=some fn) (hb:fn.body=some body)
  (fM:∀ (xs:Array Value) (w:World),(callFunc f xs).run P w = .ok (.enter f xs) w)
  (h:fc P none mem.length body (dj fn args mem) fun ex st'=>(ex = .ret\/ex = .normal)/\∃ r n,mem.length<=n/\qh tt fn.results st'=some r/\aQ n r=true/\(st'.mem.take n).all (a6 n)=true/\R r (st'.mem.take n)):jY P f args mem R:=by
 refine⟨fM,fun E w xs K8 hx=>Il (n:=0) (callsIn_of_wp_marks hf hb trivial ?_)⟩;have hs:dt E w { tmps:=xs++Array.replicate (fn.ntmps-xs.size) undef,defers:=[] } (dj fn args mem):=⟨K8.F,K8.lt,K8.mem,K8.top,K8.ej,K8.apart,zL fn hx⟩;refine wpIn_mono (h E w K8.top E w _ (iF.refl _ w) hs (.nil _ _ _)) ?_;rintro e a' w' ⟨E',st',h1,h2,⟨rs,hd,o7,ym⟩,he,r,n,hn,hr,hbr,VW,hR⟩;have post:LeavesInM (WF none) 0 P fn a'.tmps (fun e w'=>∃ E' x r b7,e = .returned x/\R r b7/\iF E w E' w'/\dt E' w' { tmps := #[],defers:=[] } { fr:=[],mem:=b7 }/\df E' r x) a'.defers .returning w':=by rw [hd];refine rq rs w' o7 (fun r hr=>(ym r hr).2.1) fun w2 k1 k2 k3 k4 k5=>?_;have sn:=h1.RL (fun r hr=>(ym r hr).2) k4 k5;obtain⟨x,h3,h4⟩:=F8 ht sn hr;have gM:iF E w E' w2:=⟨h2.le,h2.cE,h2.F,k1.trans h2.os,k2.trans h2.tape,k3.trans h2.output,by rw [k4];exact h2.size,fun b hb dI=>(k5 b fun pY=>by have:=(ym b pY).1;omega).trans (h2.heap b hb dI)⟩;exact⟨x,h3,E'.cut n,x,r,_,rfl,hR,gM.cut fun k hk v=>K8.top k (by dsimp only;omega) v,sn.bare.cut (by rfl) VW,jc h4 hbr⟩
 rcases he with rfl|rfl <;> exact post
theorem oO {P:g7} {tt:Table} (ht:TT P tt) {f:FuncId} {fn:Func} {body:Code} {args:List V} {mem:List bx} {r:V} {b7:List bx} (n:Nat) (hn:mem.length<=n) (hf:P.funcs[f]?=some fn) (hb:fn.body=some body)
  (fM:∀ (xs:Array Value) (w:World),(callFunc f xs).run P w = .ok (.enter f xs) w)
  (h:fc P none mem.length body (dj fn args mem) fun ex st'=>(ex = .ret\/ex = .normal)/\qh tt fn.results st'=some r/\aQ n r=true/\(st'.mem.take n).all (a6 n)=true/\b7=st'.mem.take n):bK P f args mem r b7 :=
 (RM ht hf hb fM (R:=fun r' m'=>r'=r/\m'=b7) (h.mono fun ex st' ⟨h1,h2,h3,h4,h5⟩=>⟨h1,r,n,hn,h2,h3,h4,rfl,h5.symm⟩)).det
def pL:List Tmp->List V->List V->List V
 | t :: ts,v :: vs,fr=>pL ts vs (fr.set t v)
 | _,_,fr=>fr
theorem Eo {E:Env}:∀ (ts:List Tmp) {vs:List V} {xs:List Value} {fr:List V} {tmps:Array Value},dh E vs xs->dh E fr tmps.toList->dh E (pL ts vs fr) ((ts.zip xs).foldl (fun (tmps:Array Value) (p:Tmp×Value)=>tmps.setIfInBounds p.1 p.2) tmps).toList
 | [],vs,xs,fr,tmps,_,h=>by cases vs <;> exact h
 | t :: ts,[],xs,fr,tmps,hv,h=>by rw [hv.of_nil];exact h
 | t :: ts,v :: vs,xs,fr,tmps,hv,h=>by
  obtain⟨x,ys,rfl,h1,h2⟩:=hv.of_cons
  simp only [pL,List.zip_cons_cons,kZ]
  exact Eo ts h2 (by simpa using h.set t h1)
def s6:Exit->Option (Option Code)
 | .normal=>some none
 | .ret=>some (some .ret)
 | .exit id=>some (some (.exit id))
 | .goto l=>some (some (.goto l))
 | _=>none
theorem wV {P:g7} {k:Nat} {fr vs:List V} {params:Array Tmp} {assign body:Code} {mem:List bx} {R:Bool->List bx->Prop} (hk:mem[k]?=some (.loop .ready none fr params assign body)) (hlen:vs.length=params.size)
  (h:∀ l,fc P (some l) mem.length assign { fr:=pL params.toList vs fr,mem:=mem } fun ex uR=>ex = .normal/\∃ YX p1 WB WC,uR.mem[k]?=some (.loop .ready none YX p1 WB WC) /\
   fc P (some l) mem.length body { uR with mem:=uR.mem.set k (.loop .busy none YX p1 WB WC) } fun ex AO=>∃ n jump s2 pe2 WD p2 RO RP,mem.length<=n/\s6 ex=some jump/\AO.mem[k]?=some (.loop s2 pe2 WD p2 RO RP) /\
    ((AO.mem.set k (.loop (if jump.isNone then .ready else .done) jump WD p2 RO RP)).take n).all (a6 n)=true /\
    R jump.isNone ((AO.mem.set k (.loop (if jump.isNone then .ready else .done) jump WD p2 RO RP)).take n)) :
  Pe P k vs mem R:=by
 intro E w xs l e c hs hx hb;obtain⟨l',fn,tmps,db,gY,hh,hr,hf⟩:=hs.mem k _ hk;rw [hb] at gY;cases gY;have lz:∀ {W:World} {R:Loop},W.heap[l]?=some (.loop R)->(Instr.getLoop l).run P W = .ok R W:=fun {W R} hW=>by simp [Instr.getLoop,getObj,Sem.run,hW,bind,Sem.bind,pure]
 have Io:∀ {W:World} {R:Loop} {o:Obj},W.heap[l]?=some (.loop R)->(setObj l o).run P W = .ok () { W with heap:=W.heap.setIfInBounds l o }:=fun {W R o} hW=>by simp [setObj,Sem.run,hW]
 have H5:xs.size=params.size:=by have:=hx.1;simp at this;omega
 refine⟨fn,(params.zip xs).foldl (fun tmps (p:Tmp×Value)=>tmps.setIfInBounds p.1 p.2) tmps,assign,body,?_,?_⟩;·simp only [Instr.yield,Sem.run_bind,lz hh,Result.andThen_ok,H5,ne_eq,not_true_eq_false,if_false];rfl
 refine roundIn_of_wpIn trivial ?_;have rb:dt E w { tmps:=(params.zip xs).foldl (fun tmps (p:Tmp×Value)=>tmps.setIfInBounds p.1 p.2) tmps,defers:=[] } { fr:=pL params.toList vs fr,mem:=mem }:=by refine⟨hs.F,hs.lt,hs.mem,hs.top,hs.ej,hs.apart,?_⟩;have:=Eo (E:=E) params.toList hx hr;rw [<- awa,Array.toList_zip];exact this
 refine wpIn_mono (h l E w hs.top E w _ (iF.refl E w) rb (.nil _ _ _)) ?_;rintro ex a1 w1 ⟨E1,uR,h1,h2,hm1,rfl,YX,p1,WB,WC,gW,h3⟩;obtain⟨l1,fn1,YY,db1,j8,OY,DJ,BC⟩:=h1.mem k _ gW;have ec:E1.cE k 0=some (l,0,0):=h2.le.cE _ _ _ hb;rw [ec] at j8;cases j8;have only:∀ (W:World) (o:Obj),pF W { W with heap:=W.heap.setIfInBounds l o } l:=fun W o=>⟨rfl,rfl,rfl,by simp,fun b hb=>Ft (fun e=>hb e.symm)⟩;have bH:∀ {W:World} {o:Obj},W.heap[l]?=some o->l<W.heap.size:=fun {W o} hW=>(dT.1 hW).1;have t1:=h1.Bl gW rfl (B':=.loop .busy none YX p1 WB WC) rfl ec BC (only w1 (.loop { state:=.busy,pending:=none,fn:=fn1,tmps:=YY,params:=p1,assign:=WB,body:=WC,defers:=db1 })) ⟨l,fn1,YY,db1,ec,by simp [bH OY],DJ,BC⟩;refine⟨_,by simp [Instr.beginRound,lz OY,Io OY];rfl,?_⟩;refine wpIn_mono (h3 E w hs.top E1 _ a1 (h2.trans t1.2) t1.1 ?_) ?_;·exact hm1.Q6 t1.2
 rintro ex a2 w2 ⟨E2,AO,h4,h5,-,n,jump,s2,pe2,WD,p2,RO,RP,RJ,hj,kh,VW,hR⟩;obtain⟨l2,fn2,RQ,db2,nD,KG,H7,Dv⟩:=h4.mem k _ kh;have Pg:E2.cE k 0=some (l,0,0):=h5.le.cE _ _ _ hb;rw [Pg] at nD;cases nD;have t2:=h4.Bl kh rfl (B':=.loop (if jump.isNone then .ready else .done) jump WD p2 RO RP) rfl Pg Dv (only w2 (.loop { state:=if jump.isNone then .ready else .done,pending:=jump,fn:=fn2,tmps:=RQ,params:=p2,assign:=RO,body:=RP,defers:=db2 })) ⟨l,fn2,RQ,db2,Pg,by simp [bH KG],H7,Dv⟩;have run:(Instr.endRound l jump).run P w2 = .ok (.bool jump.isNone) { w2 with heap:=w2.heap.setIfInBounds l (.loop { state:=if jump.isNone then .ready else .done,pending:=jump,fn:=fn2,tmps:=RQ,params:=p2,assign:=RO,body:=RP,defers:=db2 }) }:=by simp [Instr.endRound,lz KG,Io KG]
 have fin:∃ v w',(Instr.endRound l jump).run P w2 = .ok v w'/\∃ E' b b7,Ending.returned v = .returned (.bool b)/\R b b7/\iF E w E' w'/\dt E' w' { tmps := #[],defers:=[] } { fr:=[],mem:=b7 } := ⟨_,_,run,E2.cut n,_,_,rfl,hR,(h5.trans t2.2).cut (fun k hk v=>hs.top k (gw RJ hk) v),t2.1.bare.cut (by rfl) VW⟩;cases ex <;> simp only [s6,aD,reduceCtorEq] at hj <;> subst hj <;> exact fin
theorem s7 {P:g7} {k:Nat} {fr vs:List V} {params:Array Tmp} {assign body:Code} {mem b7:List bx} {b:Bool} (hk:mem[k]?=some (.loop .ready none fr params assign body)) (hlen:vs.length=params.size)
  (h:∀ l,fc P (some l) mem.length assign { fr:=pL params.toList vs fr,mem:=mem } fun ex uR=>ex = .normal/\uR.mem[k]?=some (.loop .ready none fr params assign body) /\
   fc P (some l) mem.length body { uR with mem:=uR.mem.set k (.loop .busy none fr params assign body) } fun ex AO=>∃ jump,s6 ex=some jump/\b=jump.isNone/\AO.mem[k]?=some (.loop .busy none fr params assign body) /\
    ((AO.mem.set k (.loop (if jump.isNone then .ready else .done) jump fr params assign body)).take mem.length).all (a6 mem.length)=true /\
    b7=(AO.mem.set k (.loop (if jump.isNone then .ready else .done) jump fr params assign body)).take mem.length) :
  KJ P k vs mem b b7 :=
 (wV hk hlen (R:=fun b' m'=>b'=b/\m'=b7) fun l=>(h l).mono fun ex uR ⟨h1,h2,h3⟩=>⟨h1,_,_,_,_,h2,h3.mono fun ex AO ⟨j,h4,h5,h6,h7,h8⟩=>⟨_,j,_,_,_,_,_,_,aA _,h4,h6,h7,h5.symm,h8.symm⟩⟩).det
theorem s8 {P:g7} {n0:Nat} {st:St} {Q:Exit->St->Prop} {f:Operand} {params:Array Tmp} {assign body:Code} {g:FuncId} {vs:List V} {R:V->List bx->Prop} (hc:du (st.eval f) [.kx st.mem.length]=some (g,vs))
  (V0:jY P g vs (st.mem++[.loop .ready none st.fr params assign body]) R)
  (hq:∀ r Ap,R r Ap->∃ s oe fr' V1 V2 V3,Ap[st.mem.length]?=some (.loop s oe fr' V1 V2 V3)/\s ≠ .busy/\(match oe with|none=>Q .normal { st with mem:=Ap.set st.mem.length .dead }|some c=>fc P none n0 c { st with mem:=Ap.set st.mem.length .dead } Q)) :
  fc P none n0 (.rangeFunc f params assign body) st Q:=fun E0 w0 h0 E w a he hs qg=>by
 refine wpIn_rangeFunc fun fn _=>?_
 let w1:World:=w.alloc (.deferred (some []))
 let L:Loop := { state:=.ready,pending:=none,fn:=fn,tmps:=a.tmps,params:=params,assign:=assign,body:=body,defers:=w.heap.size }
 let w2:World:=w1.alloc (.loop L)
 have fe:∀ v,E.cE st.mem.length v=none:=hs.top _ (aA _)
 have hle:E.le (E.with st.mem.length 0 (w.heap.size+1,0,0)):=Env.nn (fe 0) _
 have fK:(E.with st.mem.length 0 (w.heap.size+1,0,0)).cE st.mem.length 0=some (w.heap.size+1,0,0):=gH ⟨rfl,rfl⟩
 have ix:∀ k v,¬ (k=st.mem.length/\v=0)->(E.with st.mem.length 0 (w.heap.size+1,0,0)).cE k v=E.cE k v:=fun k v h=>g5 h
 have hold:∀ b,b<w.heap.size->w2.heap[b]?=w.heap[b]?:=fun b hb=>(eB w1 _ b (by simp [w1];omega)).trans (eB w _ b hb)
 have iR:w2.heap[w.heap.size+1]?=some (.loop L):=by
  have:w1.heap.size=w.heap.size+1:=by simp [w1]
  show (w1.alloc (.loop L)).heap[w.heap.size+1]?=_
  rw [<- this];exact heap_alloc_new w1 _
 have gM:iF E w (E.with st.mem.length 0 (w.heap.size+1,0,0)) w2:=by
  refine⟨hle,fun k v g e c hk=>?_,fun ad x hx=>.inl hx,rfl,rfl,rfl,by simp [w2,w1];omega,fun b hb _=>hold b hb⟩
  by_cases ga:k=st.mem.length/\v=0
  ·obtain⟨rfl,rfl⟩:=ga;rw [fK] at hk;cases hk;exact .inr (by omega)
  rw [ix k v ga] at hk;exact .inl ⟨_,_,_,_,hk⟩
 have hFn:∀ o,E.F ⟨w.heap.size+1,o,none⟩=none:=fun o=>by
  cases hx:E.F ⟨w.heap.size+1,o,none⟩ with
  | none=>rfl
  | some x=>have:=World.block_lt_of_cell? w _ (hs.F _ _ hx);simp at this;omega
 have sn:dt (E.with st.mem.length 0 (w.heap.size+1,0,0)) w2 { tmps := #[],defers:=[] } { fr:=[],mem:=st.mem++[.loop .ready none st.fr params assign body] }:=by
  have lz:∀ {k:Nat} {B:bx},(st.mem++[bx.loop .ready none st.fr params assign body])[k]?=some B->(k<st.mem.length/\st.mem[k]?=some B)\/(k=st.mem.length/\B = .loop .ready none st.fr params assign body):=fun {k B} h=>by
   rw [po] at h
   split at h
   ·rename_i bH;exact .inl ⟨bH,h⟩
   have AP:k-st.mem.length=0:=by
    rcases Dt (k-st.mem.length) with h0|h0
    ·exact h0
    rw [ep (by simp;omega)] at h;cases h
   rw [AP] at h;simp at h
   exact .inr ⟨by omega,h.symm⟩
  refine⟨fun ad x hx=>?_,fun k v g e c hk=>?_,fun k B hk=>?_,fun k hk v=>?_,fun k B hk v hv=>?_,fun k k' v v' g e1 c1 e2 c2 h5 h6=>?_,.nil _⟩
  ·have hc:=hs.F ad x hx
   rw [<- hc];simp [World.cell?,hold _ (World.block_lt_of_cell? w ad hc)]
  ·by_cases ga:k=st.mem.length/\v=0
   ·obtain⟨rfl,rfl⟩:=ga;rw [fK] at hk;cases hk;simp [w2,w1]
   rw [ix k v ga] at hk;have:=hs.lt _ _ _ _ _ hk;simp [w2,w1];omega
  ·rcases lz hk with ⟨bH,mm⟩|⟨rfl,rfl⟩
   ·exact (hs.mem k B mm).mono hle (fun v h=>by rw [ix k v (by omega)];exact h) (fun g e c h=>hold g (hs.lt _ _ _ _ _ h)) fun _ _ _ _ _ h=>h
   exact⟨w.heap.size+1,fn,a.tmps,w.heap.size,fK,iR,hs.fr.mono hle,hFn⟩
  ·dsimp only at hk
   simp at hk
   rw [ix k v (by omega)];exact hs.top k (by omega) v
  ·rcases lz hk with ⟨bH,mm⟩|⟨rfl,rfl⟩
   ·rw [ix k v (by omega)];exact hs.ej k B mm v hv
   rw [ix _ v (by simp [bx.ej] at hv;omega)];exact fe v
  by_cases ga:k=st.mem.length/\v=0 <;> by_cases FJ:k'=st.mem.length/\v'=0
  ·rw [ga.1,FJ.1]
  ·obtain⟨rfl,rfl⟩:=ga;rw [fK] at h5;cases h5;rw [ix k' _ FJ] at h6;have:=hs.lt _ _ _ _ _ h6;omega
  ·obtain⟨rfl,rfl⟩:=FJ;rw [fK] at h6;cases h6;rw [ix k _ ga] at h5;have:=hs.lt _ _ _ _ _ h5;omega
  rw [ix k _ ga] at h5;rw [ix k' _ FJ] at h6
  exact hs.apart _ _ _ _ _ _ _ _ _ h5 h6
 have Ri:dh (E.with st.mem.length 0 (w.heap.size+1,0,0)) [.kx st.mem.length] (#[Value.func (.yield (w.heap.size+1)) #[] #[]]:Array Value).toList:=.cons (.kx _ _ _ 0 0 fK) (.nil _)
 obtain⟨d,ys,hy,Wt,hd2⟩:=BB (P:=P) (w:=w2) ((hs.eval f).mono hle) Ri hc
 have alC:=qg.Q6 gM
 refine⟨w.heap.size+1,[{ target:=.collected w.heap.size,args := #[] }],w2,d,w2,g,ys,w2,?_,?_,fun _ _=>trivial,hd2.trans (V0.1 ys w2),fun h=>by simp [WF] at h,?_⟩
 ·exact run_enterLoop_outer _ _ _ _ _
 ·refine Eq.trans ?_ Wt
  simp only [rangeCall,resolve]
  simp [Act.eval]
 refine BD ((V0.2 _ w2 ys sn hy).mono ?_)
 rintro e w3 ⟨E3,x,r,Ap,rfl,hRR,K9,HE,-⟩
 obtain⟨s,oe,fr',V1,V2,V3,WE,afZ,YZ⟩:=hq r Ap hRR
 obtain⟨l3,fn3,Nd,db3,j9,hh3,hr3,hf3⟩:=HE.mem _ _ WE
 have af0:E3.cE st.mem.length 0=some (w.heap.size+1,0,0):=K9.le.cE _ _ _ fK
 rw [af0] at j9;cases j9
 have arG:w.heap.size+1<w3.heap.size:=(dT.1 hh3).1
 have hsb:(s==LoopState.busy)=false:=by cases s <;> first|rfl|exact absurd rfl afZ
 have alE:=hs.Ih HE (Env.le_trans hle K9.le)
 have t:=alE.Bl WE rfl (B':=.dead) rfl af0 hf3 (w' := { w3 with heap:=w3.heap.setIfInBounds (w.heap.size+1) (.loop { state:=.exhausted,pending:=oe,fn:=fn3,tmps:=Nd,params:=V1,assign:=V2,body:=V3,defers:=db3 }) })
  ⟨rfl,rfl,rfl,by simp,fun b hb=>Ft (fun e=>hb e.symm)⟩ trivial
 have Ph:iF E0 w0 E3 _:=(he.trans (gM.trans K9)).trans t.2
 have af2:Marks E3 { w3 with heap:=w3.heap.setIfInBounds (w.heap.size+1) (.loop { state:=.exhausted,pending:=oe,fn:=fn3,tmps:=Nd,params:=V1,assign:=V2,body:=V3,defers:=db3 }) } w0.heap.size ({ target:=.collected w.heap.size,args := #[] } :: a.defers):=by
  obtain⟨rs,m1,m2,m3⟩:=(alC.Q6 K9).Q6 t.2
  have hd0:w2.heap[w.heap.size]?=some (.deferred (some [])):=(eB w1 _ _ (by simp [w1])).trans (heap_alloc_new w _)
  have u5:∀ k v e c,(E.with st.mem.length 0 (w.heap.size+1,0,0)).cE k v≠some (w.heap.size,e,c):=fun k v e c hk=>by
   by_cases ga:k=st.mem.length/\v=0
   ·obtain⟨rfl,rfl⟩:=ga;rw [fK] at hk;simp at hk
   rw [ix k v ga] at hk;have:=hs.lt _ _ _ _ _ hk;omega
  have one:Marks (E.with st.mem.length 0 (w.heap.size+1,0,0)) w2 w0.heap.size [{ target:=.collected w.heap.size,args := #[] }]:=⟨[w.heap.size],rfl,by simp,fun r hr=>by
   simp at hr;subst hr;exact⟨he.size,hd0,u5⟩⟩
  obtain⟨nC,n1,n2,n3⟩:=(one.Q6 K9).Q6 t.2
  have aba:nC=[w.heap.size]:=by
   match nC,n1 with
   | [r],h=>simp at h;rw [h]
   | [],h=>simp at h
   | _ :: _ :: _,h=>simp at h
  subst aba
  refine⟨w.heap.size :: rs,by rw [m1];rfl,?_,fun r hr=>?_⟩
  ·rw [aws]
   refine⟨fun pY=>?_,m2⟩
   obtain⟨rs0,q1,q2,q3⟩:=qg
   have ug:rs=rs0:=by
    have:=m1.symm.trans q1
    have inj:∀ (xs ys:List Nat),xs.map (fun r=>({ target:=.collected r,args := #[] }:Deferred))=ys.map (fun r => { target:=.collected r,args := #[] })->xs=ys:=by
     intro xs
     induction xs with
     | nil=>intro ys h;cases ys with|nil=>rfl|cons y ys=>simp at h
     | cons x xs ih=>intro ys h;cases ys with|nil=>simp at h|cons y ys=>simp at h;rw [h.1,ih ys (by simpa using h.2)]
    exact inj _ _ this
   subst ug
   have:=(q3 _ pY).2.1
   rw [avG (aA _)] at this;cases this
  rcases dp.1 hr with rfl|hr
  ·exact n3 _ (by simp)
  exact m3 r hr
 refine⟨oe,{ w3 with heap:=w3.heap.setIfInBounds (w.heap.size+1) (.loop { state:=.exhausted,pending:=oe,fn:=fn3,tmps:=Nd,params:=V1,assign:=V2,body:=V3,defers:=db3 }) },?_,?_⟩
 ·have hg:(Instr.getLoop (w.heap.size+1)).run P w3 = .ok { state:=s,pending:=oe,fn:=fn3,tmps:=Nd,params:=V1,assign:=V2,body:=V3,defers:=db3 } w3:=by
   simp [Instr.getLoop,getObj,Sem.run,hh3,bind,Sem.bind,pure]
  simp only [Instr.endLoop,Sem.run_bind,hg,Result.andThen_ok,hsb,bw,if_false]
  simp [setObj,Sem.run,hh3]
 cases oe with
 | none=>exact⟨E3,_,⟨t.1.F,t.1.lt,t.1.mem,t.1.top,t.1.ej,t.1.apart,t.1.fr⟩,Ph,af2,YZ⟩
 | some c=>exact YZ E0 w0 h0 E3 _ { a with defers := { target:=.collected w.heap.size,args := #[] } :: a.defers } Ph ⟨t.1.F,t.1.lt,t.1.mem,t.1.top,t.1.ej,t.1.apart,t.1.fr⟩ af2
theorem qi {P:g7} {n0:Nat} {st:St} {Q:Exit->St->Prop} {f:Operand} {params:Array Tmp} {assign body:Code} {g:FuncId} {vs:List V} {r:V} {Ap:List bx} (hc:du (st.eval f) [.kx st.mem.length]=some (g,vs))
  (V0:bK P g vs (st.mem++[.loop .ready none st.fr params assign body]) r Ap)
  (hq:∃ s oe fr' V1 V2 V3,Ap[st.mem.length]?=some (.loop s oe fr' V1 V2 V3)/\s ≠ .busy/\(match oe with|none=>Q .normal { st with mem:=Ap.set st.mem.length .dead }|some c=>fc P none n0 c { st with mem:=Ap.set st.mem.length .dead } Q)) :
  fc P none n0 (.rangeFunc f params assign body) st Q :=
 s8 hc V0.rel fun r' m' ⟨_,h2⟩=>by subst h2;exact hq
end Go.Eng
end
section
namespace Go.Eng
variable [bJ]
open Go.RowKit (Below)
inductive Cls where
 | n|r|a|w|s|b|z|e
 deriving DecidableEq
structure Pl where
 cls:Cls
 key:Nat
 mask:List Nat
 Y0:List Nat:=[]
 abs:List Nat:=[]
abbrev pN:Pl:=⟨.n,0,[],[],[]⟩
abbrev pR:Pl:=⟨.r,0,[],[],[]⟩
abbrev pM (a:List Nat):Pl:=⟨.n,0,[],a,[]⟩
abbrev j2 (a:List Nat):Pl:=⟨.r,0,[],a,[]⟩
def Ir (m:List bx) (k:Nat):List bx:=match m[k]? with
 | some B=>if B.ej=0 then m.set k .dead else m
 | none=>m
def eN:List Nat->List bx->List bx
 | [],m=>m
 | k :: r,m=>eN r (Ir m k)
def mw (b:Bool) (B:bx):bx:=if b=true/\B.ej=0 then .dead else B
theorem Pj (m:List bx) (k q:Nat):(Ir m k)[q]?=(m[q]?).map (mw (q==k)):=by
 unfold Ir;by_cases hq:q=k;·subst hq;cases h:m[q]? with|none=>simp [h]|some B =>have bH:q<m.length:=(az.1 h).1;simp only [beq_self_eq_true,bU,mw,true_and];split;(·rename_i hv;simp [cf,bH]);rename_i hv;exact h
 have hb:(q==k)=false:=by simpa using hq
 have hid:(m[q]?).map (mw (q==k))=m[q]?:=by rw [hb];cases m[q]? <;> simp [mw]
 rw [hid];cases h:m[k]? with|none=>rfl|some B =>dsimp only;split;(·exact cT (fun e=>hq e.symm));rfl
theorem DT (b c:Bool) (B:bx):mw b (mw c B)=mw (b||c) B:=by have hd:bx.dead.ej=0:=rfl;unfold mw;cases b <;> cases c <;> by_cases hv:B.ej=0 <;> simp [hv,hd]
theorem mW:∀ (ks:List Nat) (m:List bx) (q:Nat),(eN ks m)[q]?=(m[q]?).map (mw (ks.contains q))
 | [],m,q=>by cases h:m[q]? <;> simp [eN,h,mw]
 | k :: r,m,q=>by
  rw [eN,mW r,Pj]
  cases m[q]? with
  | none=>rfl
  | some B =>
   simp only [bU,DT,List.contains_cons]
   rw [Bool.or_comm]
theorem wW:∀ (ks:List Nat) (m:List bx),(eN ks m).length=m.length
 | [],m=>rfl
 | k :: r,m=>by
  rw [eN,wW r]
  unfold Ir
  split
  ·split <;> simp
  rfl
theorem oz {ks:List Nat} {m:List bx} {k:Nat} {B0 B:bx} (hk:k∈ks) (hm:m[k]?=some B0) (h0:B0.ej=0) (hB:B.ej=0):eN ks (m.set k B)=eN ks m:=by
 refine eh fun q=>?_;rw [mW,mW];by_cases hq:q=k;·subst hq;have bH:q<m.length:=(az.1 hm).1;(have hc:ks.contains q=true:=by simpa using hk);rw [cf,gH rfl,gH bH,hm];simp [mw,hB,h0,hk]
 rw [cT (fun e=>hq e.symm)]
theorem dt.eN {E:Env} {w:World} {a:Act} {st:St} (hs:dt E w a st) (ks:List Nat):dt E w a { st with mem:=Eng.eN ks st.mem }:=by
 have get:∀ {k:Nat} {B:bx},(Eng.eN ks st.mem)[k]?=some B->∃ B0:bx,st.mem[k]?=some B0/\(B=B0\/B=bx.dead/\B0.ej=0):=fun {k B} h=>by rw [mW] at h;cases h0:st.mem[k]? with|none=>rw [h0] at h;cases h|some B0 =>rw [h0] at h;simp only [bU,aD] at h;refine⟨B0,rfl,?_⟩;unfold mw at h;split at h;(·rename_i hc;exact .inr ⟨h.symm,hc.2⟩);exact .inl h.symm
 refine⟨hs.F,hs.lt,fun k B hk=>?_,fun k hk=>hs.top k (by simpa [wW] using hk),fun k B hk v hv=>?_,hs.apart,hs.fr⟩;·obtain⟨B0,h0,rfl|⟨rfl,-⟩⟩:=get hk;(·exact hs.mem k _ h0);trivial
 obtain⟨B0,h0,rfl|⟨rfl,h1⟩⟩:=get hk;·exact hs.ej k _ h0 v hv
 exact hs.ej k _ h0 v (by rw [h1];exact hv)
def F9 (P:g7) (f:FuncId) (vs:List V) (r:V):Prop:=dz P f vs r\/sS P f vs r
def af4 (P:g7) (f:FuncId) (vs:List V) (Q:V->Prop):Prop:=∃ vs' r,jj [] vs=some vs'/\F9 P f vs' r/\Q r
def Aq (P:g7) (tt:Table) (o:Oper) (st:St):Option V :=
 match o.op with
 | .build T parts=>nW P tt T parts.toList st.eval
 | .buildSlice T len parts=>match yv tt T len parts.toList st.eval with
  | some (_,rs)=>some (.slice rs)
  | none=>none
 | _=>lM P tt st o
def uS (P:g7) (tt:Table) (o:Oper) (st:St) (Q:V->Prop):Prop :=
 match o.op with
 | .call { callee:=.value f,args:=xs,.. }=>match du (st.eval f) (xs.toList.map st.eval) with
  | some (g,vs)=>af4 P g vs Q
  | none=>False
 | _=>match Aq P tt o st with
  | some v=>Q v
  | none=>False
def af5 (P:g7) (f:FuncId) (vs:List V) (st:St) (dst:Option Tmp) (Q:St->Prop):Prop:=∃ vs' r,jj [] vs=some vs'/\F9 P f vs' r/\Q (st.put dst r)
def rv (P:g7) (tt:Table) (o:Oper) (DU st:St) (Q:St->Prop):Prop :=
 match o.op with
 | .call { callee:=.value f,args:=xs,.. }=>match du (DU.eval f) (xs.toList.map DU.eval) with
  | some (g,vs)=>af5 P g vs st o.dst Q
  | none=>False
 | _=>match Aq P tt o DU with
  | some v=>Q (st.put o.dst v)
  | none=>False
theorem AQ {P:g7} {tt:Table} {o:Oper} {DU st:St} {Q:St->Prop}:rv P tt o DU st Q=uS P tt o DU fun v=>Q (st.put o.dst v):=by unfold rv uS;split <;> rfl
def iB (tt:Table) (o:Oper) (key:Nat) (st:St):Option (bx×V) :=
 match o.op with
 | .alloc T=>match tt T with
  | some i=>some (.box (i.zero.map V.sc),.ptr key 0)
  | none=>none
 | .box _ x=>match mr (st.eval x) with
  | some cs=>some (.box cs,.ptr key 0)
  | none=>none
 | .buildSlice T len parts=>match yv tt T len parts.toList st.eval with
  | some (size,rs)=>some (.rows 0 size rs,.ms key 0 0 len)
  | none=>none
 | .makeMap _ none=>some (.map [] 0,.mp key)
 | .makeSlice T l c=>match zv tt T (st.eval l) (st.eval c) with
  | some (size,rs,_)=>some (.rows 0 size rs,.ms key 0 0 rs.length)
  | none=>none
 | _=>none
def o9 (P:g7) (tt:Table) (key:Nat) (o:Oper) (st:St):Option (List bx×V) :=
 match o.op with
 | .store T p x=>match nU tt st.mem T (st.eval p) (st.eval x) with
  | some b7=>some (b7,.sc undef)
  | none=>none
 | .call { callee:=.builtin .append,args:=xs,argTypes:=ts }=>match xs.toList.map st.eval with
  | [s,x]=>match fC tt st.mem ts.toList s x with
   | some (size,sO,rows)=>some (eU st.mem key size rows sO)
   | none=>none
  | _=>none
 | .mapUpdate T m k x=>match ee P st.mem T (st.eval m) (st.eval k) (st.eval x) with
  | some b7=>some (b7,.sc undef)
  | none=>none
 | .insert T m k x=>match ee P st.mem T (st.eval m) (st.eval k) (st.eval x) with
  | some b7=>some (b7,.sc undef)
  | none=>none
 | _=>none
def ss (tt:Table) (key:Nat) (o:Oper) (st:St):Option (List bx) :=
 match o.op with
 | .store T p x=>match st.eval p with
  | .ptr b off=>if b=key then nU tt st.mem T (.ptr key off) (st.eval x) else none
  | _=>none
 | _=>none
def isHole (mem:List bx) (k:Nat):Bool:=match mem[k]? with|some .hole=>true|_=>false
theorem gS {mem:List bx} {k:Nat}:isHole mem k=true↔mem[k]?=some .hole:=by
 unfold isHole;split;·rename_i h;simp [h]
 rename_i h;simp;exact fun e=>h e
def BG (P:g7) (f:FuncId) (vs:List V) (e:Nat) (rs:List V):Prop:=∃ v,bK P f vs [] (.ms 0 v 0 rs.length) [.rows v e rs]
def nF (P:g7) (o:Oper) (ev:Operand->V) (Q:Nat->List V->Prop):Prop :=
 match o.op with
 | .call { callee:=.value f,args:=xs,.. }=>match du (ev f) (xs.toList.map ev) with
  | some (g,vs)=>∃ vs' e rs,jj [] vs=some vs'/\BG P g vs' e rs/\Q e rs
  | none=>False
 | _=>False
theorem oA {P:g7} {o:Oper} {ev:Operand->V} {Q:Nat->List V->Prop}:nF P o ev Q↔∃ e rs,nF P o ev (fun e' nC=>e'=e/\nC=rs)/\Q e rs:=by
 unfold nF;split;·split;(·constructor;(·rintro⟨vs',e,rs,h1,h2,h3⟩;exact⟨e,rs,⟨vs',e,rs,h1,h2,rfl,rfl⟩,h3⟩);rintro⟨e,rs,⟨vs',e',nC,h1,h2,h3,h4⟩,h5⟩;subst h3;subst h4;exact⟨vs',_,_,h1,h2,h5⟩);exact⟨fun h=>h.elim,fun ⟨_,_,h,_⟩=>h⟩
 exact⟨fun h=>h.elim,fun ⟨_,_,h,_⟩=>h⟩
def BH (st:St) (key:Nat) (dst:Option Tmp) (e:Nat) (rs:List V):St := { st with mem:=st.mem.set key (.rows 0 e rs) }.put dst (.ms key 0 0 rs.length)
def af6 (P:g7) (f:FuncId) (vs:List V) (st:St) (key:Nat) (dst:Option Tmp) (Q:St->Prop):Prop:=∃ vs' e rs,jj [] vs=some vs'/\BG P f vs' e rs/\Q (BH st key dst e rs)
def vP (P:g7) (o:Oper) (key:Nat) (st:St) (Q:St->Prop):Prop :=
 match o.op with
 | .call { callee:=.value f,args:=xs,.. }=>match du (st.eval f) (xs.toList.map st.eval) with
  | some (g,vs)=>af6 P g vs st key o.dst Q
  | none=>False
 | _=>False
theorem Ep {P:g7} {o:Oper} {key:Nat} {st:St} {Q:St->Prop}:vP P o key st Q=nF P o st.eval fun e rs=>Q (BH st key o.dst e rs):=by unfold vP nF;split <;> rfl
def fj:bx->bx
 | .box cs=>.box cs
 | _=>.dead
def oP (tt:Table) (o:Oper) (st:St):Option V :=
 match o.op with
 | .load T x=>qs tt (st.mem.map fj) T (st.eval x)
 | _=>none
def isApp (o:Oper):Bool:=match o.op with|.call { callee:=.builtin .append,.. }=>true|_=>false
def s9 (o:Oper):Bool:=match o.op with|.alloc _=>false|.box _ _=>false|_=>true
theorem yB (c:Bool) (B:bx):fj (mw c B)=if c=true then .dead else fj B:=by unfold mw;cases c with|false=>simp|true =>rw [gH rfl];by_cases hv:B.ej=0;(·rw [gH ⟨rfl,hv⟩];rfl);rw [g5 (fun h=>hv h.2)];cases B <;> first|rfl|exact absurd rfl hv
theorem Ga {tt:Table} {o:Oper} {st:St} {v:V} {ks:List Nat} (h:oP tt o { st with mem:=eN ks st.mem }=some v):oP tt o st=some v:=by
 unfold oP at h ⊢;split at h;·rename_i T x ho;(try simp only [ho]);(have e:St.eval { st with mem:=eN ks st.mem } x=st.eval x:=by cases x <;> rfl);rw [e] at h;dsimp only at h;unfold qs at h ⊢;split;(·rename_i b off he;rw [he] at h;dsimp only at h;rw [ae,mW] at h;rw [ae];cases hb:st.mem[b]? with|none=>rw [hb] at h;simp at h|some B =>rw [hb] at h;simp only [bU] at h ⊢;rw [yB] at h;by_cases hc:ks.contains b=true;(·rw [gH hc] at h;cases h);rw [g5 hc] at h;exact h);(·rename_i b ej i off he;rw [he] at h;dsimp only at h;(have:rowOf ((eN ks st.mem).map fj) b ej i=none:=by unfold rowOf;rw [ae];cases hb:(eN ks st.mem)[b]? with|none=>rfl|some B=>cases B <;> rfl);rw [this] at h;cases h);(·rename_i cs he;rw [he] at h;exact h);rename_i h1 h2 h3;split at h;(·rename_i he;exact absurd he (h1 _ _));(·rename_i he;exact absurd he (h2 _ _ _ _));(·rename_i he;exact absurd he (h3 _));cases h
 cases h
theorem Er {ks:List Nat} {m m':List bx} (h:m.map fj=m'.map fj):(eN ks m).map fj=(eN ks m').map fj:=by apply eh;intro q;have hq:=yJ (fun l=>l[q]?) h;simp only [ae] at hq;rw [ae,ae,mW,mW];cases h1:m[q]? with|none =>(rw [h1] at hq;cases h2:m'[q]? with|none=>rfl|some B=>rw [h2] at hq;cases hq)|some A =>rw [h1] at hq;cases h2:m'[q]? with|none=>rw [h2] at hq;cases hq|some B =>rw [h2] at hq;simp only [bU,aD] at hq ⊢;rw [yB,yB,hq]
theorem Pk {P:g7} {tt:Table} {o:Oper} {st:St} {v:V} (h:oP tt o st=some v):lM P tt st o=some v:=by
 unfold oP at h;split at h;·rename_i T x ho;unfold lM;rw [ho];dsimp only;unfold qs at h ⊢;split;(·rename_i b off he;rw [he] at h;dsimp only at h;rw [ae] at h;cases hb:st.mem[b]? with|none=>rw [hb] at h;simp at h|some B =>rw [hb] at h;cases B <;> simp [fj] at h <;> exact h);(·rename_i b ej i off he;rw [he] at h;dsimp only at h;(have:rowOf (st.mem.map fj) b ej i=none:=by unfold rowOf;rw [ae];cases hb:st.mem[b]? with|none=>rfl|some B=>cases B <;> rfl);rw [this] at h;cases h);(·rename_i cs he;rw [he] at h;exact h);rename_i h1 h2 h3;split at h;(·rename_i he;exact absurd he (h1 _ _));(·rename_i he;exact absurd he (h2 _ _ _ _));(·rename_i he;exact absurd he (h3 _));cases h
 cases h
theorem tc {tt:Table} {mem:List bx} {ts:List g9} {s x:V} {size b ej:Nat} {rows:List V} (h:fC tt mem ts s x=some (size,some (b,ej),rows)):∃ e rs,mem[b]?=some (.rows ej e rs):=by
 have hl:∀ {sz:Nat} {rs:List V},js mem sz s=some (some (b,ej),rs)->∃ e rs,mem[b]?=some (.rows ej e rs):=fun {sz rs} h=>by unfold js at h;split at h;(·cases h);(·split at h <;> cases h);(·split at h;(·rename_i v' e nC hb;split at h;(·rename_i hc;simp only [aD,dK] at h;obtain⟨⟨rfl,rfl⟩,rfl⟩:=h;exact⟨_,_,by rw [hb,hc.1]⟩);cases h);cases h);cases h
 unfold fC at h;split at h
 ·split at h
  ·split at h
   ·first
    |skip
     split at h
     ·split at h
      ·split at h
       ·rename_i sO rs hlr
        split at h
        ·split at h
         ·split at h
          case isFalse=>cases h
          simp only [aD,dK] at h
          obtain⟨-,rfl,-⟩:=h
          exact hl hlr
         cases h
        cases h
       cases h
      cases h
     cases h
   cases h
  cases h
 cases h
theorem RR {P:g7} {tt:Table} {key:Nat} {o:Oper} {st:St} {m:List bx} {v:V} (ha:isApp o=true) (hh:st.mem[key]?=some .hole) (h:o9 P tt key o st=some (m,v)):m.map fj=st.mem.map fj:=by
 have Io:∀ (k:Nat) (B0 B:bx),st.mem[k]?=some B0->fj B=fj B0->(st.mem.set k B).map fj=st.mem.map fj:=fun k B0 B h0 hB=>by apply eh;intro q;rw [ae,ae,cf];split;(·rename_i hq;subst hq;rw [gH (az.1 h0).1,h0,bU,bU,hB]);rfl
 unfold isApp at ha;split at ha;·rename_i ho;unfold o9 at h;rw [ho] at h;dsimp only at h;split at h;(·split at h;(·rename_i size sO rows La;simp only [aD] at h;cases sO with|none =>simp only [eU,dK] at h;obtain⟨rfl,-⟩:=h;unfold dw;rw [gH (az.1 hh).1];exact Io _ _ _ hh rfl|some p =>obtain⟨b,ej⟩:=p;simp only [eU,dK] at h;obtain⟨rfl,-⟩:=h;(have hb:∃ e rs,st.mem[b]?=some (.rows ej e rs):=by exact tc La);obtain⟨e,rs,hb⟩:=hb;exact Io _ _ _ hb rfl);cases h);cases h
 cases ha
def pO (P:g7) (o:Oper) (st:St) (Q:St->Prop):Prop :=
 match o.op with
 | .call { callee:=.value f,args:=xs,.. }=>match du (st.eval f) (xs.toList.map st.eval) with
  | some (g,vs)=>(∃ vs' r,jj st.mem vs=some vs'/\dz P g vs' r/\Q ({ st with mem:=iP st.mem (vs.flatMap iz) r }.put o.dst r)) \/
   ∃ r m',bK P g vs st.mem r m'/\Q ({ st with mem:=m' }.put o.dst r)
  | none=>False
 | _=>False
theorem BI {P:g7} {o:Oper} {st:St} {K K':St->Prop} (h:pO P o st K) (hk:∀ s,K s->K' s):pO P o st K':=by
 unfold pO at h ⊢;split at h;·split at h;(·(rcases h with ⟨vs',r,h1,h2,h3⟩|⟨r,m',h1,h2⟩);(·exact .inl ⟨vs',r,h1,h2,hk _ h3⟩);exact .inr ⟨r,m',h1,hk _ h2⟩);exact h.elim
 exact h.elim
def nh:bx->Bool
 | .hole=>false
 | _=>true
def RS (fl:Bool) (P:g7) (g:FuncId) (vs:List V) (k:Nat) (st:St) (dst:Option Tmp) (Q:St->Prop):Prop :=
 ∃ v B0 B,B0.ej=0/\B.ej=0/\st.mem[k]?=some B0/\(bK P g vs st.mem v (st.mem.set k B)/\(fl=true->nh B=true/\∀ mem:List bx,mem[k]?=some B0->bK P g vs mem v (mem.set k B)))/\Q ({ st with mem:=st.mem.set k B }.put dst v)
def wX (fl:Bool) (P:g7) (tt:Table) (o:Oper) (k:Nat) (st:St) (Q:St->Prop):Prop :=
 match o.op with
 | .call { callee:=.value f,args:=xs,.. }=>match du (st.eval f) (xs.toList.map st.eval) with
  | some (g,vs)=>RS fl P g vs k st o.dst Q
  | none=>False
 | _=>match ss tt k o st with
  | some m=>Q ({ st with mem:=m }.put o.dst (.sc undef))
  | none=>False
def BJ (fl:Bool) (P:g7) (tt:Table) (o:Oper) (k:Nat) (st:St) (v:V) (m:List bx):Prop :=
 match o.op with
 | .call { callee:=.value f,args:=xs,.. }=>match du (st.eval f) (xs.toList.map st.eval) with
  | some (g,vs)=>∃ B0 B,B0.ej=0/\B.ej=0/\st.mem[k]?=some B0/\(bK P g vs st.mem v (st.mem.set k B)/\(fl=true->nh B=true/\∀ mem:List bx,mem[k]?=some B0->bK P g vs mem v (mem.set k B)))/\m=st.mem.set k B
  | none=>False
 | _=>v = .sc undef/\ss tt k o st=some m
theorem Pn {fl:Bool} {P:g7} {tt:Table} {o:Oper} {k:Nat} {st:St} {Q:St->Prop}:wX fl P tt o k st Q↔∃ v m,BJ fl P tt o k st v m/\Q ({ st with mem:=m }.put o.dst v):=by
 unfold wX BJ;split;·split;(·constructor;(·rintro⟨v,B0,B,h1,h2,h3,h4,h5⟩;exact⟨v,_,⟨B0,B,h1,h2,h3,h4,rfl⟩,h5⟩);rintro⟨v,m,⟨B0,B,h1,h2,h3,h4,rfl⟩,h5⟩;exact⟨v,B0,B,h1,h2,h3,h4,h5⟩);exact⟨fun h=>h.elim,fun ⟨_,_,h,_⟩=>h.elim⟩
 split;·rename_i m hb;exact⟨fun h=>⟨_,m,⟨rfl,hb⟩,h⟩,fun ⟨u,m',⟨h1,h2⟩,h4⟩=>by rw [hb] at h2;cases h2;subst h1;exact h4⟩
 rename_i hb;exact⟨fun h=>h.elim,fun ⟨_,_,⟨_,h⟩,_⟩=>by rw [hb] at h;cases h⟩
def gQ (P:g7) (tt:Table) (all:Array Oper) (base:Nat) (o:Oper) (p:Pl) (st:St) (Q:St->Prop):Prop :=
 match gE all st.fr o with
 | some true=>match p.cls with
  | .n=>rv P tt o { st with mem:=[] } st Q
  | .r=>rv P tt o { st with mem:=eN (p.mask.map (base + ·)++p.abs) st.mem } st Q
  | .a=>isHole st.mem (base+p.key)=true/\match iB tt o (base+p.key) st with
   | some (B,v)=>Q ({ st with mem:=st.mem.set (base+p.key) B }.put o.dst v)
   | none=>vP P o (base+p.key) st Q
  | .w=>isHole st.mem (base+p.key)=true/\match o9 P tt (base+p.key) o st with
   | some (m,v)=>Q ({ st with mem:=m }.put o.dst v)
   | none=>False
  | .s=>match ss tt (base+p.key) o st with
   | some m=>Q ({ st with mem:=m }.put o.dst (.sc undef))
   | none=>False
  | .b=>match oP tt o { st with mem:=eN (p.mask.map (base + ·)) st.mem } with
   | some v=>Q (st.put o.dst v)
   | none=>False
  | .z=>pO P o st Q
  | .e=>wX (!p.mask.isEmpty) P tt o p.key st Q
 | some false=>Q (st.put o.dst (.sc undef))
 | none=>False
@[congr] theorem abF {P:g7} {tt:Table} {o:Oper} {sv sv' st st':St} {Q:St->Prop} (hv:sv=sv') (h:st=st'):rv P tt o sv st Q=rv P tt o sv' st' Q:=by rw [hv,h]
def mE (P:g7) (tt:Table) (all:Array Oper) (base:Nat) (o:Oper) (p:Pl) (st:St) (v:V) (m:List bx):Prop :=
 match gE all st.fr o with
 | some true=>match p.cls with
  | .n=>uS P tt o { st with mem:=[] } (fun u=>u=v)/\m=st.mem
  | .r=>uS P tt o { st with mem:=eN (p.mask.map (base + ·)++p.abs) st.mem } (fun u=>u=v)/\m=st.mem
  | .a=>isHole st.mem (base+p.key)=true/\∃ B,(iB tt o (base+p.key) st=some (B,v)\/iB tt o (base+p.key) st=none/\nF P o st.eval (fun e rs=>B = .rows 0 e rs/\v = .ms (base+p.key) 0 0 rs.length))/\m=st.mem.set (base+p.key) B
  | .w=>isHole st.mem (base+p.key)=true/\o9 P tt (base+p.key) o st=some (m,v)
  | .s=>v = .sc undef/\ss tt (base+p.key) o st=some m
  | .b=>oP tt o { st with mem:=eN (p.mask.map (base + ·)) st.mem }=some v/\m=st.mem
  | .z=>False
  | .e=>BJ (!p.mask.isEmpty) P tt o p.key st v m
 | some false=>v = .sc undef/\m=st.mem
 | none=>False
theorem Is {P:g7} {tt:Table} {o:Oper} {st:St} {Q:V->Prop}:uS P tt o st Q↔∃ v,uS P tt o st (fun u=>u=v)/\Q v:=by
 unfold uS;split;·split;(·constructor;(·rintro⟨vs',r,h1,h2,h3⟩;exact⟨r,⟨vs',r,h1,h2,rfl⟩,h3⟩);rintro⟨v,⟨vs',r,h1,h2,rfl⟩,h3⟩;exact⟨vs',r,h1,h2,h3⟩);exact⟨fun h=>h.elim,fun ⟨_,h,_⟩=>h⟩
 split;·exact⟨fun h=>⟨_,rfl,h⟩,fun ⟨_,h,hq⟩=>by subst h;exact hq⟩
 exact⟨fun h=>h.elim,fun ⟨_,h,_⟩=>h⟩
theorem j3 {P:g7} {tt:Table} {all:Array Oper} {base:Nat} {o:Oper} {p:Pl} {st:St} {Q:St->Prop} (hz:p.cls ≠ .z) :
  gQ P tt all base o p st Q↔∃ v m,mE P tt all base o p st v m/\Q ({ st with mem:=m }.put o.dst v):=by
 unfold gQ mE;split;·split;(·rw [AQ,Is];exact⟨fun ⟨v,h1,h2⟩=>⟨v,st.mem,⟨h1,rfl⟩,h2⟩,fun ⟨v,m,⟨h1,h2⟩,h3⟩=>⟨v,h1,by subst h2;exact h3⟩⟩);(·rw [AQ,Is];exact⟨fun ⟨v,h1,h2⟩=>⟨v,st.mem,⟨h1,rfl⟩,h2⟩,fun ⟨v,m,⟨h1,h2⟩,h3⟩=>⟨v,h1,by subst h2;exact h3⟩⟩);(·split;(·rename_i B v hb;refine⟨fun ⟨h1,h2⟩=>⟨v,_,⟨h1,B,.inl hb,rfl⟩,h2⟩,fun ⟨u,m,⟨h1,B',h2,h3⟩,h4⟩=>?_⟩;(rcases h2 with h2|⟨h2,-⟩);(·rw [hb] at h2;cases h2;subst h3;exact⟨h1,h4⟩);rw [hb] at h2;cases h2);rename_i hb;rw [Ep];constructor;(·rintro⟨h1,h2⟩;obtain⟨e,rs,h3,h4⟩:=oA.1 h2;exact⟨_,_,⟨h1,.rows 0 e rs,.inr ⟨hb,oA.2 ⟨e,rs,h3,rfl,rfl⟩⟩,rfl⟩,h4⟩);rintro⟨u,m,⟨h1,B',h2,h3⟩,h4⟩;(rcases h2 with h2|⟨-,h2⟩);(·rw [hb] at h2;cases h2);obtain⟨e,rs,h5,h6,h7⟩:=oA.1 h2;subst h6;subst h7;subst h3;exact⟨h1,oA.2 ⟨e,rs,h5,h4⟩⟩);(·split;(·rename_i m v hb;exact⟨fun ⟨h1,h2⟩=>⟨v,m,⟨h1,hb⟩,h2⟩,fun ⟨u,m',⟨h1,h2⟩,h4⟩=>by rw [hb] at h2;cases h2;exact⟨h1,h4⟩⟩);rename_i hb;exact⟨fun h=>h.2.elim,fun ⟨_,_,⟨_,h⟩,_⟩=>by rw [hb] at h;cases h⟩);(·split;(·rename_i m hb;exact⟨fun h=>⟨_,m,⟨rfl,hb⟩,h⟩,fun ⟨u,m',⟨h1,h2⟩,h4⟩=>by rw [hb] at h2;cases h2;subst h1;exact h4⟩);rename_i hb;exact⟨fun h=>h.elim,fun ⟨_,_,⟨_,h⟩,_⟩=>by rw [hb] at h;cases h⟩);(·split;(·rename_i v hb;exact⟨fun h=>⟨v,st.mem,⟨hb,rfl⟩,h⟩,fun ⟨u,m',⟨h1,h2⟩,h4⟩=>by rw [hb] at h1;cases h1;subst h2;exact h4⟩);rename_i hb;exact⟨fun h=>h.elim,fun ⟨_,_,⟨h,_⟩,_⟩=>by rw [hb] at h;cases h⟩);(·rename_i hc;exact absurd hc hz);exact Pn
 ·exact⟨fun h=>⟨_,_,⟨rfl,rfl⟩,h⟩,fun ⟨v,m,⟨h1,h2⟩,h3⟩=>by subst h1;subst h2;exact h3⟩
 exact⟨fun h=>h.elim,fun ⟨_,_,h,_⟩=>h⟩
theorem j4 {ρ ρ':Operand->V} {xs:Array Operand} (h:∀ x∈xs,ρ x=ρ' x):xs.toList.map ρ=xs.toList.map ρ' :=
 AF fun x hx=>h x (by simpa using hx)
theorem zN {bT:List (Nat×Nat)} {ρ ρ':Operand->V}:∀ {ps:List (Nat×Operand)} {cs:List V},(∀ p∈ps,ρ p.2=ρ' p.2)->wP bT ρ ps cs=wP bT ρ' ps cs
 | [],cs,_=>rfl
 | (i,x) :: r,cs,h=>by
  simp only [wP,h (i,x) (by simp)]
  split
  ·split
   ·split
    ·exact zN fun p hp=>h p (by simp [hp])
    rfl
   rfl
  rfl
theorem td {ρ ρ':Operand->V}:∀ {ps:List (Nat×Operand)},(∀ p∈ps,ρ p.2=ρ' p.2)->nE ρ ps=nE ρ' ps
 | [],_=>rfl
 | (i,x) :: r,h=>by
  simp only [nE,h (i,x) (by simp)]
  rw [td fun p hp=>h p (by simp [hp])]
theorem Gb {P:g7} {tt:Table} {T:g9} {ρ ρ':Operand->V} {ps:List (Nat×Operand)} (h:∀ p∈ps,ρ p.2=ρ' p.2):nW P tt T ps ρ=nW P tt T ps ρ':=by
 unfold nW;split;·rw [zN h,td h]
 rfl
theorem BK {tt:Table} {T:g9} {len:Nat} {ρ ρ':Operand->V} {ps:List (Nat×Operand)} (h:∀ p∈ps,ρ p.2=ρ' p.2):yv tt T len ps ρ=yv tt T len ps ρ':=by unfold yv;have:(ps.map fun p=>ρ p.2)=ps.map fun p=>ρ' p.2:=AF h;rw [this]
theorem Po {P:g7} {tt:Table} {o:Oper} {st st':St} (h:∀ x∈o.op.operands,st.eval x=st'.eval x) (hm:st.mem=st'.mem):lM P tt st o=lM P tt st' o:=by
 obtain⟨dst,op,type,pos,after,guard⟩:=o;cases op <;> simp only [Op.operands] at h <;> try rfl
 case slice T x lo hi mx =>
  cases mx <;> cases lo <;> cases hi <;> try rfl
  all_goals (simp only [lM];simp_all)
 case makeFunc fn first captured =>
  simp only [lM]
  rw [j4 (xs:=first) fun x hx=>h x (by simp [hx]),j4 (xs:=captured) fun x hx=>h x (by simp [hx])]
 case call c =>
  obtain⟨callee,args,ts⟩:=c
  have pP:args.toList.map st.eval=args.toList.map st'.eval:=j4 fun x hx=>h x (by simp [Call.operands,hx])
  cases callee with
  | builtin b=>cases b <;> simp only [lM,pP,hm]
  | _=>rfl
 all_goals (simp only [lM];simp_all)
theorem Lc {P:g7} {tt:Table} {o:Oper} {st st':St} (h:∀ x∈o.op.operands,st.eval x=st'.eval x) (hm:st.mem=st'.mem):Aq P tt o st=Aq P tt o st':=by
 have h0:=Po (P:=P) (tt:=tt) h hm;obtain⟨dst,op,type,pos,after,guard⟩:=o;cases op <;> try exact h0
 case build T ps=>exact Gb fun p hp=>h p.2 (by simp only [Op.operands];simpa using ⟨p.1,by simpa using hp⟩)
 case buildSlice T len ps =>
  simp only [Aq]
  rw [BK fun p hp=>h p.2 (by simp only [Op.operands];simpa using ⟨p.1,by simpa using hp⟩)]
theorem BM {P:g7} {tt:Table} {o:Oper} {st st':St} {Q:V->Prop} (h:∀ x∈o.op.operands,st.eval x=st'.eval x) (hm:st.mem=st'.mem):uS P tt o st Q=uS P tt o st' Q:=by
 have h0:=Lc (P:=P) (tt:=tt) h hm;unfold uS;rw [h0];split;·rename_i f xs ts heq;rw [heq] at h;have pP:xs.toList.map st.eval=xs.toList.map st'.eval:=j4 fun x hx=>h x (by simp [Op.operands,Call.operands,hx]);have hf:st.eval f=st'.eval f:=h f (by simp [Op.operands,Call.operands]);rw [pP,hf]
 rfl
theorem oj {tt:Table} {o:Oper} {key:Nat} {st st':St} (h:∀ x∈o.op.operands,st.eval x=st'.eval x):iB tt o key st=iB tt o key st':=by
 obtain⟨dst,op,type,pos,after,guard⟩:=o;cases op <;> try rfl
 case makeMap t r=>cases r <;> rfl
 case makeSlice t l c=>simp only [iB];rw [h l (by simp [Op.operands]),h c (by simp [Op.operands])]
 case box T x=>simp only [iB];rw [h x (by simp [Op.operands])]
 case buildSlice T len ps =>
  simp only [iB]
  rw [BK fun p hp=>h p.2 (by simp only [Op.operands];simpa using ⟨p.1,by simpa using hp⟩)]
theorem pQ {P:g7} {o:Oper} {ρ ρ':Operand->V} {Q:Nat->List V->Prop} (h:∀ x∈o.op.operands,ρ x=ρ' x):nF P o ρ Q=nF P o ρ' Q:=by
 unfold nF;split;·rename_i f xs ts heq;rw [heq] at h;have pP:xs.toList.map ρ=xs.toList.map ρ':=j4 fun x hx=>h x (by simp [Op.operands,Call.operands,hx]);have hf:ρ f=ρ' f:=h f (by simp [Op.operands,Call.operands]);rw [pP,hf]
 rfl
theorem Ld {P:g7} {tt:Table} {o:Oper} {key:Nat} {st st':St} (h:∀ x∈o.op.operands,st.eval x=st'.eval x) (hm:st.mem=st'.mem):o9 P tt key o st=o9 P tt key o st':=by
 obtain⟨dst,op,type,pos,after,guard⟩:=o;cases op <;> try rfl
 case store T p x=>simp only [o9,hm];rw [h p (by simp [Op.operands]),h x (by simp [Op.operands])]
 case mapUpdate T m k x=>simp only [o9,hm];rw [h m (by simp [Op.operands]),h k (by simp [Op.operands]),h x (by simp [Op.operands])]
 case insert T m k x=>simp only [o9,hm];rw [h m (by simp [Op.operands]),h k (by simp [Op.operands]),h x (by simp [Op.operands])]
 case call c =>
  obtain⟨callee,args,ts⟩:=c
  have pP:args.toList.map st.eval=args.toList.map st'.eval:=j4 fun x hx=>h x (by simp [Op.operands,Call.operands,hx])
  cases callee with
  | builtin b=>cases b <;> simp only [o9,pP,hm]
  | _=>rfl
theorem BN {tt:Table} {o:Oper} {key:Nat} {st st':St} (h:∀ x∈o.op.operands,st.eval x=st'.eval x) (hm:st.mem=st'.mem):ss tt key o st=ss tt key o st':=by
 obtain⟨dst,op,type,pos,after,guard⟩:=o;cases op <;> try rfl
 case store T p x=>simp only [ss,hm];rw [h p (by simp [Op.operands]),h x (by simp [Op.operands])]
theorem BO {tt:Table} {o:Oper} {key:Nat} {st:St} {m:List bx} (h:ss tt key o st=some m) :
  ∃ B0 B:bx,(B0.ej=0/\nh B=true)/\B.ej=0/\st.mem[key]?=some B0/\m=st.mem.set key B/\∀ mem:List bx,mem[key]?=some B0->ss tt key o { st with mem:=mem }=some (mem.set key B):=by
 have ev:∀ (mem:List bx) (x:Operand),St.eval { st with mem:=mem } x=st.eval x:=fun mem x=>by cases x <;> rfl
 unfold ss at h ⊢;obtain⟨dst,op,type,pos,after,guard⟩:=o;cases op <;> try (cases h)
 case store T p x =>
  simp only [ev]
  dsimp only at h
  split at h
  ·rename_i b off hp
   split at h
   ·rename_i hb
    subst hb
    unfold nU at h
    split at h
    ·cases h
    rename_i new hn
    split at h
    ·rename_i ly
     dsimp only at h
     split at h
     ·rename_i cs nj
      split at h
      ·rename_i hle
       cases h
       refine⟨.box cs,.box (kS cs off new),⟨rfl,rfl⟩,rfl,nj,rfl,fun mem hm=>?_⟩
       simp only [hp,if_true]
       unfold nU
       simp only [hn,ly,if_true,hm,hle]
      cases h
     cases h
    cases h
   cases h
  cases h
theorem eval_put {st:St} {dst:Option Tmp} {v:V} {x:Operand} (h:∀ d,dst=some d->x ≠ .tmp d):(st.put dst v).eval x=st.eval x:=by cases dst with|none=>rfl|some d =>cases x with|tmp t =>have dI:d≠t:=fun e=>h d rfl (e ▸ rfl);simp [St.eval,St.put,List.getD,cT dI]|_=>rfl
theorem WH (st:St) (dst:Option Tmp) (v:V):(st.put dst v).mem=st.mem:=by cases dst <;> rfl
theorem DV {all:Array Oper} {o:Oper} {d:Tmp} (h:d ∉ o.looksAt all):∀ x∈o.op.operands,x ≠ .tmp d:=by rintro x hx rfl;exact h (by unfold Oper.looksAt;exact fT _ (List.mem_filterMap.2 ⟨.tmp d,by simpa using hx,rfl⟩))
theorem It {all:Array Oper} {o:Oper} {st:St} {dst:Option Tmp} {v:V} (h:∀ d,dst=some d->d ∉ o.looksAt all):gE all (st.put dst v).fr o=gE all st.fr o:=by cases dst with|none=>rfl|some d =>have hd:=h d rfl;unfold gE;split;(·rfl);rename_i j want hg;split;(·rfl);rename_i e he;(have dI:d≠e:=by rintro rfl;exact hd (by unfold Oper.looksAt;exact gO _ (by rw [hg];simp only [];rw [he];simp)));simp only [St.put,cT dI]
section
variable {P:g7} {tt:Table} {all:Array Oper} {base:Nat}
theorem Iu {o:Oper} {st st':St} (h:∀ x∈o.op.operands,st.eval x=st'.eval x) (hm:st.mem=st'.mem):oP tt o st=oP tt o st':=by
 unfold oP;split;·rename_i T x ho;rw [hm,h x (by rw [ho];simp [Op.operands])]
 rfl
theorem Le {fl:Bool} {P:g7} {tt:Table} {o:Oper} {k:Nat} {st st':St} {v:V} {m:List bx} (h:∀ x∈o.op.operands,st.eval x=st'.eval x) (hm:st.mem=st'.mem):BJ fl P tt o k st v m=BJ fl P tt o k st' v m:=by
 have hs:=BN (tt:=tt) (key:=k) h hm;unfold BJ;split;·rename_i f xs ts heq;rw [heq] at h;have pP:xs.toList.map st.eval=xs.toList.map st'.eval:=AF fun x hx=>h x (by simp [Op.operands,Call.operands];exact .inr (by simpa using hx));have hf:st.eval f=st'.eval f:=h f (by simp [Op.operands,Call.operands]);rw [pP,hf,hm]
 rw [hs]
theorem RT {fl:Bool} {P:g7} {tt:Table} {o:Oper} {k:Nat} {st:St} {v:V} {m:List bx} (h:BJ fl P tt o k st v m):∃ B0 B:bx,B0.ej=0/\B.ej=0/\st.mem[k]?=some B0/\m=st.mem.set k B:=by
 unfold BJ at h;split at h;·split at h;(·obtain⟨B0,B,h1,h2,h3,h4,h5⟩:=h;exact⟨B0,B,h1,h2,h3,h5⟩);exact h.elim
 obtain⟨B0,B,h1,h2,h3,h4,-⟩:=BO h.2;exact⟨B0,B,h1.1,h2,h3,h4⟩
theorem Pp {o:Oper} {p:Pl} {st st':St} {v:V} {m:List bx} (hw:gE all st.fr o=gE all st'.fr o) (h:∀ x∈o.op.operands,st.eval x=st'.eval x) (hm:st.mem=st'.mem) :
  mE P tt all base o p st v m=mE P tt all base o p st' v m:=by
 have e1:∀ (mem:List bx) (x:Operand),St.eval { st with mem:=mem } x=st.eval x:=fun mem x=>by cases x <;> rfl
 have e2:∀ (mem:List bx) (x:Operand),St.eval { st' with mem:=mem } x=st'.eval x:=fun mem x=>by cases x <;> rfl
 unfold mE;rw [hw,oj h,Ld h hm,BN h hm,Iu (st := { st with mem:=eN (p.mask.map (base + ·)) st.mem }) (st' := { st' with mem:=eN (p.mask.map (base + ·)) st'.mem }) (fun x hx=>by rw [e1,e2];exact h x hx) (by rw [hm]),Le h hm,hm];simp only [pQ h]
 rw [BM (st := { st with mem:=[] }) (st' := { st' with mem:=[] }) (fun x hx=>by rw [e1,e2];exact h x hx) rfl,
  BM (st := { st with mem:=eN (p.mask.map (base + ·)++p.abs) st'.mem }) (st' := { st' with mem:=eN (p.mask.map (base + ·)++p.abs) st'.mem }) (fun x hx=>by rw [e1,e2];exact h x hx) rfl]
theorem Nf {o:Oper} {p:Pl} {st:St} {dst:Option Tmp} {u v:V} {m:List bx} (h:∀ d,dst=some d->d ∉ o.looksAt all):mE P tt all base o p (st.put dst u) v m=mE P tt all base o p st v m :=
 Pp (It h) (fun x hx=>eval_put fun d hd=>DV (h d hd) x hx) (WH _ _ _)
def yC (all:Array Oper) (x:Oper) (px:Pl) (y:Oper) (py:Pl):Bool :=
 px.cls != .z&&py.cls != .z&&x.apart all y&&(px.cls == .n||py.cls == .n||(px.cls == .r&&py.cls == .r)||((px.cls == .a||px.cls == .s)&&py.cls == .r&&py.mask.contains px.key)||(px.cls == .r&&(py.cls == .a||py.cls == .s)&&px.mask.contains py.key)||((px.cls == .a||px.cls == .s)&&(py.cls == .a||py.cls == .s)&&px.key != py.key)||(px.cls == .b&&(py.cls == .r||py.cls == .b||(py.cls == .w&&isApp y)||(py.cls == .a&&s9 y)))||(py.cls == .b&&(px.cls == .r||(px.cls == .w&&isApp x)||(px.cls == .a&&s9 x)))||(px.cls == .e&&py.cls == .r&&py.abs.contains px.key)||(px.cls == .r&&py.cls == .e&&px.abs.contains py.key)||(px.cls == .b&&(py.cls == .a||py.cls == .s)&&px.mask.contains py.key)||(py.cls == .b&&(px.cls == .a||px.cls == .s)&&py.mask.contains px.key)||(px.cls == .w&&isApp x&&py.cls == .a && !s9 y&&px.key != py.key)||(py.cls == .w&&isApp y&&px.cls == .a && !s9 x&&px.key != py.key)||(px.cls == .e && !px.mask.isEmpty&&py.cls == .a))
theorem Lf {o:Oper} {key:Nat} {st:St} {B:bx} {v:V} (h:iB tt o key st=some (B,v)):B.ej=0:=by
 unfold iB at h;split at h;·split at h <;> cases h <;> rfl
 ·split at h <;> cases h <;> rfl
 ·split at h <;> cases h <;> rfl
 ·cases h;rfl
 ·split at h <;> cases h <;> rfl
 cases h
theorem yD {o:Oper} {p:Pl} (hp:p.cls = .n) {st:St} {v:V} {m:List bx} (h:mE P tt all base o p st v m) (mem:List bx):m=st.mem/\mE P tt all base o p { st with mem:=mem } v mem:=by
 unfold mE at h ⊢;dsimp only;split at h;·rename_i hw;rw [hp] at h;simp only [hw,hp];exact⟨h.2,h.1,trivial⟩
 ·rename_i hw;simp only [hw];exact⟨h.2,h.1,trivial⟩
 exact h.elim
theorem iJ {o:Oper} {p:Pl} (hp:p.cls = .r) {st:St} {v:V} {m:List bx} (h:mE P tt all base o p st v m) {mem:List bx} (hm:eN (p.mask.map (base + ·)++p.abs) mem=eN (p.mask.map (base + ·)++p.abs) st.mem) :
  m=st.mem/\mE P tt all base o p { st with mem:=mem } v mem:=by
 unfold mE at h ⊢;dsimp only;split at h;·rename_i hw;rw [hp] at h;simp only [hw,hp];exact⟨h.2,by rw [hm];exact h.1,trivial⟩
 ·rename_i hw;simp only [hw];exact⟨h.2,h.1,trivial⟩
 exact h.elim
theorem oB {o:Oper} {p:Pl} (hp:p.cls = .a\/p.cls = .s) {st:St} {v:V} {m:List bx} (h:mE P tt all base o p st v m) :
  (m=st.mem/\∀ mem,mE P tt all base o p { st with mem:=mem } v mem) \/
  ∃ B0 B:bx,B0.ej=0/\B.ej=0/\st.mem[base+p.key]?=some B0/\m=st.mem.set (base+p.key) B/\∀ mem:List bx,mem[base+p.key]?=some B0->mE P tt all base o p { st with mem:=mem } v (mem.set (base+p.key) B):=by
 unfold mE at h;split at h;·rename_i hw;(rcases hp with hp|hp);(·rw [hp] at h;obtain⟨h1,B,h2,h3⟩:=h;(have Wk:B.ej=0:=by (rcases h2 with h2|⟨-,h2⟩);(·exact Lf h2);obtain⟨e,rs,-,h5,-⟩:=oA.1 h2;rw [h5];rfl);refine .inr ⟨.hole,B,rfl,Wk,gS.1 h1,h3,fun mem hm=>?_⟩;unfold mE;simp only [hw,hp];refine⟨gS.2 hm,B,?_,rfl⟩;(have e0:iB tt o (base+p.key) { st with mem:=mem }=iB tt o (base+p.key) st:=oj fun x _=>by cases x <;> rfl);rw [e0];(have e1:∀ Q,nF P o (St.eval { st with mem:=mem }) Q=nF P o st.eval Q:=fun Q=>pQ fun x _=>by cases x <;> rfl);rw [e1];exact h2);rw [hp] at h;obtain⟨h1,h2⟩:=h;obtain⟨B0,B,h3,h4,h5,h6,h7⟩:=BO h2;refine .inr ⟨B0,B,h3.1,h4,h5,h6,fun mem hm=>?_⟩;unfold mE;simp only [hw,hp];exact⟨h1,h7 mem hm⟩
 ·rename_i hw;refine .inl ⟨h.2,fun mem=>?_⟩;unfold mE;simp only [hw];exact⟨h.1,trivial⟩
 exact h.elim
theorem Es {o:Oper} {p:Pl} (hp:p.cls = .e) {st:St} {v:V} {m:List bx} (h:mE P tt all base o p st v m) :
  m=st.mem\/∃ B0 B:bx,B0.ej=0/\B.ej=0/\st.mem[p.key]?=some B0/\m=st.mem.set p.key B:=by
 unfold mE at h;split at h;·rw [hp] at h;exact .inr (RT h)
 ·exact .inl h.2
 exact h.elim
theorem Lg {o:Oper} {p:Pl} (hp:p.cls = .a) {st:St} {v:V} {m:List bx} (h:mE P tt all base o p st v m) :
  (m=st.mem/\∀ mem,mE P tt all base o p { st with mem:=mem } v mem) \/
  ∃ B:bx,st.mem[base+p.key]?=some .hole/\m=st.mem.set (base+p.key) B/\∀ mem:List bx,mem[base+p.key]?=some .hole->mE P tt all base o p { st with mem:=mem } v (mem.set (base+p.key) B):=by
 unfold mE at h;split at h;·rename_i hw;rw [hp] at h;obtain⟨h1,B,h2,h3⟩:=h;refine .inr ⟨B,gS.1 h1,h3,fun mem hm=>?_⟩;unfold mE;simp only [hw,hp];refine⟨gS.2 hm,B,?_,rfl⟩;(have e0:iB tt o (base+p.key) { st with mem:=mem }=iB tt o (base+p.key) st:=oj fun x _=>by cases x <;> rfl);rw [e0];(have e1:∀ Q,nF P o (St.eval { st with mem:=mem }) Q=nF P o st.eval Q:=fun Q=>pQ fun x _=>by cases x <;> rfl);rw [e1];exact h2
 ·rename_i hw;refine .inl ⟨h.2,fun mem=>?_⟩;unfold mE;simp only [hw];exact⟨h.1,trivial⟩
 exact h.elim
theorem Lh {o:Oper} {p:Pl} (hp:p.cls = .e) (hf:(!p.mask.isEmpty)=true) {st:St} {v:V} {m:List bx} (h:mE P tt all base o p st v m) :
  (m=st.mem/\∀ mem,mE P tt all base o p { st with mem:=mem } v mem) \/
  ∃ B0 B:bx,nh B=true/\st.mem[p.key]?=some B0/\m=st.mem.set p.key B/\∀ mem:List bx,mem[p.key]?=some B0->mE P tt all base o p { st with mem:=mem } v (mem.set p.key B):=by
 unfold mE at h;split at h;·rename_i hw;rw [hp] at h;dsimp only at h;(have ho:∀ mem:List bx,St.eval { st with mem:=mem }=st.eval:=fun mem=>funext fun x=>by cases x <;> rfl);unfold BJ at h;split at h;(·rename_i f xs ts heq;split at h;(·rename_i g vs hg;obtain⟨B0,B,h1,h2,h3,⟨h4,h5⟩,h6⟩:=h;obtain⟨h7,h8⟩:=h5 hf;refine .inr ⟨B0,B,h7,h3,h6,fun mem hm=>?_⟩;unfold mE;simp only [hw,hp];unfold BJ;rw [heq];dsimp only;rw [ho mem,hg];exact⟨B0,B,h1,h2,hm,⟨h8 mem hm,fun _=>⟨h7,h8⟩⟩,rfl⟩);exact h.elim);rename_i dI;obtain⟨h1,h2⟩:=h;obtain⟨B0,B,h3,h4,h5,h6,h7⟩:=BO h2;refine .inr ⟨B0,B,h3.2,h5,h6,fun mem hm=>?_⟩;unfold mE;simp only [hw,hp];unfold BJ;split;(·rename_i f xs ts heq;exact (dI _ _ _ heq).elim);exact⟨h1,h7 mem hm⟩
 ·rename_i hw;refine .inl ⟨h.2,fun mem=>?_⟩;unfold mE;simp only [hw];exact⟨h.1,trivial⟩
 exact h.elim
theorem qD {o:Oper} {p:Pl} (hp:p.cls = .b) {st:St} {v:V} {m:List bx} (h:mE P tt all base o p st v m) :
  m=st.mem/\∀ mem:List bx,(eN (p.mask.map (base + ·)) mem).map fj=(eN (p.mask.map (base + ·)) st.mem).map fj->mE P tt all base o p { st with mem:=mem } v mem:=by
 unfold mE at h ⊢;dsimp only;split at h;·rename_i hw;rw [hp] at h;simp only [hw,hp];refine⟨h.2,fun mem hm=>⟨?_,trivial⟩⟩;have h1:=h.1;unfold oP at h1 ⊢;split at h1;(·rename_i T x ho;(have e:St.eval { st with mem:=eN (p.mask.map (base + ·)) mem } x=St.eval { st with mem:=eN (p.mask.map (base + ·)) st.mem } x:=by cases x <;> rfl);show qs tt ((eN (p.mask.map (base + ·)) mem).map fj) T (St.eval { st with mem:=eN (p.mask.map (base + ·)) mem } x)=some v;rw [hm,e];exact h1);cases h1
 ·rename_i hw;simp only [hw];exact⟨h.2,fun _ _=>⟨h.1,trivial⟩⟩
 exact h.elim
theorem Et {o:Oper} {p:Pl} (hp:p.cls = .w) (ha:isApp o=true) {st:St} {v:V} {m:List bx} (h:mE P tt all base o p st v m):m.map fj=st.mem.map fj:=by
 unfold mE at h;split at h;·rw [hp] at h;exact RR ha (gS.1 h.1) h.2
 ·rw [h.2]
 exact h.elim
theorem BP {o:Oper} {p:Pl} (hp:p.cls = .a) (ha:s9 o=true) {st:St} {v:V} {m:List bx} (h:mE P tt all base o p st v m):m.map fj=st.mem.map fj:=by
 unfold mE at h;split at h;·rw [hp] at h;obtain⟨h1,B,h2,rfl⟩:=h;(have hB:fj B = .dead:=by (rcases h2 with h2|⟨-,h2⟩);(·unfold iB at h2;unfold s9 at ha;split at h2;(·rename_i he;rw [he] at ha;cases ha);(·rename_i he;rw [he] at ha;cases ha);(·split at h2 <;> cases h2;rfl);(·cases h2;rfl);(·split at h2 <;> cases h2;rfl);cases h2);obtain⟨e,rs,-,h5,-⟩:=oA.1 h2;rw [h5];rfl);have hh:=gS.1 h1;apply eh;intro q;rw [ae,ae,cf];split;(·rename_i hq;subst hq;rw [gH (az.1 hh).1,hh,bU,bU,hB];rfl);rfl
 ·rw [h.2]
 exact h.elim
theorem Li {mem:List bx} {q:Nat} {cs:List V} (hq:mem[q]?=some .hole) (n:Nat) (v:V):rowsOf (mem.set q (.box cs)) n v=rowsOf mem n v:=by cases v with|ms b ej s l =>simp only [rowsOf];by_cases hb:q=b;(·subst hb;rw [hq,fi (az.1 hq).1]);rw [cT hb]|sc w=>unfold rowsOf;split <;> (try split) <;> simp_all|_=>rfl
theorem Gc {mem:List bx} {q:Nat} {cs:List V} (hq:mem[q]?=some .hole) (n:Nat) (v:V):js (mem.set q (.box cs)) n v=js mem n v:=by cases v with|ms b ej s l =>(cases s with|zero =>simp only [js];by_cases hb:q=b;(·subst hb;rw [hq,fi (az.1 hq).1]);rw [cT hb]|succ s=>rfl)|sc w=>unfold js;split <;> (try split) <;> simp_all|_=>rfl
theorem Pq {tt:Table} {mem:List bx} {q:Nat} {cs:List V} (hq:mem[q]?=some .hole) (u:g9) (n:Nat) (x:V):sN tt (mem.set q (.box cs)) u n x=sN tt mem u n x:=by unfold sN;simp only [Li hq]
theorem Iv {tt:Table} {mem:List bx} {q:Nat} {cs:List V} (hq:mem[q]?=some .hole) (ts:List g9) (s x:V):fC tt (mem.set q (.box cs)) ts s x=fC tt mem ts s x:=by unfold fC;simp only [Pq hq,Gc hq]
theorem Iw {P:g7} {tt:Table} {key q:Nat} {cs:List V} {o:Oper} {st:St} (ha:isApp o=true) (hk:st.mem[key]?=some .hole) (hq:st.mem[q]?=some .hole) (dI:key≠q) :
  o9 P tt key o { st with mem:=st.mem.set q (.box cs) }=(o9 P tt key o st).map fun p=>(p.1.set q (.box cs),p.2):=by
 unfold isApp at ha;split at ha;·rename_i xs ts ho;unfold o9;simp only [ho];(have em:xs.toList.map (St.eval { st with mem:=st.mem.set q (.box cs) })=xs.toList.map st.eval:=AF fun x _=>by cases x <;> rfl);rw [em];split;(·rename_i s x hl;rw [Iv hq];cases La:fC tt st.mem ts.toList s x with|none=>rfl|some r =>obtain⟨size,sO,rows⟩:=r;cases sO with|none =>simp only [eU,bU];unfold dw;rw [avK,gH (az.1 hk).1,gH (az.1 hk).1,aq7 _ _ dI]|some p =>obtain⟨b,ej⟩:=p;obtain⟨e,rs,hb⟩:=tc La;(have hbq:b≠q:=fun e=>by subst e;rw [hq] at hb;cases hb);simp only [eU,bU];rw [aq7 _ _ hbq]);rfl
 cases ha
theorem Eu {P:g7} {tt:Table} {key q:Nat} {o:Oper} {st:St} {m:List bx} {v:V} (ha:isApp o=true) (hk:st.mem[key]?=some .hole) (dI:key≠q) (h:o9 P tt key o st=some (m,v)):m[q]?=some .hole↔st.mem[q]?=some .hole:=by
 unfold isApp at ha;split at ha;·rename_i xs ts ho;unfold o9 at h;simp only [ho] at h;split at h;(·split at h;(·rename_i size sO rows La;simp only [aD] at h;cases sO with|none =>simp only [eU,dK] at h;obtain⟨rfl,-⟩:=h;unfold dw;rw [gH (az.1 hk).1,cT dI]|some p =>obtain⟨b,ej⟩:=p;obtain⟨e,rs,hb⟩:=tc La;simp only [eU,dK] at h;obtain⟨rfl,-⟩:=h;by_cases hbq:b=q;(·subst hbq;rw [fi (az.1 hb).1,hb];exact⟨fun h=>(by cases h),fun h=>(by cases h)⟩);rw [cT hbq]);cases h);cases h
 cases ha
theorem BQ {o:Oper} {p:Pl} (hp:p.cls = .a) (hb:s9 o=false) {st:St} {v:V} {m:List bx} (h:mE P tt all base o p st v m) :
  (m=st.mem/\∀ mem,mE P tt all base o p { st with mem:=mem } v mem) \/
  (st.mem[base+p.key]?=some .hole/\∃ cs,m=st.mem.set (base+p.key) (.box cs)/\∀ mem:List bx,mem[base+p.key]?=some .hole->mE P tt all base o p { st with mem:=mem } v (mem.set (base+p.key) (.box cs))):=by
 unfold mE at h;split at h;·rename_i hw;rw [hp] at h;obtain⟨h1,B,h2,h3⟩:=h;(have hB:∃ cs,B = .box cs:=by (rcases h2 with h2|⟨-,h2⟩);(·unfold iB at h2;unfold s9 at hb;split at hb;(·rename_i he;rw [he] at h2;dsimp only at h2;split at h2 <;> cases h2;exact⟨_,rfl⟩);(·rename_i he;rw [he] at h2;dsimp only at h2;split at h2 <;> cases h2;exact⟨_,rfl⟩);cases hb);unfold s9 at hb;unfold nF at h2;split at hb;(·rename_i he;rw [he] at h2;exact h2.elim);(·rename_i he;rw [he] at h2;exact h2.elim);cases hb);obtain⟨cs,rfl⟩:=hB;refine .inr ⟨gS.1 h1,cs,h3,fun mem hm=>?_⟩;unfold mE;simp only [hw,hp];refine⟨gS.2 hm,_,?_,rfl⟩;(have e0:iB tt o (base+p.key) { st with mem:=mem }=iB tt o (base+p.key) st:=oj fun x _=>by cases x <;> rfl);rw [e0];(have e1:∀ Q,nF P o (St.eval { st with mem:=mem }) Q=nF P o st.eval Q:=fun Q=>pQ fun x _=>by cases x <;> rfl);rw [e1];exact h2
 ·rename_i hw;refine .inl ⟨h.2,fun mem=>?_⟩;unfold mE;simp only [hw];exact⟨h.1,trivial⟩
 exact h.elim
theorem BR {o:Oper} {p:Pl} (hp:p.cls = .w) {st:St} {v:V} {m:List bx} (h:mE P tt all base o p st v m) :
  (m=st.mem/\∀ mem,mE P tt all base o p { st with mem:=mem } v mem) \/
  (st.mem[base+p.key]?=some .hole/\o9 P tt (base+p.key) o st=some (m,v)/\∀ mem m',mem[base+p.key]?=some .hole->o9 P tt (base+p.key) o { st with mem:=mem }=some (m',v)->mE P tt all base o p { st with mem:=mem } v m'):=by
 unfold mE at h;split at h;·rename_i hw;rw [hp] at h;refine .inr ⟨gS.1 h.1,h.2,fun mem m' h1 h2=>?_⟩;unfold mE;simp only [hw,hp];exact⟨gS.2 h1,h2⟩
 ·rename_i hw;refine .inl ⟨h.2,fun mem=>?_⟩;unfold mE;simp only [hw];exact⟨h.1,trivial⟩
 exact h.elim
theorem St.put_comm (st:St) {x y:Option Tmp} (v u:V) (h:∀ d,x=some d->y≠some d):(st.put x v).put y u=(st.put y u).put x v:=by cases x with|none=>rfl|some d =>cases y with|none=>rfl|some e =>have dI:d≠e:=fun he=>h d rfl (he ▸ rfl);simp [St.put,aq7 _ _ dI]
theorem Ix (st:St) (x:Option Tmp) (v:V) (m:List bx) : { st.put x v with mem:=m }=St.put { st with mem:=m } x v:=by cases x <;> rfl
theorem Lj {x y:Oper} {px py:Pl} (iq:yC all x px y py=true) {st:St} {Q:St->Prop} (h:gQ P tt all base x px st fun st'=>gQ P tt all base y py st' Q) :
  gQ P tt all base y py st fun st'=>gQ P tt all base x px st' Q:=by
 unfold yC at iq;rw [aG,aG,aG] at iq;obtain⟨⟨⟨Q7,hzy⟩,La⟩,pE⟩:=iq;have Q7:px.cls ≠ .z:=by simpa using Q7
 have hzy:py.cls ≠ .z:=by simpa using hzy
 obtain⟨hxy,hdd,hyx⟩:=Oper.apart_spec La;obtain⟨v,m1,h1,h2⟩:=(j3 Q7).1 h;obtain⟨u,m2,h3,h4⟩:=(j3 hzy).1 h2;rw [Nf hxy] at h3;have fin:∀ m1' , mE P tt all base y py st u m1'->mE P tt all base x px { st with mem:=m1' } v m2->gQ P tt all base y py st fun st'=>gQ P tt all base x px st' Q:=fun m1' h5 h6=>by refine (j3 hzy).2 ⟨u,m1',h5,(j3 Q7).2 ⟨v,m2,by rw [Nf hyx];exact h6,?_⟩⟩;(have e1:({ (St.put { st with mem:=m1 } x.dst v) with mem:=m2 }:St).put y.dst u=({ (St.put { st with mem:=m1' } y.dst u) with mem:=m2 }:St).put x.dst v:=by rw [Ix,Ix];exact St.put_comm _ _ _ hdd);rw [<- e1];exact h4
 have back:∀ (m:List bx) (z:Oper) (pz:Pl) (c:V) (m':List bx),mE P tt all base z pz { ({ st with mem:=m }:St) with mem:=st.mem } c m'=mE P tt all base z pz st c m':=fun _ _ _ _ _=>rfl;simp only [ez,aG,beq_iff_eq,bne_iff_ne] at pE;rcases pE with (((((((((((((hn|hn)|⟨hr,KI⟩)|⟨⟨ha,hr⟩,hm⟩)|⟨⟨hr,ha⟩,hm⟩)|⟨⟨ha,ha'⟩,dI⟩)|⟨hb,hy⟩)|⟨hb,hx⟩)|⟨⟨he,hr⟩,hm⟩)|⟨⟨hr,he⟩,hm⟩)|⟨⟨hb,ha⟩,hm⟩)|⟨⟨hb,ha⟩,hm⟩)|⟨⟨⟨⟨hw,La⟩,ha⟩,qX⟩,dI⟩)|⟨⟨⟨⟨hw,La⟩,ha⟩,qX⟩,dI⟩)|⟨⟨he,hm⟩,ha⟩
 ·obtain⟨rfl,-⟩:=yD hn h1 [];exact fin m2 h3 (yD hn h1 m2).2
 ·obtain⟨h5,h6⟩:=yD hn h3 st.mem;dsimp only at h5;subst h5;exact fin st.mem h6 h1
 ·obtain⟨rfl,-⟩:=iJ hr h1 rfl;obtain⟨h5,h6⟩:=iJ KI h3 (mem:=st.mem) rfl;dsimp only at h5;subst h5;exact fin st.mem h6 h1
 ·(rcases oB ha h1 with ⟨rfl,-⟩|⟨B0,B,KV,hv,hh,rfl,-⟩);(·obtain⟨h5,h6⟩:=iJ hr h3 (mem:=st.mem) rfl;dsimp only at h5;subst h5;exact fin st.mem h6 h1);have qg:eN (py.mask.map (base + ·)++py.abs) (st.mem.set (base+px.key) B)=eN (py.mask.map (base + ·)++py.abs) st.mem:=oz (fT _ (dS.2 ⟨_,by simpa using hm,rfl⟩)) hh KV hv;obtain⟨h5,h6⟩:=iJ hr h3 (mem:=st.mem) qg.symm;dsimp only at h5;subst h5;exact fin st.mem h6 h1
 ·obtain⟨rfl,-⟩:=iJ hr h1 rfl;(rcases oB ha h3 with ⟨h5,h6⟩|⟨B0,B,KV,hv,hh,h5,h6⟩);(·dsimp only at h5;subst h5;exact fin st.mem h3 h1);dsimp only at h5 hh;subst h5;have qg:eN (px.mask.map (base + ·)++px.abs) (st.mem.set (base+py.key) B)=eN (px.mask.map (base + ·)++px.abs) st.mem:=oz (fT _ (dS.2 ⟨_,by simpa using hm,rfl⟩)) hh KV hv;exact fin _ h3 (iJ hr h1 qg).2
 ·(rcases oB ha h1 with ⟨rfl,hx⟩|⟨B0,B,KV,hv,hh,rfl,hx⟩);(·exact fin m2 h3 (hx m2));(rcases oB ha' h3 with ⟨h5,h6⟩|⟨B0',B',arL,Bg,KE,h5,h6⟩);(·dsimp only at h5;subst h5;exact fin st.mem (h6 st.mem) h1);dsimp only at h5 KE;subst h5;(have Fz:base+px.key≠base+py.key:=by omega);rw [cT Fz] at KE;have h7:=h6 st.mem KE;have h8:=hx (st.mem.set (base+py.key) B') (by rw [cT (fun e=>Fz e.symm)];exact hh);refine fin _ h7 ?_;rw [aq7 _ _ Fz];exact h8
 ·obtain⟨rfl,h5⟩:=qD hb h1;refine fin m2 h3 (h5 m2 (Er ?_));(rcases hy with ((hy|hy)|⟨hy,ha⟩)|⟨hy,ha⟩);(·rw [(iJ hy h3 rfl).1]);(·rw [(qD hy h3).1]);(·exact Et hy ha h3);exact BP hy ha h3
 ·obtain⟨h5,h6⟩:=qD hb h3;dsimp only at h5;subst h5;refine fin st.mem (h6 st.mem (Er ?_)) h1;(rcases hx with (hx|⟨hx,ha⟩)|⟨hx,ha⟩);(·rw [(iJ hx h1 rfl).1]);(·exact (Et hx ha h1).symm);exact (BP hx ha h1).symm
 ·(rcases Es he h1 with rfl|⟨B0,B,KV,hv,hh,rfl⟩);(·obtain⟨h5,h6⟩:=iJ hr h3 (mem:=st.mem) rfl;dsimp only at h5;subst h5;exact fin st.mem h6 h1);have qg:eN (py.mask.map (base + ·)++py.abs) (st.mem.set px.key B)=eN (py.mask.map (base + ·)++py.abs) st.mem:=oz (gO _ (by simpa using hm)) hh KV hv;obtain⟨h5,h6⟩:=iJ hr h3 (mem:=st.mem) qg.symm;dsimp only at h5;subst h5;exact fin st.mem h6 h1
 ·obtain⟨rfl,-⟩:=iJ hr h1 rfl;(rcases Es he h3 with h5|⟨B0,B,KV,hv,hh,h5⟩);(·dsimp only at h5;subst h5;exact fin st.mem h3 h1);dsimp only at h5 hh;subst h5;have qg:eN (px.mask.map (base + ·)++px.abs) (st.mem.set py.key B)=eN (px.mask.map (base + ·)++px.abs) st.mem:=oz (gO _ (by simpa using hm)) hh KV hv;exact fin _ h3 (iJ hr h1 qg).2
 ·obtain⟨rfl,h5⟩:=qD hb h1;(rcases oB ha h3 with ⟨h6,-⟩|⟨B0,B,KV,hv,hh,h6,-⟩);(·dsimp only at h6;subst h6;exact fin st.mem h3 h1);dsimp only at h6 hh;subst h6;refine fin _ h3 (h5 _ ?_);rw [oz (dS.2 ⟨_,by simpa using hm,rfl⟩) hh KV hv]
 ·obtain⟨h5,h6⟩:=qD hb h3;dsimp only at h5;subst h5;(rcases oB ha h1 with ⟨rfl,-⟩|⟨B0,B,KV,hv,hh,rfl,-⟩);(·exact fin st.mem h3 h1);refine fin st.mem (h6 st.mem ?_) h1;dsimp only;rw [oz (dS.2 ⟨_,by simpa using hm,rfl⟩) hh KV hv]
 ·(have qX:s9 y=false:=by simpa using qX);(have hk:base+px.key≠base+py.key:=by omega);(rcases BQ ha qX h3 with ⟨h5,h6⟩|⟨hq,cs,h5,h6⟩);(·dsimp only at h5;subst h5;exact fin st.mem (h6 st.mem) h1);dsimp only at h5 hq;subst h5;(rcases BR hw h1 with ⟨rfl,h7⟩|⟨hh,h7,h8⟩);(·exact fin _ (h6 _ hq) (h7 _));have hq0:=(Eu La hh hk h7).1 hq;refine fin _ (h6 st.mem hq0) (h8 _ _ (by rw [cT (fun e=>hk e.symm)];exact hh) ?_);rw [Iw La hh hq0 hk,h7];rfl
 ·(have qX:s9 x=false:=by simpa using qX);(have hk:base+py.key≠base+px.key:=by omega);(rcases BQ ha qX h1 with ⟨rfl,h6⟩|⟨hq,cs,rfl,h6⟩);(·exact fin m2 h3 (h6 m2));(rcases BR hw h3 with ⟨h5,h7⟩|⟨hh,h7,h8⟩);(·dsimp only at h5;subst h5;exact fin st.mem (h7 st.mem) h1);dsimp only at hh h7;rw [cT (fun e=>hk e.symm)] at hh;rw [Iw La hh hq hk] at h7;cases h9:o9 P tt (base+py.key) y st with|none=>rw [h9] at h7;cases h7|some r =>obtain⟨m',u'⟩:=r;rw [h9] at h7;simp only [bU,aD,dK] at h7;obtain⟨rfl,rfl⟩:=h7;refine fin m' (h8 st.mem m' hh h9) (h6 m' ((Eu La hh hk h9).2 hq))
 rcases Lh he hm h1 with ⟨rfl,hx⟩|⟨B0,B,hnB,hh,rfl,hx⟩
 ·exact fin m2 h3 (hx m2)
 rcases Lg ha h3 with ⟨h5,h6⟩|⟨B',KE,h5,h6⟩
 ·dsimp only at h5;subst h5;exact fin st.mem (h6 st.mem) h1
 dsimp only at h5 KE;subst h5;have Fz:px.key≠base+py.key:=fun e=>by rw [<- e,fi (az.1 hh).1] at KE;cases KE;cases hnB
 rw [cT Fz] at KE;have h7:=h6 st.mem KE;have h8:=hx (st.mem.set (base+py.key) B') (by rw [cT (fun e=>Fz e.symm)];exact hh);refine fin _ h7 ?_;rw [aq7 _ _ Fz];exact h8
end
end Go.Eng
end
section
namespace Go.Eng
variable [bJ]
open Go.RowKit (Below)
theorem uo {mem:List bx} {size:Nat} {l:Int} {h:Option Int} {x v:V} (hc:cutAt [] size l h x=some v):cutAt mem size l h x=some v:=by
 unfold cutAt at hc ⊢;split at hc;·exact hc
 ·simp [mS] at hc
 cases hc
theorem RU {P:g7} {tt:Table} {mem:List bx} {T:g9} {x v:V} {lo hi:Option V} (hc:Fy P tt [] T x lo hi=some v):Fy P tt mem T x lo hi=some v:=by
 unfold Fy at hc ⊢;split;·exact hc
 rename_i dI;split at hc;·exact absurd rfl (dI _)
 split at hc;·cases hc
 split at hc;·cases hc
 split at hc;·split at hc;(·exact uo hc);split at hc;(·exact uo hc);cases hc
 split at hc;·cases hc
 split at hc;·exact uo hc
 split at hc;·exact uo hc
 cases hc
theorem Pr {tt:Table} {mem:List bx} {T:g9} {p v:V} (h:qs tt [] T p=some v):qs tt mem T p=some v:=by cases p <;> simp [qs,rowOf] at h ⊢;exact h
theorem Lk {tt:Table} {mem:List bx} {T:g9} {p i v:V} (h:oH tt [] T p i=some v):oH tt mem T p i=some v:=by
 unfold oH at h ⊢;split at h;·split at h;(·split at h;(·cases p <;> simp [indexAt,mS] at h ⊢;exact h);cases h);cases h
 cases h
theorem Ll {tt:Table} {mem:List bx} {T:g9} {b o:Nat} {i:V}:oH tt mem T (.ptr b o) i=none:=by
 unfold oH;split;·split;(·split <;> rfl);rfl
 rfl
theorem Lm {P:g7} {tt:Table} {mem:List bx} {T:g9} {p i v:V} (h:(match oH tt [] T p i with|some v=>some v|none=>Bj P tt T p i)=some v):(match oH tt mem T p i with|some v=>some v|none=>Bj P tt T p i)=some v:=by
 split at h;·rename_i u hu;cases h;rw [Lk hu]
 have hp:∃ b o,p = .ptr b o:=by unfold Bj at h;split at h;(·exact⟨_,_,rfl⟩);cases h
 obtain⟨b,o,rfl⟩:=hp;rw [Ll];exact h
theorem Iy {P:g7} {mem:List bx} {T:g9} {m i v:V} {ok:Bool} (h:kR P [] T m i ok=some v):kR P mem T m i ok=some v:=by
 unfold kR at h ⊢;split at h;·split at h;(·split at h;(·rename_i hk;rw [gH hk];unfold qw at h ⊢;split at h;(·simp at h);(·exact h);cases h);cases h);cases h
 cases h
theorem RV {mem:List bx} {it v:V} (h:OQ [] it=some v):OQ mem it=some v:=by
 unfold OQ at h;split at h;·simp at h
 cases h
theorem RW {P:g7} {tt:Table} {mem:List bx} {ts:Array g9} {ty:g9} {xs:List V} {v:V} (h:(match yq [] ts P xs with|some v=>some v|none=>FD P tt ts ty xs)=some v) :
  (match yq mem ts P xs with|some v=>some v|none=>FD P tt ts ty xs)=some v:=by
 by_cases hx:∃ b,xs=[.mp b];·obtain⟨b,rfl⟩:=hx;simp [yq,FD,u3,qa,fq] at h
 have hn:∀ m,yq m ts P xs=none:=fun m=>by unfold yq;split;(·exact absurd ⟨_,rfl⟩ hx);rfl
 rw [hn] at h ⊢;exact h
theorem Ps (st:St) (mem:List bx) (x:Operand):St.eval { st with mem:=mem } x=st.eval x:=by cases x <;> rfl
theorem gq (st:St) (mem:List bx):St.eval { st with mem:=mem }=st.eval:=funext fun x=>Ps st mem x
theorem Pt {P:g7} {mem:List bx} {s d:g9} {x v:V} (h:rY P [] s d x=some v):rY P mem s d x=some v:=by cases x <;> first|exact h|(simp [rY] at h)
theorem WI {P:g7} {tt:Table} {st:St} {o:Oper} {v:V} (h:lM P tt { st with mem:=[] } o=some v):lM P tt st o=some v:=by
 obtain⟨dst,op,type,pos,after,guard⟩:=o;cases op;case load T x=>simp only [lM,gq] at h ⊢;exact Pr h
 case indexAddr T x i=>simp only [lM,gq] at h ⊢;exact Lm h
 case entry it=>simp only [lM,gq] at h ⊢;exact RV h
 case convert s d x=>simp only [lM,gq] at h ⊢;exact Pt h
 case lookup T x i ok=>simp only [lM,gq] at h ⊢;exact Iy h
 case slice T x lo hi mx =>
  cases mx
  ·simp only [lM,gq] at h ⊢;exact RU h
  cases lo <;> cases hi <;> simp only [lM,gq,reduceCtorEq] at h ⊢
  exact h
 case call c =>
  obtain⟨callee,args,ts⟩:=c
  cases callee with
  | builtin b=>cases b <;> first|(simp only [lM,gq] at h ⊢;exact h)|(simp only [lM,gq] at h ⊢;exact RW h)|(simp [lM] at h)
  | _=>simp [lM] at h
 all_goals first|(simp only [lM,gq] at h ⊢;exact h)|(simp [lM] at h)
theorem zO {mem:List bx} {v v':V} (h:fE [] v=some v'):fE mem v=some v'/\kW v=[]:=by
 unfold fE at h;split at h;·exact⟨h,rfl⟩
 ·exact⟨h,rfl⟩
 ·exact⟨h,rfl⟩
 ·exact⟨h,rfl⟩
 ·exact⟨h,rfl⟩
 ·exact⟨h,rfl⟩
 ·simp at h
 ·exact⟨h,rfl⟩
 cases h
theorem wY {mem:List bx}:∀ {vs vs':List V},iO [] vs=some vs'->iO mem vs=some vs'/\vs.flatMap kW=[]
 | [],vs',h=>⟨h,rfl⟩
 | c :: r,vs',h=>by
  simp only [iO] at h ⊢
  split at h
  ·rename_i c' hc
   split at h
   ·rename_i r' hr
    obtain⟨h1,h2⟩:=zO (mem:=mem) hc
    obtain⟨h3,h4⟩:=wY (mem:=mem) hr
    rw [h1,h3]
    exact⟨h,by simp [ag,h2,h4]⟩
   cases h
  cases h
theorem RX {mem:List bx} {v v':V} (h:mT [] v=some v'):mT mem v=some v'/\iz v=[]:=by
 unfold mT at h;split at h;·rename_i cs;split at h;(·rename_i l hl;obtain⟨h1,h2⟩:=wY (mem:=mem) hl;exact⟨by simp only [mT,h1];exact h,h2⟩);cases h
 rename_i dI;obtain⟨h1,h2⟩:=zO (mem:=mem) h;exact⟨by cases v <;> first|exact h1|exact absurd rfl (dI _),by cases v <;> first|exact h2|exact absurd rfl (dI _)⟩
theorem wZ {mem:List bx}:∀ {vs vs':List V},jj [] vs=some vs'->jj mem vs=some vs'/\vs.flatMap iz=[]
 | [],vs',h=>⟨h,rfl⟩
 | c :: r,vs',h=>by
  simp only [jj] at h ⊢
  split at h
  ·rename_i c' hc
   split at h
   ·rename_i r' hr
    obtain⟨h1,h2⟩:=RX (mem:=mem) hc
    obtain⟨h3,h4⟩:=wZ (mem:=mem) hr
    rw [h1,h3]
    exact⟨h,by simp [ag,h2,h4]⟩
   cases h
  cases h
theorem r7 {v v':V} (h:fE [] v=some v') {E:Env} {x:Value} (hr:df E v x):df E v' x:=by
 unfold fE at h;split at h;·cases h;exact hr
 ·cases h;exact wK hr
 ·cases h;exact hr
 ·cases h;cases hr with|full _ _ _ h=>exact h
 ·cases h;exact hr
 ·cases h;exact hr
 ·simp at h
 ·cases h;cases hr with|jh _ f _ _ xs ys hx hy h1 h2 =>(have e1:xs = #[]:=by simpa using hx.symm);(have e2:ys = #[]:=by simpa using hy.symm);subst e1;subst e2;exact .sc _ _
 cases h
theorem qE {E:Env}:∀ {vs vs':List V} {xs:List Value},iO [] vs=some vs'->dh E vs xs->dh E vs' xs
 | [],vs',xs,h,hr=>by cases h;exact hr
 | c :: r,vs',xs,h,hr=>by
  obtain⟨x,ys,rfl,h1,h2⟩:=hr.of_cons
  simp only [iO] at h
  split at h
  ·rename_i c' hc
   split at h
   ·rename_i r' KI
    cases h
    exact .cons (r7 hc h1) (qE KI h2)
   cases h
  cases h
theorem Gd {v v':V} (h:mT [] v=some v') {E:Env} {x:Value} (hr:df E v x):df E v' x:=by
 unfold mT at h;split at h;·rename_i cs;split at h;(·rename_i l hl;cases h;cases hr with|agg _ _ xs hlen hh =>have:=qE hl (E:=E) (xs:=xs.toList) ⟨by simpa using hlen,fun i c x hc hx=>hh i c x hc (by simpa using hx)⟩;exact .agg _ _ _ (by simpa using this.1) fun i c x hc hx=>this.2 i c x hc (by simpa using hx));cases h
 exact r7 h hr
theorem w9 {E:Env}:∀ {vs vs':List V} {xs:List Value},jj [] vs=some vs'->dh E vs xs->dh E vs' xs
 | [],vs',xs,h,hr=>by cases h;exact hr
 | c :: r,vs',xs,h,hr=>by
  obtain⟨x,ys,rfl,h1,h2⟩:=hr.of_cons
  simp only [jj] at h
  split at h
  ·rename_i c' hc
   split at h
   ·rename_i r' KI
    cases h
    exact .cons (Gd hc h1) (w9 KI h2)
   cases h
  cases h
theorem xb (mem:List bx) (r:V):iP mem [] r=mem:=by unfold iP;split <;> rfl
theorem BG.hole {P:g7} {f:FuncId} {vs vs':List V} {e:Nat} {rs:List V} (hp:jj [] vs=some vs') (h:BG P f vs' e rs) {mem:List bx} {key:Nat} (fK:mem[key]?=some .hole) :
  bK P f vs mem (.ms key 0 0 rs.length) (mem.set key (.rows 0 e rs)):=by
 obtain⟨v0,h⟩:=h;refine⟨h.1,fun E w xs hs hx=>?_⟩;obtain⟨YW,hk⟩:=wZ (mem:=mem) hp;have h1:=mU hs (keys:=[]) hx YW (by rw [hk];simp);have hE:(E.qW w []).pure=⟨E.F,fun _ _=>none,E.gl⟩:=by refine Env.OO (funext fun ad=>?_) rfl;simp only [Env.pure,Env.qW];cases hh:E.F ad <;> simp
 rw [hE] at h1;have yE:key<mem.length:=(az.1 fK).1;have fe:∀ v,E.cE key v=none:=hs.mem key _ fK;have rb:dt ⟨E.F,fun _ _=>none,E.gl⟩ w { tmps := #[],defers:=[] } { fr:=[],mem:=[] } := ⟨hs.F,(fun k v g e c h=>by cases h),(fun k B h=>by simp at h),(fun k _ v=>rfl),(fun k B h=>by simp at h),(fun k k' v v' g e c e' c' h=>by cases h),.nil _⟩;refine (h.2 _ w xs rb h1).mono ?_;rintro en w' ⟨E',x,rfl,gM,qo,hr⟩;have qc:∀ k v g e c,E'.cE k v=some (g,e,c)->w.heap.size<=g:=fun k v g e c hb=>by (rcases gM.cE _ _ _ _ _ hb with ⟨_,_,_,_,h⟩|h);(·cases h);exact h
 have hold:∀ b,b<w.heap.size->w'.heap[b]?=w.heap[b]?:=fun b hb=>gM.heap b hb fun _ _ _ _ h=>by cases h
 have hFo:∀ ad y,E'.F ad=some y->E.F ad=some y\/w.heap.size<=ad.block:=fun ad y hy=>by (rcases gM.F _ _ hy with h|h|⟨_,_,_,_,h⟩);(·exact .inl h);(·exact .inr h);cases h
 have Pu:(⟨E'.F,fun k v=>if k=key then (if v=0 then E'.cE 0 v0 else none) else E.cE k v,E'.gl⟩:Env).cE key 0=E'.cE 0 v0:=by simp
 have abG:∀ v,v≠0->(⟨E'.F,fun k v=>if k=key then (if v=0 then E'.cE 0 v0 else none) else E.cE k v,E'.gl⟩:Env).cE key v=none:=fun v hv=>by simp [hv]
 have qu:∀ k v,k≠key->(⟨E'.F,fun k v=>if k=key then (if v=0 then E'.cE 0 v0 else none) else E.cE k v,E'.gl⟩:Env).cE k v=E.cE k v:=fun k v hk=>g5 hk;generalize Y1:(⟨E'.F,fun k v=>if k=key then (if v=0 then E'.cE 0 v0 else none) else E.cE k v,E'.gl⟩:Env)=E2 at Pu abG qu;have j7:E2.F=E'.F:=by rw [<- Y1]
 have Eh:E2.pure=E'.pure:=Env.OO j7 rfl;have Ng:∀ v t,E2.cE key v=some t->v=0/\E'.cE 0 v0=some t:=fun v t ht=>by by_cases hv:v=0;(·subst hv;exact⟨rfl,Pu ▸ ht⟩);rw [abG v hv] at ht;cases ht
 have hle:E.le E2:=⟨fun ad y hy=>by rw [j7];exact gM.le.F _ _ hy,fun k v t hk=>by by_cases ga:k=key;(·subst ga;rw [fe v] at hk;cases hk);rw [qu k v ga];exact hk⟩;refine⟨E2,x,rfl,⟨hle,fun k v g e c hk=>?_,fun ad y hy=>?_,gM.os,gM.tape,gM.output,gM.size,fun b hb _=>hold b hb⟩,⟨fun ad y hy=>qo.F _ _ (by rw [<- j7];exact hy),fun k v g e c hk=>?_,fun k B hk=>?_,fun k hk v=>?_,fun k B hk v hv=>?_,fun k k' v v' g e1 c1 e2 c2 h5 h6=>?_,.nil _⟩,?_⟩;·by_cases ga:k=key;(·subst ga;obtain⟨-,h⟩:=Ng _ _ hk;exact .inr (qc _ _ _ _ _ h));rw [qu k v ga] at hk;exact .inl ⟨k,v,e,c,hk⟩
 ·rw [j7] at hy;(rcases hFo ad y hy with h|h);(·exact .inl h);exact .inr (.inl h)
 ·by_cases ga:k=key;(·subst ga;obtain⟨-,h⟩:=Ng _ _ hk;exact qo.lt _ _ _ _ _ h);rw [qu k v ga] at hk;have:=hs.lt _ _ _ _ _ hk;have:=gM.size;omega
 ·rw [cf] at hk;by_cases ga:key=k;(·subst ga;simp only [if_true,yE] at hk;cases hk;have h0:=qo.mem 0 _ rfl;(rcases h0 with ⟨h1,h2⟩|⟨g,T,ys,c,h1,h2,h3,h4,h5,h6⟩);(·exact .inl ⟨h1,by rw [Pu];exact h2⟩);exact .inr ⟨g,T,ys,c,by rw [Pu];exact h1,h2,h3,h4,by rw [Eh];exact h5,fun o=>by rw [j7];exact h6 o⟩);rw [g5 ga] at hk;refine (hs.mem k B hk).mono hle (fun v hv=>by rw [qu k v (fun e=>ga e.symm)];exact hv) (fun g e c hb=>hold g (hs.lt _ _ _ _ _ hb)) fun g e c o hb hn=>?_;rw [j7];cases hy:E'.F ⟨g,o,none⟩ with|none=>rfl|some y =>(rcases hFo _ y hy with h|h);(·rw [hn] at h;cases h);have:=hs.lt _ _ _ _ _ hb;simp at h;omega
 ·dsimp only at hk;rw [avK] at hk;rw [qu k v (by omega)];exact hs.top k (by dsimp only;omega) v
 ·rw [cf] at hk;by_cases ga:key=k;(·subst ga;simp only [if_true,yE] at hk;cases hk;exact abG v (by simp [bx.ej] at hv;omega));rw [g5 ga] at hk;rw [qu k v (fun e=>ga e.symm)];exact hs.ej k B hk v hv
 ·by_cases gW:k=key <;> by_cases kh:k'=key;(·rw [gW,kh]);(·subst gW;obtain⟨-,h⟩:=Ng _ _ h5;rw [qu k' _ kh] at h6;have:=hs.lt _ _ _ _ _ h6;have:=qc _ _ _ _ _ h;omega);(·subst kh;obtain⟨-,h⟩:=Ng _ _ h6;rw [qu k _ gW] at h5;have:=hs.lt _ _ _ _ _ h5;have:=qc _ _ _ _ _ h;omega);rw [qu k _ gW] at h5;rw [qu k' _ kh] at h6;exact hs.apart _ _ _ _ _ _ _ _ _ h5 h6
 rcases FT hr with ⟨h0,rfl⟩|⟨g,e,c,aa,cap,rfl,hb,hl,h0,hc⟩
 ·rw [h0];exact .jr _ _ _ _
 exact .ms _ _ _ _ _ g e c _ _ (by rw [Pu];exact hb) hl h0 hc
theorem dt.Iz {E:Env} {w:World} {a:Act} {st:St} (hs:dt E w a st) {xs:Array Value} {rs:List V} {e c:Nat} (T:g9) (hl:rs.length<=c) (hr:mR E.pure e rs (fun o=>xs[o]?)) :
  ∃ E',dt E' (w.alloc (.cells xs T (0,0))) a st/\iF E w E' (w.alloc (.cells xs T (0,0)))/\df E' (.slice rs) (.slice (some ⟨w.heap.size,0,none⟩) rs.length c):=by
 have qz:∀ o,(w.alloc (.cells xs T (0,0))).cell? ⟨w.heap.size,o,none⟩=xs[o]?:=fun o=>og (heap_alloc_new w _) o;have hle:E.le ⟨fun ad=>match E.F ad with|some x=>some x|none=>if ad.block=w.heap.size/\ad.spot=none then xs[ad.off]? else none,E.cE,E.gl.mono fun ad x h=>by simp only [h]⟩:=⟨fun ad x h=>by dsimp only;rw [h],fun _ _ _ h=>h⟩;refine⟨⟨fun ad=>match E.F ad with|some x=>some x|none=>if ad.block=w.heap.size/\ad.spot=none then xs[ad.off]? else none,E.cE,E.gl.mono fun ad x h=>by simp only [h]⟩,⟨fun ad x hx=>?_,fun k v g e c h=>?_,fun k B hB=>?_,hs.top,hs.ej,hs.apart,hs.fr.mono hle⟩,⟨hle,fun k v g e c h=>.inl ⟨k,v,e,c,h⟩,fun ad x hx=>?_,rfl,rfl,rfl,by simp,fun b hb _=>eB w _ b hb⟩,?_⟩;·dsimp only at hx;split at hx;(·rename_i y hy;cases hx;rw [World.cell?_alloc_lt w _ ad (World.block_lt_of_cell? w ad (hs.F ad _ hy))];exact hs.F ad _ hy);split at hx;(·rename_i hc;obtain⟨b,o,el⟩:=ad;obtain⟨rfl,rfl⟩:=hc;rw [qz];exact hx);cases hx
 ·have:=hs.lt _ _ _ _ _ h;simp;omega
 ·refine (hs.mem k B hB).mono hle (fun v h=>h) (fun g e' c' hb=>eB w _ g (hs.lt _ _ _ _ _ hb)) fun g e c o hb hn=>?_;dsimp only;rw [hn];have:=hs.lt _ _ _ _ _ hb;simp;intro h;omega
 ·dsimp only at hx;split at hx;(·rename_i y hy;cases hx;exact .inl hy);split at hx;(·rename_i hc;exact .inr (.inl (by rw [hc.1];exact aA _)));cases hx
 have hn:∀ o,E.F ⟨w.heap.size,o,none⟩=none:=fun o=>by cases hx:E.F ⟨w.heap.size,o,none⟩ with|none=>rfl|some x=>have:=World.block_lt_of_cell? w _ (hs.F _ _ hx);simp at this
 refine .slice _ rs _ c e ⟨w.heap.size,0,none⟩ (fun i j=>(xs[i*e+j]?).getD undef) (fun _=>rfl) hl (fun i row hi=>(hr i row hi).1) (fun i row j cc hi hj=>?_) (fun i row j cc hi hj=>?_) fun i row j cc hi hj=>?_;·obtain⟨x,hx,h1,h2⟩:=(hr i row hi).2 j cc hj;rw [add_lit,dc];simp only [hn,true_and,if_true,and_self];dsimp only at hx;rw [hx];rfl
 ·obtain⟨x,hx,h1,h2⟩:=(hr i row hi).2 j cc hj;dsimp only at hx ⊢;rw [hx];exact h1
 obtain⟨x,hx,h1,h2⟩:=(hr i row hi).2 j cc hj;dsimp only at hx ⊢;rw [hx];exact h2.mono (Env.lG hle)
section
variable {P:g7} {tt:Table} (ht:TT P tt)
include ht
theorem BS {E:Env} {w:World} {a:Act} {st:St} (hs:dt E w a st) {o:Oper} {mem:List bx} {Q:V->Prop} {R:St->Prop} (h:uS P tt o { st with mem:=mem } Q) (hQ:∀ v,Q v->R (st.put o.dst v))
  (ko:∀ v,lM P tt { st with mem:=mem } o=some v->∃ x,(execOp a.eval o).run P w = .ok (.value x) w/\df E v x)
  {ρ:Option Nat} {n:Nat} {next:Act->World->Prop} {Q':Exit->Act->World->Prop} (hn:∀ v w',Ik E w a o.dst R v w'->next (a.put o.dst v) w'):o.wpIn (WF ρ) n P a w next Q':=by
 obtain⟨dst,op,type,pos,after,guard⟩:=o;have gen:∀ (o7:∀ c,op ≠ .defer c),(∀ f xs ts,op ≠ .call { callee:=.value f,args:=xs,argTypes:=ts })->(∀ T ps,op ≠ .build T ps)->(∀ T l ps,op ≠ .buildSlice T l ps)->Oper.wpIn (WF ρ) n P { dst:=dst,op:=op,type:=type,pos:=pos,after:=after,guard:=guard } a w next Q':=by intro o7 h1 h2 h3;(have hv:∃ v,lM P tt { st with mem:=mem } { dst:=dst,op:=op,type:=type,pos:=pos,after:=after,guard:=guard }=some v/\Q v:=by unfold uS at h;split at h;(·rename_i heq;exact absurd heq (h1 _ _ _));unfold Aq at h;dsimp only at h;split at h;(·rename_i v hv;split at hv;(·exact absurd rfl (h2 _ _));(·exact absurd rfl (h3 _ _ _));exact⟨v,hv,h⟩);exact h.elim);obtain⟨v,hv,hq⟩:=hv;obtain⟨x,h4,h5⟩:=ko v hv;exact dG o7 h4 (hn _ _ ⟨E,_,hs.put dst h5,iF.refl E w,hQ _ hq⟩)
 cases op;case defer c=>simp [uS,Aq,lM] at h
 case build T ps =>
  simp only [uS,Aq,gq] at h
  split at h
  ·rename_i v hv
   obtain⟨x,h1,h2⟩:=wQ ht hs hv
   exact dG (by simp) (dN h1) (hn _ _ ⟨E,_,hs.put dst h2,iF.refl E w,hQ _ h⟩)
  exact h.elim
 case buildSlice T len ps =>
  simp only [uS,Aq,gq] at h
  split at h
  ·rename_i v hv
   split at hv
   ·rename_i size rs hl
    cases hv
    obtain⟨Z,e,h1,h2,h3,h4⟩:=FQ ht (fun p _=>hs.eval p.2) hl
    obtain⟨E',h5,h6,h7⟩:=hs.Iz (xs:=Z) (rs:=rs) (c:=len) e (by omega) h4
    rw [h3] at h7
    exact dG (by simp) (jG h1) (hn _ _ ⟨E',_,h5.put dst h7,h6,hQ _ h⟩)
   cases hv
  exact h.elim
 case call c =>
  obtain⟨callee,args,ts⟩:=c
  cases callee with
  | value f =>
   simp only [uS,gq] at h
   split at h
   ·rename_i g vs hg
    obtain⟨vs',r,h1,h2,h3⟩:=h
    obtain⟨h4,h5⟩:=wZ (mem:=st.mem) h1
    obtain⟨ys,h6,h7⟩:=sW (P:=P) (w:=w) (hs.eval f) (hs.qx args) hg
    have hc:zw P g vs st dst R:=by
     rcases h2 with h2|h2
     ·exact .inl ⟨vs',r,h4,h2,by rw [h5,xb];exact hQ _ h3⟩
     refine .inr (.inr (.inr ⟨r,fun E1 w1 xs1 Ig nS=>?_,hQ _ h3⟩))
     obtain⟨x,g1,g2⟩:=h2 E1 w1 xs1 Ig (w9 h1 nS)
     exact⟨x,g1,g2⟩
    rcases zJ hs hc h6 with ⟨h8,h9⟩|⟨v,h8,h9⟩
    ·refine zH (by simp) (f:=g) (xs:=ys) ?_ h9 fun e w' ⟨v,hv,ha⟩=>⟨v,hv,hn _ _ ha⟩
     rw [<- h8,<- h7]
     simp only [execOp,resolve]
    refine dG (by simp) (v:=v) ?_ (hn _ _ h9)
    rw [<- h8,<- h7]
    simp only [execOp,resolve]
   exact h.elim
  | _=>exact gen (by simp) (by simp) (by simp) (by simp)
 all_goals exact gen (by simp) (by simp) (by simp) (by simp)
omit ht in
theorem xd {mem:List bx} {k:Nat} (h:mem[k]?=some .hole) (B:bx):dw mem k B=mem.set k B:=by unfold dw;rw [gH (az.1 h).1]
theorem IA {all:Array Oper} {base:Nat} {E:Env} {w:World} {a:Act} {st:St} (hs:dt E w a st) {i:Nat} {o:Oper} {p:Pl} {Q:St->Prop} (hi:all[i]?=some o) (h:gQ P tt all base o p st Q)
  {ρ:Option Nat} {n:Nat} {next:Act->World->Prop} {Q':Exit->Act->World->Prop} (hn:∀ v w',Ik E w a o.dst Q v w'->next (a.put o.dst v) w'):wpOpIn (WF ρ) n P all Q' i next a w:=by
 unfold wpOpIn;rw [hi];dsimp only;unfold gQ at h;split at h;·rename_i hw;rw [gH (jb hs hw)];split at h;(·rw [AQ] at h;exact BS ht hs h (fun _ h=>h) (fun v hv=>uf ht hs (WI hv)) hn);(·rw [AQ] at h;exact BS ht hs h (fun _ h=>h) (fun v hv=>uf ht (hs.eN _) hv) hn);(·obtain⟨hh,h⟩:=h;rw [gS] at hh;split at h;(·rename_i B v hb;refine ib ht hs (key:=base+p.key) (.inl hh) ?_ hn;unfold iB at hb;unfold dv;split at hb;(·rename_i T heq;rw [heq];dsimp only;split at hb;(·rename_i i hi;cases hb;rw [hi];dsimp only;rw [xd hh];exact h);cases hb);(·rename_i heq;rw [heq];dsimp only;split at hb;(·rename_i i hi;cases hb;rw [hi];dsimp only;rw [xd hh];exact h);cases hb);(·rename_i heq;rw [heq];dsimp only;split at hb;(·rename_i i hi;cases hb;rw [hi];dsimp only;rw [xd hh];exact h);cases hb);(·rename_i heq;rw [heq];dsimp only;cases hb;rw [xd hh];exact h);(·rename_i heq;rw [heq];dsimp only;split at hb;(·rename_i i hi;cases hb;rw [hi];dsimp only;rw [xd hh];exact h);cases hb);cases hb);rw [Ep] at h;unfold nF at h;split at h;(·rename_i f xs ts heq;split at h;(·rename_i g vs hg;obtain⟨vs',e,rs,h1,h2,h3⟩:=h;refine ib ht hs (key:=base+p.key) (.inl hh) ?_ hn;unfold dv;rw [heq];dsimp only;split;(·rename_i k hk;rw [hk] at hg;simp [du] at hg);rw [hg];exact .inr (.inl ⟨_,_,h2.hole h1 hh,h3⟩));exact h.elim);exact h.elim);(·obtain⟨hh,h⟩:=h;rw [gS] at hh;split at h;(·rename_i m v hb;refine ib ht hs (key:=base+p.key) (.inl hh) ?_ hn;unfold o9 at hb;unfold dv;split at hb;(·rename_i heq;rw [heq];dsimp only;split at hb;(·rename_i i hi;cases hb;rw [hi];exact h);cases hb);(·rename_i xs ts heq;rw [heq];dsimp only;split at hb;(·rename_i s x Ws;rw [Ws];dsimp only;split at hb;(·rename_i size sO rows ha;rw [ha];simp only [aD] at hb;dsimp only;rw [hb];exact h);cases hb);cases hb);(·rename_i heq;rw [heq];dsimp only;split at hb;(·rename_i i hi;cases hb;rw [hi];exact h);cases hb);(·rename_i heq;rw [heq];dsimp only;split at hb;(·rename_i i hi;cases hb;rw [hi];exact h);cases hb);cases hb);exact h.elim);(·split at h;(·rename_i m hb;refine ib ht hs (key:=st.mem.length) (.inr rfl) ?_ hn;unfold ss at hb;unfold dv;split at hb;(·rename_i heq;rw [heq];dsimp only;split at hb;(·rename_i b off hp;split at hb;(·rename_i hk;subst hk;rw [hp,hb];exact h);cases hb);cases hb);cases hb);exact h.elim);(·split at h;(·rename_i v hb;refine ib ht hs (key:=st.mem.length) (.inr rfl) ?_ hn;replace hb:=Ga hb;have ho:=Pk (P:=P) hb;unfold oP at hb;unfold dv;split at hb;(·rename_i heq;rw [heq];dsimp only;rw [ho];exact h);cases hb);exact h.elim);(·refine ib ht hs (key:=st.mem.length) (.inr rfl) ?_ hn;unfold pO at h;unfold dv;split at h;(·rename_i f xs ts heq;split at h;(·rename_i g vs hg;rw [heq];dsimp only;split;(·rename_i k hk;rw [hk] at hg;simp [du] at hg);rw [hg];(rcases h with ⟨vs',r,h1,h2,h3⟩|⟨r,m',h1,h2⟩);(·exact .inl ⟨vs',r,h1,h2,h3⟩);exact .inr (.inl ⟨r,m',h1,h2⟩));exact h.elim);exact h.elim);refine ib ht hs (key:=st.mem.length) (.inr rfl) ?_ hn;unfold wX at h;unfold dv;split at h;(·rename_i f xs ts heq;split at h;(·rename_i g vs hg;obtain⟨v,B0,B,-,-,h1,⟨h2,-⟩,h3⟩:=h;rw [heq];dsimp only;split;(·rename_i k hk;rw [hk] at hg;simp [du] at hg);rw [hg];exact .inr (.inl ⟨_,_,h2,h3⟩));exact h.elim);split at h;(·rename_i m hb;unfold ss at hb;split at hb;(·rename_i heq;rw [heq];dsimp only;split at hb;(·rename_i b off hp;split at hb;(·rename_i hk;subst hk;rw [hp,hb];exact h);cases hb);cases hb);cases hb);exact h.elim
 ·rename_i hw;rw [g5 (by rw [jb hs hw];simp)];exact⟨fun _ _=>trivial,hn _ _ ⟨E,_,hs.put o.dst (.sc _ _),iF.refl E w,h⟩⟩
 exact h.elim
end
end Go.Eng
end
section
namespace Go.Eng
variable [bJ]
def pl0:Pl:=⟨.n,0,[],[],[]⟩
def oQ (o:Oper) (k:Nat):Bool:=o.after.any fun e=>Region.binds .any e&&e.on==k
def te (all:Array Oper) (y:Oper) (py:Pl):Nat->List Oper->List Pl->Bool
 | _,[],_=>true
 | k,x :: r,px=>(oQ y k||py.Y0.contains k||yC all x (px.headD pl0) y py)&&te all y py (k+1) r px.tail
def Ln (o:Oper) (i:Nat):Bool:=o.after.all fun e=>!Region.binds .any e||decide (e.on<i)
def tf (plan:List Pl) (i:Nat):Pl:=(plan[i]?).getD pl0
def RY (plan:List Pl) (y:Oper) (py:Pl):Bool:=py.Y0.all fun k=>oQ y k||y.after.any fun e=>Region.binds .any e&&(tf plan e.on).Y0.contains k
def AR (all:Array Oper) (plan:List Pl):Nat->List Oper->List Pl->Bool
 | _,[],_=>true
 | i,y :: r,py=>Ln y i&&RY plan y (py.headD pl0)&&te all y (py.headD pl0) 0 (all.toList.take i) plan&&AR all plan (i+1) r py.tail
def xe (all:Array Oper) (plan:List Pl):Bool:=AR all plan 0 all.toList plan
theorem vQ {α:Type} (l:List α) (i:Nat) (d:α):(l.drop i).headD d=(l[i]?).getD d:=by rw [List.headD_eq_head?_getD,List.head?_drop]
theorem xg {all:Array Oper} {y:Oper} {py:Pl} {plan:List Pl}:∀ {l:List Oper} {n:Nat},te all y py n l (plan.drop n)=true->∀ k x,l[k]?=some x->(oQ y (n+k)=true\/(n+k)∈py.Y0)\/yC all x (tf plan (n+k)) y py=true
 | [],n,_,k,x,h=>by simp at h
 | z :: r,n,h,k,x,hk=>by
  simp only [te,aG,ez,vQ] at h
  cases k with
  | zero=>simp at hk;subst hk;simpa [tf] using h.1
  | succ k =>
   have h2:=h.2
   rw [av1] at h2
   have:=xg h2 k x (by simpa using hk)
   rw [eD,VQ 1 k] at this
   exact this
theorem zP {all:Array Oper} {plan:List Pl}:∀ {l:List Oper} {n:Nat},AR all plan n l (plan.drop n)=true->∀ k y,l[k]?=some y->(Ln y (n+k)=true/\RY plan y (tf plan (n+k))=true)/\te all y (tf plan (n+k)) 0 (all.toList.take (n+k)) plan=true
 | [],n,_,k,x,h=>by simp at h
 | z :: r,n,h,k,x,hk=>by
  simp only [AR,aG,vQ] at h
  cases k with
  | zero=>simp at hk;subst hk;exact h.1
  | succ k =>
   have h2:=h.2
   rw [av1] at h2
   have:=zP h2 k x (by simpa using hk)
   rw [eD,VQ 1 k] at this
   exact this
theorem qF {all:Array Oper} {plan:List Pl} (h:xe all plan=true) {i:Nat} {y:Oper} (hi:all[i]?=some y) :
  (∀ e∈y.after,Region.binds .any e=true->e.on<i)/\(∀ k∈(tf plan i).Y0,oQ y k=true\/∃ e∈y.after,Region.binds .any e=true/\k∈(tf plan e.on).Y0)/\∀ k x,k<i->all[k]?=some x->(oQ y k=true\/k∈(tf plan i).Y0)\/yC all x (tf plan k) y (tf plan i)=true:=by
 have:=zP (n:=0) h i y (by simpa using hi);rw [dc] at this;obtain⟨⟨h1,h3⟩,h2⟩:=this;refine⟨fun e he hb=>?_,fun k hk=>?_,fun k x hk hx=>?_⟩;·unfold Ln at h1;have:=Array.all_eq_true_iff_forall_mem.1 h1 e he;simpa [hb] using this
 ·unfold RY at h3;have:=ba.1 h3 k hk;rw [ez] at this;refine this.imp id fun h=>?_;rw [awA] at h;obtain⟨e,he,h⟩:=h;rw [aG] at h;exact⟨e,he,h.1,by simpa using h.2⟩
 have:=xg (n:=0) h2 k x (by rw [hH hk];simpa using hx);rwa [dc] at this
section
variable {P:g7} {tt:Table} {all:Array Oper} {plan:List Pl} {base:Nat}
def IB (P:g7) (tt:Table) (all:Array Oper) (plan:List Pl) (base:Nat):List Nat->St->(St->Prop)->Prop
 | [],st,K=>K st
 | i :: r,st,K=>match all[i]? with
  | some o=>gQ P tt all base o (tf plan i) st fun st'=>IB P tt all plan base r st' K
  | none=>False
theorem ry {o:Oper} {p:Pl} {st:St} {K K':St->Prop} (h:∀ s,K s->K' s) (hh:gQ P tt all base o p st K):gQ P tt all base o p st K':=by
 by_cases hz:p.cls = .z;·unfold gQ at hh ⊢;split at hh;(·rw [hz] at hh ⊢;exact BI hh h);(·exact h _ hh);exact hh.elim
 obtain⟨v,m,h1,h2⟩:=(j3 hz).1 hh;exact (j3 hz).2 ⟨v,m,h1,h _ h2⟩
theorem BT {i:Nat} {o:Oper} (hi:all[i]?=some o) {K:St->Prop} {σ2:List Nat}:∀ {σ1:List Nat} {st:St},(∀ k∈σ1,∀ x,all[k]?=some x->yC all x (tf plan k) o (tf plan i)=true) ->
  IB P tt all plan base (σ1++i :: σ2) st K->gQ P tt all base o (tf plan i) st fun st'=>IB P tt all plan base (σ1++σ2) st' K
 | [],st,_,h=>by simpa [IB,hi] using h
 | k :: r,st,hp,h=>by
  simp only [al,IB] at h ⊢
  cases hk:all[k]? with
  | none=>rw [hk] at h;exact h.elim
  | some x =>
   rw [hk] at h
   dsimp only at h ⊢
   exact Lj (hp k (by simp) x hk) (ry (fun s hs=>BT hi (fun k' mm=>hp k' (by simp [mm])) hs) h)
theorem xh {y:Oper} {k:Nat} {listed:Array Bool} (h:oQ y k=true) (hl:∀ e∈y.after,Region.binds .any e=true->listed.getD e.on false=true):listed.getD k false=true:=by unfold oQ at h;rw [awA] at h;obtain⟨e,he,h⟩:=h;rw [aG,beq_iff_eq] at h;rw [<- h.2];exact hl e he h.1
def RZ (all:Array Oper) (listed:Array Bool):Prop:=∀ (i:Nat) (o:Oper),listed.getD i false=true->all[i]?=some o->∀ e∈o.after,Region.binds .any e=true->listed.getD e.on false=true
theorem Lo (iq:xe all plan=true) {listed:Array Bool} (hc:RZ all listed) (ly:listed.size=all.size):∀ (i:Nat) (y:Oper),all[i]?=some y->(∀ e∈y.after,Region.binds .any e=true->listed.getD e.on false=true)->∀ k∈(tf plan i).Y0,listed.getD k false=true:=by intro i;induction i using Nat.strongRecOn with|_ i ih =>intro y hy hl k hk;(rcases (qF iq hy).2.1 k hk with h|⟨e,he,hb,h⟩);(·exact xh h hl);have h1:=hl e he hb;(have bH:e.on<all.size:=by have:e.on<i:=(qF iq hy).1 e he hb;have:=(dT.1 hy).1;omega);have hz:=cb bH;exact ih e.on ((qF iq hy).1 e he hb) _ hz (hc e.on _ h1 hz) k h
theorem IC (ht:TT P tt) (iq:xe all plan=true) {ρ:Option Nat} {n:Nat} {K:St->Prop} {Q':Exit->Act->World->Prop}:∀ (fuel:Nat) (listed:Array Bool) (σ:List Nat),listed.size=all.size->RZ all listed->σ.length<=fuel->σ.Pairwise (· < ·)->(∀ i,i∈σ↔listed[i]?=some false) ->
  ∀ {E:Env} {w:World} {a:Act} {st:St},dt E w a st->IB P tt all plan base σ st K->(∀ a' w',a'.defers=a.defers->(∃ E' st',dt E' w' a' st'/\iF E w E' w'/\K st')->Q' .normal a' w')->wpAnyIn (WF ρ) n P .any all Q' fuel listed a w:=by
 intro fuel;have done:∀ (listed:Array Bool) (σ:List Nat),listed.size=all.size->σ.Pairwise (· < ·)->(∀ i,i∈σ↔listed[i]?=some false)->Region.ready .any all listed=[]->σ=[]:=by intro listed σ ly Ev nG hr;cases σ with|nil=>rfl|cons i r =>exfalso;have hif:=(nG i).1 (by simp);(have bH:i<all.size:=by rw [<- ly];exact (dT.1 hif).1);(have:i∈Region.ready .any all listed:=by refine mem_ready.2 ⟨by simp [lu,hif],all[i],cb bH,fun e he hb=>?_⟩;have abe:=(qF iq (cb bH)).1 e he hb;(have hs:e.on<listed.size:=by omega);cases hv:listed[e.on] with|true=>simp [lu,cb hs,hv]|false =>have:e.on∈i :: r:=(nG e.on).2 (by rw [cb hs,hv]);(rcases dp.1 this with h|h);(·omega);have:=List.rel_of_pairwise_cons Ev h;omega);rw [hr] at this;cases this
 induction fuel with|zero =>(intro listed σ ly pE hlen Ev nG E w a st hs h hq;have hσ:σ=[]:=b9.1 (by omega);subst hσ;refine⟨?_,hq _ _ rfl ⟨E,st,hs,iF.refl E w,h⟩⟩;cases hr:Region.ready .any all listed with|nil=>rfl|cons j l =>(have hj:j∈Region.ready .any all listed:=by rw [hr];simp);obtain⟨h0,o,ho,-⟩:=mem_ready.1 hj;(have bH:j<listed.size:=by rw [ly];exact (dT.1 ho).1);have:j∈([]:List Nat):=(nG j).2 (by rw [cb bH];congr 1;simpa [lu,cb bH] using h0);cases this)|succ fuel ih =>intro listed σ ly pE hlen Ev nG E w a st hs h hq;refine⟨fun hr=>?_,fun i hi=>?_⟩;(·have:=done listed σ ly Ev nG hr;subst this;exact hq _ _ rfl ⟨E,st,hs,iF.refl E w,h⟩);obtain⟨h0,o,ho,abH⟩:=mem_ready.1 hi;(have bH:i<listed.size:=by rw [ly];exact (dT.1 ho).1);(have hif:listed[i]?=some false:=by rw [cb bH];congr 1;simpa [lu,cb bH] using h0);obtain⟨σ1,σ2,rfl⟩:=List.append_of_mem ((nG i).2 hif);rw [awH] at Ev;obtain⟨rb,sn,abI⟩:=Ev;rw [List.pairwise_cons] at sn;have jH:=BT ho (σ1:=σ1) (fun k hk x hx=>by have hki:k<i:=abI k hk i (by simp);(rcases (qF iq ho).2.2 k x hki hx with hw|hw);(·exfalso;have h1:=hw.elim (fun hw=>xh hw abH) fun hw=>Lo iq pE ly i o ho abH k hw;have h2:=(nG k).1 (by simp [hk]);rw [lu,h2] at h1;cases h1);exact hw) h;refine IA ht hs ho jH ?_;rintro v w' ⟨E',st',h1,h2,h3⟩;refine ih (listed.setIfInBounds i true) (σ1++σ2) (by simpa using ly) ?_ ?_ ?_ ?_ h1 h3 fun a' w'' hd ⟨Dw,K5,h4,h5,h6⟩=>hq _ _ (hd.trans (put_defers _ _ _)) ⟨Dw,K5,h4,h2.trans h5,h6⟩;(·intro j z hj hz e he hb;by_cases hji:j=i;(·subst hji;rw [ho] at hz;cases hz;exact getD_set_true (abH e he hb));rw [getD_set_ne false (fun e=>hji e.symm)] at hj;exact getD_set_true (pE j z hj hz e he hb));(·simp at hlen ⊢;omega);(·rw [awH];exact⟨rb,sn.2,fun x hx y hy=>abI x hx y (by simp [hy])⟩);intro j;rw [Array.getElem?_setIfInBounds];by_cases hji:i=j;(·subst hji;rw [gH rfl];constructor;(·intro hj;(rcases ey.1 hj with h|h);(·have:=abI i h i (by simp);omega);have:=sn.1 i h;omega);split;(·intro h;cases h);intro h;cases h);rw [g5 hji,<- nG j];simp only [ey,dp];constructor;(·rintro (h|h);(·exact .inl h);exact .inr (.inr h));rintro (h|h|h);(·exact .inl h);(·exact absurd h.symm hji);exact .inr h
def runM (P:g7) (tt:Table) (all:Array Oper) (base:Nat):List Oper->List Pl->St->(St->Prop)->Prop
 | [],_,st,K=>K st
 | o :: r,p :: ps,st,K=>gQ P tt all base o p st fun st'=>runM P tt all base r ps st' K
 | _ :: _,[],_,_=>False
@[congr] theorem abJ {base Y2:Nat} {l:List Oper} {ps:List Pl} {st st':St} {K:St->Prop} (hb:base=Y2) (h:st=st'):runM P tt all base l ps st K=runM P tt all Y2 l ps st' K:=by rw [hb,h]
theorem R0 {K:St->Prop}:∀ {l:List Oper} {n:Nat} {st:St},(∀ k x,l[k]?=some x->all[n+k]?=some x)->runM P tt all base l (plan.drop n) st K->IB P tt all plan base (List.range' n l.length) st K
 | [],n,st,_,h=>h
 | o :: r,n,st,cZ,h=>by
  have ho:all[n]?=some o:=cZ 0 o rfl
  rw [af,avI,IB,ho]
  dsimp only
  cases hd:plan.drop n with
  | nil=>rw [hd] at h;exact h.elim
  | cons p ps =>
   rw [hd] at h
   have hp:tf plan n=p:=by rw [tf,<- vQ,hd];rfl
   have Lp:ps=plan.drop (n+1):=by rw [<- av1,hd];rfl
   rw [hp]
   subst Lp
   exact ry (fun s hs=>R0 (fun k x hk=>by have:=cZ (k+1) x (by simpa using hk);rwa [show n+(k+1)=n+1+k by omega] at this) hs) h
theorem dt.aga {E:Env} {w:World} {a:Act} {st:St} (hs:dt E w a st) (m:Nat):dt E w a { st with mem:=st.mem++List.replicate m .hole }:=by
 have get:∀ {k:Nat} {B:bx},(st.mem++List.replicate m .hole)[k]?=some B->st.mem[k]?=some B\/(B=bx.hole/\st.mem.length<=k):=fun {k B} h=>by (rcases bn k st.mem.length with hk|hk);(·rw [bz hk] at h;exact .inl h);rw [bm hk,awh] at h;split at h;(·cases h;exact .inr ⟨rfl,hk⟩);cases h
 refine⟨hs.F,hs.lt,fun k B hk=>?_,fun k hk=>hs.top k (by simp at hk;omega),fun k B hk v hv=>?_,hs.apart,hs.fr⟩;·(rcases get hk with h|⟨rfl,ga⟩);(·exact hs.mem k B h);exact fun v=>hs.top k ga v
 rcases get hk with h|⟨rfl,ga⟩
 ·exact hs.ej k B h v hv
 exact hs.top k ga v
theorem qG (ht:TT P tt) (hm:P.follows .mixedOrders=true) {ρ:Option Nat} {n0:Nat} {st:St} {Q:Exit->St->Prop} (plan:List Pl) (m:Nat) {id:Nat} {ops:Array Oper} (iq:xe ops plan=true)
  (h:runM P tt ops st.mem.length ops.toList plan { st with mem:=st.mem++List.replicate m .hole } (Q .normal)):fc P ρ n0 (.region id ops true) st Q:=fun E0 w0 h0 E w a he hs qg=>by
 refine wpIn_region_any hm ?_
 have hd:dt E { w with drawn:=w.drawn+1 } a { st with mem:=st.mem++List.replicate m .hole }:=(hs.drew (w:=w)).aga m
 have hI:=R0 (all:=ops) (plan:=plan) (n:=0) (l:=ops.toList) (fun k x hk=>by rw [dc];simpa using hk) h
 rw [<- avJ] at hI
 refine IC (P:=P) (tt:=tt) ht iq ops.size _ (List.range ops.toList.length) (by simp) (fun j z hj=>by simp [lu,awQ] at hj;split at hj <;> simp at hj) (by simp) (List.pairwise_lt_range) (fun i=>?_) hd hI fun a' w' hdf ⟨E',st',h1,h2,h3⟩=>⟨E',st',h1,(he.trans (iF.drew E w)).trans h2,?_,h3⟩
 ·simp only [api,awQ]
  simp
 rw [hdf];exact (qg.Q6 (iF.drew E w)).Q6 h2
theorem vg (ht:TT P tt) (hm:P.follows .mixedOrders=true) {ρ:Option Nat} {n0:Nat} {st:St} {Q:Exit->St->Prop} (plan:List Pl) (m:Nat) {id:Nat} {ops:Array Oper} {y:Code} (iq:xe ops plan=true)
  (h:∀ K:St->Prop,(∀ st',fc P ρ n0 y st' Q->K st')->runM P tt ops st.mem.length ops.toList plan { st with mem:=st.mem++List.replicate m .hole } K):fc P ρ n0 (.seq (.region id ops true) y) st Q :=
 bS (qG ht hm plan m iq (h (fun st'=>fc P ρ n0 y st' Q) fun _ h=>h))
theorem BU (ht:TT P tt) (hm:P.follows .mixedOrders=true) {ρ:Option Nat} {n0:Nat} {st:St} {Q:Exit->St->Prop} (plan:List Pl) (m:Nat) {id:Nat} {ops:Array Oper} (iq:xe ops plan=true)
  (h:∀ K:St->Prop,(∀ st',Q .normal st'->K st')->runM P tt ops st.mem.length ops.toList plan { st with mem:=st.mem++List.replicate m .hole } K):fc P ρ n0 (.region id ops true) st Q :=
 qG ht hm plan m iq (h (Q .normal) fun _ h=>h)
end
end Go.Eng
end
section
namespace Go.Eng
variable [bJ]
open Go.RowKit (Below)
def om:bx->Bool
 | .rows _ _ _=>true
 | .sF _ _ _=>true
 | .dead=>true
 | .hole=>true
 | _=>false
theorem bK.live {P:g7} {f:FuncId} {vs vs':List V} {b v s l:Nat} {b7:List bx} (hp:jj [] vs=some vs') (h:bK P f vs' [] (.ms b v s l) b7) (hm:b7.all om=true) (mem:List bx) :
  bK P f vs mem (.ms (mem.length+b) v s l) (mem++b7):=by
 refine⟨h.1,fun E w xs hs hx=>?_⟩;obtain⟨YW,hk⟩:=wZ (mem:=mem) hp;have h1:=mU hs (keys:=[]) hx YW (by rw [hk];simp);have hE:(E.qW w []).pure=⟨E.F,fun _ _=>none,E.gl⟩:=by refine Env.OO (funext fun ad=>?_) rfl;simp only [Env.pure,Env.qW];cases hh:E.F ad <;> simp
 rw [hE] at h1;have rb:dt ⟨E.F,fun _ _=>none,E.gl⟩ w { tmps := #[],defers:=[] } { fr:=[],mem:=[] } := ⟨hs.F,(fun k v g e c h=>by cases h),(fun k B h=>by simp at h),(fun k _ v=>rfl),(fun k B h=>by simp at h),(fun k k' v v' g e c e' c' h=>by cases h),.nil _⟩;refine (h.2 _ w xs rb h1).mono ?_;rintro en w' ⟨E',x,rfl,gM,qo,hr⟩;have qc:∀ k v g e c,E'.cE k v=some (g,e,c)->w.heap.size<=g:=fun k v g e c hb=>by (rcases gM.cE _ _ _ _ _ hb with ⟨_,_,_,_,h⟩|h);(·cases h);exact h
 have hold:∀ b,b<w.heap.size->w'.heap[b]?=w.heap[b]?:=fun b hb=>gM.heap b hb fun _ _ _ _ h=>by cases h
 have hFo:∀ ad y,E'.F ad=some y->E.F ad=some y\/w.heap.size<=ad.block:=fun ad y hy=>by (rcases gM.F _ _ hy with h|h|⟨_,_,_,_,h⟩);(·exact .inl h);(·exact .inr h);cases h
 have qu:∀ k v,k<mem.length->(⟨E'.F,fun k v=>if k<mem.length then E.cE k v else E'.cE (k-mem.length) v,E'.gl⟩:Env).cE k v=E.cE k v:=fun k v hk=>gH hk;have vG:∀ k v,mem.length<=k->(⟨E'.F,fun k v=>if k<mem.length then E.cE k v else E'.cE (k-mem.length) v,E'.gl⟩:Env).cE k v=E'.cE (k-mem.length) v:=fun k v hk=>g5 (by omega);generalize Y1:(⟨E'.F,fun k v=>if k<mem.length then E.cE k v else E'.cE (k-mem.length) v,E'.gl⟩:Env)=E2 at qu vG;have j7:E2.F=E'.F:=by rw [<- Y1]
 have Eh:E2.pure=E'.pure:=Env.OO j7 rfl;have hle:E.le E2:=⟨fun ad y hy=>by rw [j7];exact gM.le.F _ _ hy,fun k v t hk=>by (rcases bn k mem.length with ga|ga);(·rw [qu k v ga];exact hk);rw [hs.top k ga v] at hk;cases hk⟩;have get:∀ {k:Nat} {B:bx},(mem++b7)[k]?=some B->(k<mem.length/\mem[k]?=some B)\/(mem.length<=k/\b7[k-mem.length]?=some B):=fun {k B} h=>by (rcases bn k mem.length with hk|hk);(·rw [bz hk] at h;exact .inl ⟨hk,h⟩);rw [bm hk] at h;exact .inr ⟨hk,h⟩
 refine⟨E2,x,rfl,⟨hle,fun k v g e c hk=>?_,fun ad y hy=>?_,gM.os,gM.tape,gM.output,gM.size,fun b hb _=>hold b hb⟩,⟨fun ad y hy=>qo.F _ _ (by rw [<- j7];exact hy),fun k v g e c hk=>?_,fun k B hk=>?_,fun k hk v=>?_,fun k B hk v hv=>?_,fun k k' v v' g e1 c1 e2 c2 h5 h6=>?_,.nil _⟩,?_⟩;·(rcases bn k mem.length with ga|ga);(·rw [qu k v ga] at hk;exact .inl ⟨k,v,e,c,hk⟩);rw [vG k v ga] at hk;exact .inr (qc _ _ _ _ _ hk)
 ·rw [j7] at hy;(rcases hFo ad y hy with h|h);(·exact .inl h);exact .inr (.inl h)
 ·(rcases bn k mem.length with ga|ga);(·rw [qu k v ga] at hk;have:=hs.lt _ _ _ _ _ hk;have:=gM.size;omega);rw [vG k v ga] at hk;exact qo.lt _ _ _ _ _ hk
 ·(rcases get hk with ⟨ga,hB⟩|⟨ga,hB⟩);(·refine (hs.mem k B hB).mono hle (fun v hv=>by rw [qu k v ga];exact hv) (fun g e c hb=>hold g (hs.lt _ _ _ _ _ hb)) fun g e c o hb hn=>?_;rw [j7];cases hy:E'.F ⟨g,o,none⟩ with|none=>rfl|some y =>(rcases hFo _ y hy with h|h);(·rw [hn] at h;cases h);have:=hs.lt _ _ _ _ _ hb;simp at h;omega);have hl:=ba.1 hm B (aw hB);have h0:=qo.mem _ B hB;cases B with|hole=>(exact fun v=>by rw [vG k v ga];exact h0 v)|dead=>trivial|box cs=>simp [om] at hl|loop s p fr ps a b=>simp [om] at hl|map dU clock=>simp [om] at hl|jX m since seen last=>simp [om] at hl|ox T kb v l=>simp [om] at hl|pq T v O=>simp [om] at hl|n9 s pos=>simp [om] at hl|oG=>simp [om] at hl|rows v e rs =>((rcases h0 with ⟨h1,h2⟩|⟨g,T,ys,c,h1,h2,h3,h4,h5,h6⟩);(·exact .inl ⟨h1,by rw [vG k v ga];exact h2⟩);exact .inr ⟨g,T,ys,c,by rw [vG k v ga];exact h1,h2,h3,h4,by rw [Eh];exact h5,fun o=>by rw [j7];exact h6 o⟩)|sF v e rs =>(rcases h0 with ⟨h1,h2⟩|⟨g,c,h1,h2,h3⟩);(·exact .inl ⟨h1,by rw [vG k v ga];exact h2⟩);exact .inr ⟨g,c,by rw [vG k v ga];exact h1,h2,by rw [Eh,j7];exact h3⟩
 ·dsimp only at hk;simp only [ab] at hk;rw [vG k v (by omega)];exact qo.top _ (by dsimp only;omega) v
 ·(rcases get hk with ⟨ga,hB⟩|⟨ga,hB⟩);(·rw [qu k v ga];exact hs.ej k B hB v hv);rw [vG k v ga];exact qo.ej _ B hB v hv
 ·(rcases bn k mem.length with gW|gW <;> rcases bn k' mem.length with kh|kh);(·rw [qu k _ gW] at h5;rw [qu k' _ kh] at h6;exact hs.apart _ _ _ _ _ _ _ _ _ h5 h6);(·rw [qu k _ gW] at h5;rw [vG k' _ kh] at h6;have:=hs.lt _ _ _ _ _ h5;have:=qc _ _ _ _ _ h6;omega);(·rw [vG k _ gW] at h5;rw [qu k' _ kh] at h6;have:=hs.lt _ _ _ _ _ h6;have:=qc _ _ _ _ _ h5;omega);rw [vG k _ gW] at h5;rw [vG k' _ kh] at h6;have:=qo.apart _ _ _ _ _ _ _ _ _ h5 h6;omega
 cases hr with|ms _ b v s l g e c a cap hb hl h0 hc=>exact .ms _ _ _ _ _ g e c _ _ (by rw [vG _ v (by omega),eC];exact hb) hl h0 hc|jr=>exact .jr _ _ _ _
theorem dt.ID {E:Env} {w:World} {a:Act} {st:St} (hs:dt E w a st) (v e:Nat):dt E w a { st with mem:=st.mem++[.rows v e []] }:=by
 have get:∀ {k:Nat} {B:bx},(st.mem++[bx.rows v e []])[k]?=some B->st.mem[k]?=some B\/(B=bx.rows v e []/\st.mem.length<=k):=fun {k B} h=>by (rcases bn k st.mem.length with hk|hk);(·rw [bz hk] at h;exact .inl h);rw [bm hk] at h;cases ga:k-st.mem.length with|zero=>rw [ga] at h;cases h;exact .inr ⟨rfl,hk⟩|succ j=>rw [ga] at h;cases h
 refine⟨hs.F,hs.lt,fun k B hk=>?_,fun k hk=>hs.top k (by simp at hk;omega),fun k B hk v hv=>?_,hs.apart,hs.fr⟩;·(rcases get hk with h|⟨rfl,ga⟩);(·exact hs.mem k B h);exact .inl ⟨rfl,hs.top k ga v⟩
 rcases get hk with h|⟨rfl,ga⟩
 ·exact hs.ej k B h v hv
 exact hs.top k ga v
theorem dt.R1 {E:Env} {w:World} {a:Act} {st:St} (hs:dt E w a st) {i:Nat} (b v:Nat) (h:st.fr[i]?=some (.sc (.slice none 0 0))):dt E w a { st with fr:=st.fr.set i (.ms b v 0 0) }:=hs.Wv h
theorem Pv {P:g7} {ρ:Option Nat} {n0:Nat} {c:Code} {st:St} {Q:Exit->St->Prop} (i v e:Nat) (h0:st.fr[i]?=some (.sc (.slice none 0 0))) (h:fc P ρ n0 c { fr:=st.fr.set i (.ms st.mem.length v 0 0),mem:=st.mem++[.rows v e []] } Q):fc P ρ n0 c st Q :=
 sY (fun E w a hs=>(hs.R1 (i:=i) st.mem.length v h0).ID v e) h
end Go.Eng
end
section
namespace Go.Eng
variable [bJ]
open Go.RowKit (Below)
theorem BV {E E':Env} {w w':World} {mem b7 l:List bx} (hs:dt E w { tmps := #[],defers:=[] } { fr:=[],mem:=mem++l }) (WJ:iF (E.cut mem.length) w E' w') (K8:dt E' w' { tmps := #[],defers:=[] } { fr:=[],mem:=b7 })
  (hlen:b7.length=mem.length) (hb:b7.all (a6 mem.length)=true):∃ E2,iF E w E2 w'/\dt E2 w' { tmps := #[],defers:=[] } { fr:=[],mem:=b7++l }/\(E'.cut mem.length).le E2:=by
 have rb:=K8.cut (n:=mem.length) rfl (by rw [b8 (by dsimp only;omega)];exact hb);rw [b8 (by dsimp only;omega)] at rb;dsimp only at rb;have IE:∀ k,mem.length<=k->∀ v,(E.cut mem.length).cE k v=none:=fun k hk v=>g5 (by omega);have gM:iF (E.cut mem.length) w (E'.cut mem.length) w':=WJ.cut IE;have pY:∀ k v t,(E.cut mem.length).cE k v=some t->k<mem.length/\E.cE k v=some t:=fun k v t h=>by (rcases bn k mem.length with hk|hk);(·exact⟨hk,(gH hk).symm.trans h⟩);rw [IE k hk] at h;cases h
 have agc:∀ k v t,(E'.cut mem.length).cE k v=some t->k<mem.length:=fun k v t h=>by (rcases bn k mem.length with hk|hk);(·exact hk);have h0:(E'.cut mem.length).cE k v=none:=g5 (by omega);rw [h0] at h;cases h
 generalize arO:E'.cut mem.length=Dw at rb gM agc;have qu:∀ k v,k<mem.length->(⟨Dw.F,fun k v=>if k<mem.length then Dw.cE k v else E.cE k v,Dw.gl⟩:Env).cE k v=Dw.cE k v:=fun k v hk=>gH hk;have vG:∀ k v,mem.length<=k->(⟨Dw.F,fun k v=>if k<mem.length then Dw.cE k v else E.cE k v,Dw.gl⟩:Env).cE k v=E.cE k v:=fun k v hk=>g5 (by omega);generalize Y1:(⟨Dw.F,fun k v=>if k<mem.length then Dw.cE k v else E.cE k v,Dw.gl⟩:Env)=E2 at qu vG;have j7:E2.F=Dw.F:=by rw [<- Y1]
 have pE:∀ k v t,k<mem.length->E.cE k v=some t->(E.cut mem.length).cE k v=some t:=fun k v t hk h=>(gH hk).trans h;have hle:E.le E2:=⟨fun ad y hy=>by rw [j7];exact gM.le.F _ _ hy,fun k v t hk=>by (rcases bn k mem.length with ga|ga);(·rw [qu k v ga];exact gM.le.cE _ _ _ (pE _ _ _ ga hk));rw [vG k v ga];exact hk⟩;have agd:Dw.le E2:=⟨fun ad y hy=>by rw [j7];exact hy,fun k v t hk=>by rw [qu k v (agc _ _ _ hk)];exact hk⟩;have BA:∀ k v g e c,mem.length<=k->E.cE k v=some (g,e,c)->∀ k0 v0 e0 c0,(E.cut mem.length).cE k0 v0≠some (g,e0,c0):=fun k v g e c hk hb k0 v0 e0 c0 h=>by obtain⟨h1,h2⟩:=pY _ _ _ h;have:=hs.apart _ _ _ _ _ _ _ _ _ h2 hb;omega
 have get:∀ {k:Nat} {B:bx},(b7++l)[k]?=some B->(k<mem.length/\b7[k]?=some B)\/(mem.length<=k/\(mem++l)[k]?=some B):=fun {k B} h=>by (rcases bn k mem.length with hk|hk);(·rw [bz (by omega)] at h;exact .inl ⟨hk,h⟩);rw [bm (by omega),hlen] at h;exact .inr ⟨hk,by rw [bm hk];exact h⟩
 refine⟨E2,⟨hle,fun k v g e c hk=>?_,fun ad y hy=>?_,gM.os,gM.tape,gM.output,gM.size,fun b hb dI=>gM.heap b hb fun k v e c h=>dI _ _ _ _ (pY _ _ _ h).2⟩,⟨fun ad y hy=>rb.F _ _ (by rw [<- j7];exact hy),fun k v g e c hk=>?_,fun k B hk=>?_,fun k hk v=>?_,fun k B hk v hv=>?_,fun k k' v v' g e1 c1 e2 c2 h5 h6=>?_,.nil _⟩,agd⟩;·(rcases bn k mem.length with ga|ga);(·rw [qu k v ga] at hk;(rcases gM.cE _ _ _ _ _ hk with ⟨k0,v0,e0,c0,h⟩|h);(·exact .inl ⟨_,_,_,_,(pY _ _ _ h).2⟩);exact .inr h);rw [vG k v ga] at hk;exact .inl ⟨_,_,_,_,hk⟩
 ·rw [j7] at hy;(rcases gM.F _ _ hy with h|h|⟨k0,v0,e0,c0,h⟩);(·exact .inl h);(·exact .inr (.inl h));exact .inr (.inr ⟨_,_,_,_,(pY _ _ _ h).2⟩)
 ·(rcases bn k mem.length with ga|ga);(·rw [qu k v ga] at hk;exact rb.lt _ _ _ _ _ hk);rw [vG k v ga] at hk;exact rV (hs.lt _ _ _ _ _ hk) gM.size
 ·(rcases get hk with ⟨ga,hB⟩|⟨ga,hB⟩);(·exact (rb.mem k B hB).mono agd (fun v hv=>by rw [qu k v ga];exact hv) (fun _ _ _ _=>rfl) fun g e c o _ hn=>by rw [j7];exact hn);refine (hs.mem k B hB).mono hle (fun v hv=>by rw [vG k v ga];exact hv) (fun g e c hb=>gM.heap g (hs.lt _ _ _ _ _ hb) fun k0 v0 e0 c0 h=>BA _ _ _ _ _ ga hb _ _ _ _ h) fun g e c o hb hn=>?_;rw [j7];cases hy:Dw.F ⟨g,o,none⟩ with|none=>rfl|some y =>(rcases gM.F _ _ hy with h|h|⟨k0,v0,e0,c0,h⟩);(·have h':E.F ⟨g,o,none⟩=some y:=h;rw [hn] at h';cases h');(·have:=hs.lt _ _ _ _ _ hb;simp at h;omega);exact absurd h (BA _ _ _ _ _ ga hb _ _ _ _)
 ·dsimp only at hk;simp only [ab] at hk;rw [vG k v (by omega)];exact hs.top k (by simp;omega) v
 ·(rcases get hk with ⟨ga,hB⟩|⟨ga,hB⟩);(·rw [qu k v ga];exact rb.ej k B hB v hv);rw [vG k v ga];exact hs.ej k B hB v hv
 have mixed:∀ k k' v v' g e1 c1 e2 c2,k<mem.length->mem.length<=k'->Dw.cE k v=some (g,e1,c1)->E.cE k' v'=some (g,e2,c2)->k=k':=fun k k' v v' g e1 c1 e2 c2 hk mm h h'=>by (rcases gM.cE _ _ _ _ _ h with ⟨k0,v0,e0,c0,h0⟩|h0);(·exact absurd h0 (BA _ _ _ _ _ mm h' _ _ _ _));have:=hs.lt _ _ _ _ _ h';omega
 rcases bn k mem.length with gW|gW <;> rcases bn k' mem.length with kh|kh
 ·rw [qu k _ gW] at h5;rw [qu k' _ kh] at h6;exact rb.apart _ _ _ _ _ _ _ _ _ h5 h6
 ·rw [qu k _ gW] at h5;rw [vG k' _ kh] at h6;exact mixed _ _ _ _ _ _ _ _ _ gW kh h5 h6
 ·rw [vG k _ gW] at h5;rw [qu k' _ kh] at h6;exact (mixed _ _ _ _ _ _ _ _ _ kh gW h6 h5).symm
 rw [vG k _ gW] at h5;rw [vG k' _ kh] at h6;exact hs.apart _ _ _ _ _ _ _ _ _ h5 h6
theorem IF {E:Env} {w:World} {mem l:List bx} (hs:dt E w { tmps := #[],defers:=[] } { fr:=[],mem:=mem++l }) (hb:mem.all (a6 mem.length)=true):dt (E.cut mem.length) w { tmps := #[],defers:=[] } { fr:=[],mem:=mem }:=by have h:=hs.cut (n:=mem.length) rfl (by rw [rW];exact hb);rwa [rW] at h
theorem dh.below {E:Env} {n:Nat} {vs:List V} {xs:List Value} (h:dh E vs xs) (hb:vs.all (aQ n)=true):dh (E.cut n) vs xs :=
 ⟨h.1,fun i v x hv hx=>jc (h.2 i v x hv hx) (ba.1 hb v (aw hv))⟩
theorem bK.frame {P:g7} {f:FuncId} {vs:List V} {r:V} {mem b7:List bx} (h:bK P f vs mem r b7) (hv:vs.all (aQ mem.length)=true) (hm:mem.all (a6 mem.length)=true) (hr:aQ mem.length r=true) (hlen:b7.length=mem.length) (hm':b7.all (a6 mem.length)=true) (l:List bx) :
  bK P f vs (mem++l) r (b7++l):=by refine⟨h.1,fun E w xs hs hx=>?_⟩;refine (h.2 _ w xs (IF hs hm) (hx.below hv)).mono ?_;rintro en w' ⟨E',x,rfl,gM,qo,kV⟩;obtain⟨E2,h1,h2,h3⟩:=BV hs gM qo hlen hm';exact⟨E2,x,rfl,h1,h2,(jc kV hr).mono h3⟩
theorem KJ.frame {P:g7} {k:Nat} {vs:List V} {mem b7:List bx} {b:Bool} (h:KJ P k vs mem b b7) (hk:k<mem.length) (hv:vs.all (aQ mem.length)=true) (hm:mem.all (a6 mem.length)=true) (hlen:b7.length=mem.length) (hm':b7.all (a6 mem.length)=true) (l:List bx) :
  KJ P k vs (mem++l) b (b7++l):=by intro E w xs lp e c hs hx hb;obtain⟨fn,tmps,assign,body,h1,h2⟩:=h _ w xs lp e c (IF hs hm) (hx.below hv) ((gH hk).trans hb);refine⟨fn,tmps,assign,body,h1,h2.mono ?_⟩;rintro en w' ⟨E',rfl,gM,qo⟩;obtain⟨E2,h3,h4,-⟩:=BV hs gM qo hlen hm';exact⟨E2,rfl,h3,h4⟩
mutual
theorem pS {n m:Nat} (h:n<=m):∀ {v:V},aQ n v=true->aQ m v=true
 | .ms _ _ _ _,hv=>by simp [aQ] at hv ⊢;omega
 | .ptr _ _,hv=>by simp [aQ] at hv ⊢;omega
 | .kx _,hv=>by simp [aQ] at hv ⊢;omega
 | .mp _,hv=>by simp [aQ] at hv ⊢;omega
 | .iI _ _ _ _,hv=>by simp [aQ] at hv ⊢;omega
 | .undef,_=>rfl
 | .sc _,_=>rfl
 | .slice _,_=>rfl
 | .fQ _,_=>rfl
 | .gn,_=>rfl
 | .full _,_=>rfl
 | .agg cs,hv=>by simp only [aQ] at hv ⊢;exact nH h hv
 | .fZ cs,hv=>by simp only [aQ] at hv ⊢;exact nH h hv
 | .jh f a b,hv=>by simp only [aQ,aG] at hv ⊢;exact⟨nH h hv.1,nH h hv.2⟩
theorem nH {n m:Nat} (h:n<=m):∀ {l:List V},bC n l=true->bC m l=true
 | [],_=>rfl
 | c :: r,hv=>by simp only [bC,aG] at hv ⊢;exact⟨pS h hv.1,nH h hv.2⟩
end
theorem zQ {n m:Nat} (h:n<=m) {B:bx} (hv:a6 n B=true):a6 m B=true:=by cases B with|box cs=>simp only [a6,ba] at hv ⊢;exact fun x hx=>pS h (hv x hx)|loop a b fr c d e=>simp only [a6,ba] at hv ⊢;exact fun x hx=>pS h (hv x hx)|map dU c=>simp only [a6,ba] at hv ⊢;exact fun x hx=>pS h (hv x hx)|jX m s se l=>simp only [a6,decide_eq_true_eq] at hv ⊢;omega|ox T kb v l=>simp only [a6,decide_eq_true_eq] at hv ⊢;omega|_=>rfl
theorem rz {n m:Nat} (h:n<=m) {l:List bx} (hv:l.all (a6 n)=true):l.all (a6 m)=true:=ba.2 fun x hx=>zQ h (ba.1 hv x hx)
theorem agf:(false==true)=false:=rfl
theorem agh:(true==false)=false:=rfl
theorem WK (mem:List bx) (ts:Array g9) (P:g7) (r:List V):yq mem ts P [.slice r]=none:=rfl
theorem WL (mem:List bx) (ts:Array g9) (P:g7) (b v s l:Nat):yq mem ts P [.ms b v s l]=none:=rfl
theorem WM (mem:List bx) (ts:Array g9) (P:g7) (x:Value):yq mem ts P [.sc x]=none:=rfl
theorem eE {P:g7} {tt:Table} {all:Array Oper} {base:Nat}:∀ (k:Nat) {l:List Oper} {ps:List Pl} {st:St} {K:St->Prop},k<=l.length->k<=ps.length ->
  (∀ K1:St->Prop,(∀ s,runM P tt all base (l.drop k) (ps.drop k) s K->K1 s)->runM P tt all base (l.take k) (ps.take k) st K1)->runM P tt all base l ps st K
 | 0,l,ps,st,K,_,_,h=>by
  have:=h (fun s=>runM P tt all base l ps s K) fun s hs=>hs
  simpa [runM] using this
 | k+1,[],ps,st,K,hl,_,h=>by simp at hl
 | k+1,o :: r,[],st,K,_,hp,h=>by simp at hp
 | k+1,o :: r,p :: ps,st,K,hl,hp,h=>by
  simp only [runM]
  have h1:=h (fun s=>runM P tt all base (r.drop k) (ps.drop k) s K) fun s hs=>hs
  simp only [AH,runM] at h1
  exact ry (fun s hs=>eE k (by simpa using hl) (by simpa using hp) fun K1 l7=>Ew hs l7) h1
where
 Ew {P:g7} {tt:Table} {all:Array Oper} {base:Nat}:∀ {l:List Oper} {ps:List Pl} {st:St} {K K':St->Prop},runM P tt all base l ps st K->(∀ s,K s->K' s)->runM P tt all base l ps st K'
  | [],_,_,_,_,h,hk=>hk _ h
  | o :: r,[],_,_,_,h,_=>by simp [runM] at h
  | o :: r,p :: ps,st,K,K',h,hk=>by
   simp only [runM] at h ⊢
   exact ry (fun s hs=>Ew hs hk) h
end Go.Eng
end
section
namespace Go.Eng
variable [bJ]
theorem tg {α:Type} {l:List α} {t:Nat} {x:α} (h:l[t]?=some x):l.set t x=l:=by
 apply eh;intro i;rw [cf];split;·rename_i hi;subst hi;rw [gH (az.1 h).1,h]
 rfl
section
variable {P:g7} {ρ:Option Nat} {n0:Nat} {Q:Exit->St->Prop} {c:Code} {st:St}
theorem dt.BW {E:Env} {w:World} {a:Act} (hs:dt E w a st) {k t:Nat} {cs:List V} (hk:st.mem[k]?=some (.box cs)) (hp:cs.all mu=true) (h0:st.fr[t]?=some (.ptr k 0)) :
  ∃ E',dt E' w a { fr:=st.fr.set t (.fQ cs),mem:=st.mem.set k .dead }/\iF E w E' w:=by
 obtain⟨g,T,xs,hb,hh,hr,hf⟩:=hs.mem k _ hk;have hF:∀ ad x,E.F ad=some x->(if ad.block=g then w.cell? ad else E.F ad)=some x:=fun ad x h=>by split;(·exact hs.F ad x h);exact h
 obtain⟨E',hE⟩:∃ E':Env,E' = { F:=fun ad=>if ad.block=g then w.cell? ad else E.F ad,cE:=E.cE,gl:=E.gl.mono hF }:=⟨_,rfl⟩;have eF:∀ ad,E'.F ad=if ad.block=g then w.cell? ad else E.F ad:=fun ad=>by rw [hE]
 have eb:E'.cE=E.cE:=by rw [hE]
 have hle:E.le E':=⟨fun ad x h=>by rw [eF];exact hF ad x h,fun _ _ _ h=>by rw [eb];exact h⟩;obtain⟨x,hx,hrx⟩:=hs.fr.get h0;have hxv:x = .pointer (some ⟨g,0,none⟩):=by cases hrx with|ptr _ _ _ g' e c gY=>rw [hb] at gY;cases gY;rfl
 subst hxv;have hpu:=dh.pure hr hp;have kV:df E' (.fQ cs) (.pointer (some ⟨g,0,none⟩)):=by (have h1:∀ j,(Addr.mk g 0 none).add j=⟨g,j,none⟩:=fun j=>by unfold Addr.add;by_cases hj:j=0 <;> simp [hj]);refine .fQ _ _ _ (fun j=>(xs[j]?).getD undef) (fun j c hj=>?_) fun j c hj=>?_;(·obtain⟨y,hy,-⟩:=hpu.get hj;rw [h1,eF,gH rfl,og hh];simp only [dV] at hy;rw [hy];rfl);obtain⟨y,hy,Ri⟩:=hpu.get hj;simp only [dV] at hy;rw [hy];exact Ri.mono (Env.lG hle)
 have AM:dh E' (st.fr.set t (.fQ cs)) a.tmps.toList:=by have:=dh.set (n:=t) (hs.fr.mono hle) kV;rwa [tg hx] at this
 refine⟨E',⟨fun ad y hy=>?_,fun k' v g' e c h=>hs.lt k' v g' e c (by rwa [eb] at h),fun k' B hB=>?_,fun k' mm v=>?_,fun k' B hB v hv=>?_,fun k1 k2 v1 v2 g' e c e' c' q1 q2=>?_,AM⟩,?_⟩;·rw [eF] at hy;split at hy;(·exact hy);exact hs.F ad y hy
 ·rw [cf] at hB;split at hB;(·split at hB;(·cases hB;exact trivial);cases hB);rename_i dI;refine (hs.mem k' B hB).mono hle (fun v h=>by rw [eb];exact h) (fun _ _ _ _=>rfl) fun g' e c o q1 q2=>?_;rw [eF];split;(·rename_i hg;have hg:g'=g:=hg;subst hg;exact absurd (hs.apart _ _ _ _ _ _ _ _ _ hb q1) dI);exact q2
 ·rw [eb];exact hs.top k' (by simpa using mm) v
 ·rw [eb];rw [cf] at hB;split at hB;(·rename_i hke;split at hB;(·cases hB;subst hke;exact hs.ej k _ hk v hv);cases hB);exact hs.ej k' B hB v hv
 ·rw [eb] at q1 q2;exact hs.apart _ _ _ _ _ _ _ _ _ q1 q2
 refine⟨hle,fun k' v g' e c h=>.inl ⟨k',v,e,c,by rwa [eb] at h⟩,fun ad y hy=>?_,rfl,rfl,rfl,aA _,fun _ _ _=>rfl⟩;rw [eF] at hy;split at hy;·rename_i hg;exact .inr (.inr ⟨k,0,0,0,by rw [hg];exact hb⟩)
 exact .inl hy
end
theorem dt.abK {E:Env} {w:World} {m:List bx} {k:Nat} {cs:List V} {x:Value} (hs:dt E w { tmps := #[],defers:=[] } { fr:=[],mem:=m }) (hr:df E (.ptr k 0) x) (hk:m[k]?=some (.box cs)) (hp:cs.all mu=true) :
  ∃ E',dt E' w { tmps := #[],defers:=[] } { fr:=[],mem:=m.set k .dead }/\iF E w E' w/\df E' (.fQ cs) x:=by have h1:dt E w { tmps := #[x],defers:=[] } { fr:=[.ptr k 0],mem:=m }:=⟨hs.F,hs.lt,hs.mem,hs.top,hs.ej,hs.apart,.cons hr (.nil _)⟩;obtain⟨E',h2,h3⟩:=h1.BW (t:=0) hk hp rfl;obtain⟨y,ys,hy,hry,-⟩:=h2.fr.of_cons;cases hy;exact⟨E',⟨h2.F,h2.lt,h2.mem,h2.top,h2.ej,h2.apart,.nil _⟩,h3,hry⟩
end Go.Eng
end
