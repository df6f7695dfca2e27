import Derived.Test.YtnboooapeopjoaaGreatDoorJ5
import Derived.WalkKit
import Derived.ProofKit
import Derived.OpenShut
import Derived.WideKeyArgs
import Derived.Deep.DeepHandedRow
open Array renaming getElem?_eq_getElem→bS,length_toList→jq,toList_append→jr
open Bool renaming and_eq_true→aN,and_true→aK,false_eq_true→b9,not_eq_true'→anS,not_true→aR,or_eq_false_iff→anu,or_eq_true→am4,or_self→bu
open ByteArray renaming data_append→anw
open Decidable renaming not_not→anq
open Go.Proofs.Tryz renaming prog→ab
open Int renaming cast_ofNat_Int→bD,natCast_nonneg→pK
open List renaming all_cons→cA,all_eq_true→aY,all_nil→dA,any_eq_false→ano,any_map→Qx,append_assoc→AP,append_nil→ou,cons_append→aj,drop_eq_getElem_cons→cQ,drop_eq_nil_of_le→dX,eq_nil_of_length_eq_zero→anb,foldl_cons→eZ,foldl_map→pL,foldl_nil→anh,getElem?_append_right→aW,getElem?_drop→Yx,getElem?_eq_getElem→ah,getElem?_eq_some_iff→ax,getElem?_map→ae,head?_cons→anJ,headD_cons→cM,length_append→ch,length_cons→aD,length_map→ag,length_nil→aM,length_take→dz,map_append→j8,map_congr_left→dJ,map_cons→cB,map_map→ew,map_nil→dY,map_set→df,mem_append→fI,mem_append_left→dU,mem_append_right→dG,mem_cons→cp,mem_cons_of_mem→bh,mem_cons_self→bJ,mem_flatMap→gU,mem_iff_getElem?→bL,mem_map→cu,mem_of_getElem?→ay,nil_append→ak,not_mem_nil→nG,replicate_succ→aE,replicate_zero→aF,set_append_right→ep,set_cons_succ→il,set_cons_zero→eI,take_add_one→bC,take_length→au,take_of_length_le→bE,take_zero→mQ
open Nat renaming add_zero→jS,le_of_ble_eq_true→kg,le_refl→aw,lt_or_ge→bW,lt_succ_self→kW,min_eq_left→am9,not_lt_zero→iK,sub_self→c5,zero_add→ct,zero_le→bx
open Option renaming getD_some→amY,map_eq_some_iff→br,map_some→bz
open Option.some renaming inj→tu
open Prod.mk renaming inj→ana
set_option linter.all false
section
namespace Go.Proofs.YtnboooapeopjoaaGreatDoor
open Go.Eng
variable [a6]
open Nat renaming reduceAdd → zA, reduceLT → zB, reduceLeDiff → zC, reduceMul → zD, reduceEqDiff → zE, reduceSub → zF
set_option maxHeartbeats 4000000
set_option maxRecDepth 100000
theorem ag5 (B0 B1:ba):dt ab [B0,B1,.map [] 0] 198 (.mp 2) (num 0) (.agg [str ⟨#[98]⟩,num 0,bl false,num 0])=some [B0,B1,.map [qZ] 1]:=by kernel_rfl
theorem ag6 (B0 B1:ba):dt ab [B0,B1,.map [qZ] 1] 198 (.mp 2) (num 1) (.agg [str ⟨#[120]⟩,num 0,bl false,num 0])=some [B0,B1,.map [qZ,sf] 2]:=by kernel_rfl
theorem ag7 (B0 B1:ba):dt ab [B0,B1,.map [qZ,sf] 2] 198 (.mp 2) (num 2) (.agg [str ⟨#[98]⟩,num 0,bl false,num 0])=some [B0,B1,.map [qZ,sf,tf] 3]:=by kernel_rfl
theorem ag8 (B0 B1:ba):dt ab [B0,B1,.map [qZ,sf,tf] 3] 198 (.mp 2) (num 3) (.agg [str ⟨#[110]⟩,num 0,bl false,num 0])=some [B0,B1,.map [qZ,sf,tf,uZ] 4]:=by kernel_rfl
theorem ag9 (B0 B1:ba):dt ab [B0,B1,.map [qZ,sf,tf,uZ] 4] 198 (.mp 2) (num 4) (.agg [str ⟨#[109,110]⟩,num (-1),bl false,num 0])=some [B0,B1,.map [qZ,sf,tf,uZ,wa] 5]:=by kernel_rfl
theorem aha (B0 B1:ba):dt ab [B0,B1,.map [qZ,sf,tf,uZ,wa] 5] 198 (.mp 2) (num 5) (.agg [str ⟨#[]⟩,num 0,bl true,num 0])=some [B0,B1,.map [qZ,sf,tf,uZ,wa,xq] 6]:=by kernel_rfl
theorem ahb (B0 B1:ba):dt ab [B0,B1,.map [qZ,sf,tf,uZ,wa,xq] 6] 198 (.mp 2) (num 6) (.agg [str ⟨#[110]⟩,num 0,bl false,num 1])=some [B0,B1,.map [qZ,sf,tf,uZ,wa,xq,Ab] 7]:=by kernel_rfl
theorem ahc (B0 B1:ba):dt ab [B0,B1,.map [qZ,sf,tf,uZ,wa,xq,Ab] 7] 198 (.mp 2) (num 7) (.agg [str ⟨#[110]⟩,num 0,bl false,num 1])=some [B0,B1,.map [qZ,sf,tf,uZ,wa,xq,Ab,AM] 8]:=by kernel_rfl
theorem ahd (B0 B1:ba):dt ab [B0,B1,.map [qZ,sf,tf,uZ,wa,xq,Ab,AM] 8] 198 (.mp 2) (num 8) (.agg [str ⟨#[116,111]⟩,num 0,bl true,num 1])=some [B0,B1,.map [qZ,sf,tf,uZ,wa,xq,Ab,AM,C5] 9]:=by kernel_rfl
theorem ahe (B0 B1:ba):dt ab [B0,B1,.map [qZ,sf,tf,uZ,wa,xq,Ab,AM,C5] 9] 198 (.mp 2) (num 9) (.agg [str ⟨#[]⟩,num 0,bl true,num 1])=some [B0,B1,.map [qZ,sf,tf,uZ,wa,xq,Ab,AM,C5,FO] 10]:=by kernel_rfl
theorem abw (B0 B1:ba):dt ab [B0,B1,.map [qZ,sf,tf,uZ,wa,xq,Ab,AM,C5,FO] 10] 198 (.mp 2) (num 10) (.agg [str ⟨#[110]⟩,num 0,bl false,num 2])=some [B0,B1,.map [qZ,sf,tf,uZ,wa,xq,Ab,AM,C5,FO,tg] 11]:=by kernel_rfl
theorem abx (B0 B1:ba):dt ab [B0,B1,.map [qZ,sf,tf,uZ,wa,xq,Ab,AM,C5,FO,tg] 11] 198 (.mp 2) (num 11) (.agg [str ⟨#[]⟩,num 1,bl false,num 1])=some [B0,B1,.map [qZ,sf,tf,uZ,wa,xq,Ab,AM,C5,FO,tg,wb] 12]:=by kernel_rfl
theorem aby (B0 B1:ba):dt ab [B0,B1,.map [qZ,sf,tf,uZ,wa,xq,Ab,AM,C5,FO,tg,wb] 12] 198 (.mp 2) (num 12) (.agg [str ⟨#[]⟩,num 1,bl false,num 3])=some [B0,B1,.map [qZ,sf,tf,uZ,wa,xq,Ab,AM,C5,FO,tg,wb,Ac] 13]:=by kernel_rfl
theorem abz (B0 B1:ba):dt ab [B0,B1,.map [qZ,sf,tf,uZ,wa,xq,Ab,AM,C5,FO,tg,wb,Ac] 13] 198 (.mp 2) (num 13) (.agg [str ⟨#[118]⟩,num 1,bl true,num 1])=some [B0,B1,.map [qZ,sf,tf,uZ,wa,xq,Ab,AM,C5,FO,tg,wb,Ac,C6] 14]:=by kernel_rfl
theorem abA (B0 B1:ba):dt ab [B0,B1,.map [qZ,sf,tf,uZ,wa,xq,Ab,AM,C5,FO,tg,wb,Ac,C6] 14] 198 (.mp 2) (num 14) (.agg [str ⟨#[]⟩,num 1,bl false,num (-1)])=some [B0,B1,.map [qZ,sf,tf,uZ,wa,xq,Ab,AM,C5,FO,tg,wb,Ac,C6,H4] 15]:=by kernel_rfl
theorem abB (B0 B1:ba):dt ab [B0,B1,.map [qZ,sf,tf,uZ,wa,xq,Ab,AM,C5,FO,tg,wb,Ac,C6,H4] 15] 198 (.mp 2) (num 15) (.agg [str ⟨#[110,120]⟩,num 1,bl false,num 3])=some [B0,B1,.map [qZ,sf,tf,uZ,wa,xq,Ab,AM,C5,FO,tg,wb,Ac,C6,H4,OZ] 16]:=by kernel_rfl
theorem UG (B0 B1:ba):dt ab [B0,B1,.map [qZ,sf,tf,uZ,wa,xq,Ab,AM,C5,FO,tg,wb,Ac,C6,H4,OZ] 16] 198 (.mp 2) (num 16) (.agg [str ⟨#[110]⟩,num 0,bl false,num (-1)])=some [B0,B1,.map [qZ,sf,tf,uZ,wa,xq,Ab,AM,C5,FO,tg,wb,Ac,C6,H4,OZ,XC] 17]:=by kernel_rfl
theorem O8 (B0 B1:ba) (hb:∀ n,2≤n→aI n B0=true∧aI n B1=true):bk ab 192 [] [B0,B1] (.mp 2) [B0,B1,.map gS 17]:=by refine jD tt_ok (fn:=Tryz.f192) 3 (by simp only [aD,aM]; decide) Tryz.func192 rfl Tryz.call192 ?_;simp only [dO,cn,Tryz.ntmps192,aD,aM,zA,zF,aE,aF];refine lR tt_ok 20 [2] [] rfl rfl fun K hK=>?_;simp only [dO,go_sem];refine hK _ _ rfl ?_;simp only [QQ,zA,zE];refine lR tt_ok 20 (2::(rp 19 1 [])) [] rfl rfl fun K hK=>?_;refine mv 7 fun K1 kT=>?_;simp only [yG,ag5,ag6,ag7,go_sem];refine kT _ ?_;refine mv 7 fun K1 kT=>?_;simp only [yG,ag8,ag9,aha,go_sem];refine kT _ ?_;refine mv 7 fun K1 kT=>?_;simp only [yG,ahb,ahc,ahd,ahe,go_sem];refine kT _ ?_;refine mv 7 fun K1 kT=>?_;simp only [yG,abw,abx,aby,go_sem];refine kT _ ?_;refine mv 7 fun K1 kT=>?_;simp only [yG,abz,abA,abB,UG,go_sem];refine kT _ ?_;simp only [yG,UG,go_sem];refine hK _ _ rfl ?_;simp only [QQ,zA,zE];refine bK ⟨.inl rfl,rfl,rfl,?_,rfl⟩;have h1:=hb 3 (by omega);have h2:=Ad.below 3;show (aI 3 B0&&(aI 3 B1&&((gS.all fun e=>aH 3 e.2.2)&&true)))=true;rw [h1.1,h1.2,h2]; rfl
theorem XT (e:Ex):KJ e=if decide (4096<(e.size:Int))||decide (32<(e.depth:Int)) then 7 else ec vd e.nodes:=by unfold KJ;by_cases h1:4096<e.size <;> by_cases h2:32<e.depth <;> simp [h1,h2] <;> (intros; omega)
theorem C8 (hG:a6.g=some 1) (e:Ex) (he:e.wt≤1048576):bG ab 137 [cx e] (num (KJ e)):=by
 have hbw:=e.hZ;have h18:=Bm e (by omega);have h57:=Hz e.cy e (aw _) (by omega);have W6:=fun B0 B1 B2 B3 h=>E5 e [B0,B1,B2,B3] h;have hP:∀ v∈e.nodes,v.wt≤1048576:=fun v hv=>by have:=Ex.zd hv; omega
 refine je tt_ok (fn:=Tryz.f137) Tryz.func137 rfl Tryz.call137 ?_;simp only [dO,cn,Tryz.ntmps137,aD,aM,zA,zF,aE,aF];rw [a8] at h18 h57 W6 ⊢;simp only [aC] at h18 h57 W6 ⊢;refine af tt_ok fun K hK=>?_;simp only [go_sem];refine hK _ ?_;refine bj ?_;have res:KJ e=if decide (4096<(e.size:Int))||decide (32<(e.depth:Int)) then 7 else ec vd e.nodes:=XT e;cases c1:decide (4096<(e.size:Int)) with | true =>rw [c1] at res;refine af tt_ok fun K hK=>?_;simp only [c1,go_sem];refine .inl ⟨_,_,by simp only [c1,go_sem,au],h18,?_⟩;(try simp only [c1,go_sem]);refine hK _ ?_;refine aU rfl ?_;refine af tt_ok fun K hK=>?_;simp only [go_sem];refine hK _ ?_;refine bK ⟨.inl rfl,?_⟩;rw [res]; rfl | false =>rw [c1] at res;cases c2:decide (32<(e.depth:Int)) with | true =>rw [c2] at res;refine af tt_ok fun K hK=>?_;simp only [c1,go_sem];refine .inl ⟨_,_,by simp only [c1,go_sem,au],h18,?_⟩;(try simp only [c1,go_sem]);refine .inl ⟨_,_,by simp only [c2,go_sem,au],h57,?_⟩;(try simp only [c2,go_sem]);refine hK _ ?_;refine aU rfl ?_;refine af tt_ok fun K hK=>?_;simp only [go_sem];refine hK _ ?_;refine bK ⟨.inl rfl,?_⟩;rw [res]; rfl | false =>rw [c2] at res;refine af tt_ok fun K hK=>?_;simp only [c1,go_sem];refine .inl ⟨_,_,by simp only [c1,go_sem,au],h18,?_⟩;(try simp only [c1,go_sem]);refine .inl ⟨_,_,by simp only [c2,go_sem,au],h57,?_⟩;(try simp only [c2,go_sem]);refine hK _ ?_;refine aU rfl (bZ ?_);show dN _ _ _ _ _ _;refine af tt_ok fun K hK=>?_;simp only [go_sem];(refine .inr <| .inl ⟨_,_,O8 _ _ (fun n hn=>⟨rfl,rfl⟩),?_⟩);(try simp only [go_sem]);refine hK _ ?_;refine bj ?_;refine af tt_ok fun K hK=>?_;simp only [go_sem];(refine .inr <| .inl ⟨_,_,W6 _ _ _ _ rfl,?_⟩);(try simp only [go_sem]);refine hK _ ?_;refine bP (za (t:=e) (B:=1048576) (fun s:Int=>[.box (aC e),.box [num s],.map gS 17,.box [.mp 2],.box (aC e)]) 0 5 4 rfl (fun _=>rfl) (by omega) (fun _=>rfl) (fun _=>rfl) rfl rfl rfl (fun s u=>if decide (vd u=0)=true then (s,none) else (vd u,some .ret)) (by omega) (by omega) (fun v=>v.wt≤1048576) hP ?_ ?_);(·intro s u hu hm l LR LB hLR YT;obtain⟨_,rfl,hn⟩:=FP hG (.box (aC e)) (.box [num s]) (.box [.mp 2]) (.box (aC e)) LB (.box (aC u)) (fun n hn=>⟨rfl,rfl,by simp only [aI,cA,dA,aH,aK,decide_eq_true_eq]; omega,rfl,wM (by omega) YT,rfl⟩) u hm;rw [a8] at hn ⊢;simp only [aC] at hn;simp only [dO,nV,aC,il,eI];refine aV tt_ok fun K hK=>?_;simp only [go_sem];refine hK _ ?_;refine⟨rfl,rfl,bP ?_⟩;simp only [il,eI];refine af tt_ok fun K hK=>?_;simp only [go_sem];(refine .inr <| .inl ⟨_,_,hn,?_⟩);(try simp only [go_sem]);refine hK _ ?_;refine bj ?_;cases c3:decide (vd u=0) with | true =>refine aV tt_ok fun K hK=>?_;simp only [c3,go_sem];refine hK _ ?_;refine aU rfl (bZ ?_);exact⟨rfl,rfl,rfl⟩ | false =>refine aV tt_ok fun K hK=>?_;simp only [c3,go_sem];refine hK _ ?_;refine aU rfl ?_;refine af tt_ok fun K hK=>?_;simp only [go_sem];refine hK _ ?_;exact bK ⟨rfl,rfl,rfl⟩);rw [qY];simp only [bu,b9,if_false] at res;rw [res];cases c4:decide (ec vd e.nodes=0) with | true =>have e0:ec vd e.nodes=0:=of_decide_eq_true c4;simp only [if_true];show dN _ _ _ _ _ _;refine af tt_ok fun K hK=>?_;simp only [go_sem];refine hK _ ?_;refine bK ⟨.inl rfl,?_⟩;rw [e0]; rfl | false =>simp only [b9,if_false];exact bK ⟨.inl rfl,rfl⟩
theorem Dc.K7 (d:Dc):d.expr.types.length<d.wt∧d.expr.labels.length<d.wt∧d.expr.kids.length<d.wt:=by have h1:=d.expr.uA;have h2:=d.expr.mA;have h3:=d.expr.hZ;have h4:d.wt=1+d.name.size+d.note.size+aZ Pm.wt d.params+d.lower.wt+d.upper.wt+d.type.wt+d.expr.wt+d.mod.size+d.target.size:=rfl;omega
theorem Dc.K8 {d:Dc} (pT:d.wt=1+d.name.size+d.note.size+aZ Pm.wt d.params+d.lower.wt+d.upper.wt+d.type.wt+d.expr.wt+d.mod.size+d.target.size) (hw:d.wt≤1048576) {u:Ty} (hu:u∈[d.lower,d.upper,d.type]++d.params.map Pm.bound):u.wt≤1048576:=by
 rcases fI.1 hu with hu | hu
 ·simp only [cp,nG,or_false] at hu;rcases hu with rfl | rfl | rfl <;> omega
 obtain⟨p,hp,rfl⟩:=cu.1 hu;obtain⟨i,hi⟩:=bL.1 hp;have h1:=cb Pm.wt hi;have h2:p.wt=1+p.name.size+p.bound.wt:=rfl;omega
def xr (d:Dc) (j:Nat):List Ty:=[d.lower,d.upper,d.type]++(d.params.take j).map Pm.bound
theorem K9 {d:Dc} {j:Nat} {p:Pm} (h:d.params[j]?=some p):xr d (j+1)=xr d j++[p.bound]:=by unfold xr; rw [bC,h]; simp
theorem O9 (d:Dc):xr d d.params.length=[d.lower,d.upper,d.type]++d.params.map Pm.bound:=by unfold xr; rw [au]
theorem Pa (d:Dc) {j:Nat} (h:j≤d.params.length):(xr d j).length=j+3:=by unfold xr; simp; omega
theorem SK (hG:a6.g=some 1) (d:Dc) (bs:List Dc) (hw:d.wt≤1048576) (Zx:bs.length≤1048576):∃ r_,(fun w=>w=num (r8 bs d)) r_∧bG ab 78 [aL d,.slice (bs.map aL)] r_:=by
 refine kc tt_ok [] 90 [.tmp 4] (fn:=Tryz.f78) Tryz.func78 rfl Tryz.call78 ⟨rfl,rfl,by simp⟩ fun K hK=>?_;have pT:d.wt=1+d.name.size+d.note.size+aZ Pm.wt d.params+d.lower.wt+d.upper.wt+d.type.wt+d.expr.wt+d.mod.size+d.target.size:=rfl;obtain⟨h1,h2,h3⟩:=d.K7;have hp:d.params.length≤1048576:=by have:=ca Pm.wt (fun l=>by unfold Pm.wt; omega) d.params; omega
 obtain⟨acc,mL⟩:∃ x,x=([d.lower,d.upper,d.type]++d.params.map Pm.bound):=⟨_,rfl⟩;have abD:acc.length=d.params.length+3:=by rw [mL]; simp <;> omega
 have lF:r8 bs d=(if wZ d=false then 1 else if 8<d.params.length∨65536<d.note.size then 7 else if CO d=false then 4 else if (bs.any fun x=>decide (x.name=d.name))=true then 5 else if vN (d.params.map Pm.name)=true then 5 else if ec rF ([d.lower,d.upper,d.type]++d.params.map Pm.bound)≠0 then ec rF ([d.lower,d.upper,d.type]++d.params.map Pm.bound) else KJ d.expr):=rfl;have er:∀ u∈acc,u.wt≤1048576:=by rw [mL]; exact fun u hu=>Dc.K8 pT hw hu
 simp only [dO,aL,ai,aC];have vb:ab.underlying 9=some .string:=by kernel_rfl
 have sl:∀ (a:ByteArray) (ty:TypeId),kZ ab (Builtin.len_ #[9] ty) [.sc (.string a)]=some (num a.size):=fun a ty=>l8 (P:=ab) (tt:=tt) (T:=9) a vb ty;simp only [aq,aA,ag,sl,go_sem];refine cF (by have h:=FR d hp (by omega) (by omega) (by omega); simp only [dO,aL,ai,aC] at h; exact h) ?_;rintro _ rfl;simp only [aq,aA,ag,sl,go_sem];refine bY (fun pH=>?_) (fun pH=>?_);·(have ck:1=r8 bs d:=by rw [lF,if_pos (by simpa using pH)]);simp only [aq,aA,ag,sl,go_sem];first | exact hK _ (congrArg num ck) | exact hK _ (congrArg num lF.symm)
 rw [if_neg (by simpa using pH)] at lF;simp only [aq,aA,ag,sl,go_sem];refine bY (fun sw=>?_) (fun sw=>?_);·(have ck:7=r8 bs d:=by rw [lF,if_pos (.inl (by have:=of_decide_eq_true sw; omega))]);simp only [aq,aA,ag,sl,go_sem];first | exact hK _ (congrArg num ck) | exact hK _ (congrArg num lF.symm)
 simp only [aq,aA,ag,sl,go_sem];refine bY (fun oq=>?_) (fun oq=>?_);·(have ck:7=r8 bs d:=by rw [lF,if_pos (by first | exact .inl (by have:=of_decide_eq_true sw; omega) | exact .inr (by have:=of_decide_eq_true oq; omega))]);simp only [aq,aA,ag,sl,go_sem];first | exact hK _ (congrArg num ck) | exact hK _ (congrArg num lF.symm)
 rw [if_neg (by have h1_:=of_decide_eq_false sw; have h2_:=of_decide_eq_false oq; omega)] at lF;simp only [aq,aA,ag,sl,go_sem];refine cF (by have h:=K5 hG d hp (by omega); simp only [dO,aL,ai,aC] at h; exact h) ?_;rintro _ rfl;simp only [aq,aA,ag,sl,go_sem];refine bY (fun jy=>?_) (fun jy=>?_);·(have ck:4=r8 bs d:=by rw [lF,if_pos (by simpa using jy)]);simp only [aq,aA,ag,sl,go_sem];first | exact hK _ (congrArg num ck) | exact hK _ (congrArg num lF.symm)
 rw [if_neg (by simpa using jy)] at lF;simp only [aq,aA,ag,sl,go_sem];refine cS (by have h:=O3 d 135 (fun x=>decide (x.name=d.name)) bs (fun x _=>XK d x) Zx; simp only [dO,eW,aL,ai,aC] at h; exact h) ?_;rintro _ rfl;simp only [aq,aA,ag,sl,go_sem];refine bY (fun XU=>?_) (fun XU=>?_);·(have ck:5=r8 bs d:=by rw [lF,if_pos XU]);simp only [aq,aA,ag,sl,go_sem];first | exact hK _ (congrArg num ck) | exact hK _ (congrArg num lF.symm)
 rw [if_neg (by rw [XU]; simp)] at lF;simp only [aq,aA,ag,sl,go_sem];refine fL tt_ok [] (fun a:Nat=>[(2,.ptr 0 0),(4,num 0),(5,.mp 1),(39,.slice (d.params.map cX)),(40,num d.params.length),(41,num a)]) (fun a:Nat=>[.box [num d.kind,str d.name,bl d.exported,bl d.deprecated,str d.note,.slice (d.params.map cX),num d.lower.kind,str d.lower.mod,str d.lower.name,.slice (aQ d.lower.args),.slice (bV d.lower.bd),num d.upper.kind,str d.upper.mod,str d.upper.name,.slice (aQ d.upper.args),.slice (bV d.upper.bd),num d.type.kind,str d.type.mod,str d.type.name,.slice (aQ d.type.args),.slice (bV d.type.bd),num d.expr.kind,str d.expr.mod,str d.expr.name,str d.expr.text,num d.expr.num,.slice (aQ d.expr.types),.slice (d.expr.labels.map bO),.slice (cr d.expr.kids),str d.mod,str d.target],.map (iF strVal 0 (eg [] ((d.params.take a).map Pm.name))) (eg [] ((d.params.take a).map Pm.name)).length]) (fun a=>d.params.length-a) (fun a=>a≤d.params.length) (0) 2 (dj (by omega) (by simp only [aq,aA,ag,sl,mQ,eg,anh,iF,dA,aM,bD,go_sem] <;> rfl)) (bx _) ?_;intro i hi;try dsimp only at hi
 try dsimp only
 have u9:=fun n=>((NG.eg (l:=(d.params.take i).map Pm.name) NG.nil).1).below n;intro Z1 ee;simp only [u9,aq,aA,ag,sl,go_sem];refine bY (fun zw=>?_) (fun zw=>?_);·(have bX:i<d.params.length:=by simpa using zw);obtain⟨p,hx⟩:∃ p,d.params[i]?=some p:=⟨_,ah bX⟩;have Jb:=EY Pm.name [] hx;have ahf:=fun B0 B2=>Sc (eg [] ((d.params.take i).map Pm.name)) p.name (mem:=[B0,.map (iF strVal 0 (eg [] ((d.params.take i).map Pm.name))) (eg [] ((d.params.take i).map Pm.name)).length,B2]) (b:=1) rfl;have j7:=bB i (by omega);have ahg:=fun n=>((NG.eg (l:=(d.params.take (i+1)).map Pm.name) NG.nil).1).below n;simp only [u9,ae,hx,cX,ai,ahf,j7,aq,aA,ag,sl,go_sem];refine ee _ ⟨i+1,?_,?_,dj (by omega) (by (simp only [← Jb,j7,ahg,u9,go_sem]))⟩;(·exact bX);omega
 have jw:i=d.params.length:=by have:=of_decide_eq_false zw; omega
 subst jw;rw [au];obtain⟨G,hGr⟩:∃ x,x=eg [] (d.params.map Pm.name):=⟨_,rfl⟩;have kq:=Hw (d.params.map Pm.name);rw [← hGr,ag] at kq;rw [← hGr];have hlen:=fun B0=>Sd (mem:=[B0,.map (iF strVal 0 G) G.length]) (b:=1) G G.length rfl;have pY:=fun n=>(hGr ▸ (NG.eg (l:=d.params.map Pm.name) NG.nil).1:NG G).below n;simp only [u9,hlen,pY,aq,aA,ag,sl,go_sem];refine bY (fun H6=>?_) (fun H6=>?_);·(have Dp:vN (d.params.map Pm.name)=true:=by rw [← kq.2]; simpa using H6);(have ck:5=r8 bs d:=by rw [lF,if_pos Dp]);simp only [u9,hlen,pY,aq,aA,ag,sl,go_sem];first | exact hK _ (congrArg num ck) | exact hK _ (congrArg num lF.symm)
 have Dp:vN (d.params.map Pm.name)=false:=by rw [← kq.2]; simpa using H6
 rw [if_neg (by rw [Dp]; simp)] at lF;simp only [u9,hlen,pY,aq,aA,ag,sl,go_sem];refine fL tt_ok [] (fun a:Nat×Nat=>[(2,.ptr 0 0),(4,num 0),(8,.ms 2 a.2 0 (a.1+3)),(63,.slice (d.params.map cX)),(64,num d.params.length),(65,num a.1)]) (fun a:Nat×Nat=>[.box [num d.kind,str d.name,bl d.exported,bl d.deprecated,str d.note,.slice (d.params.map cX),num d.lower.kind,str d.lower.mod,str d.lower.name,.slice (aQ d.lower.args),.slice (bV d.lower.bd),num d.upper.kind,str d.upper.mod,str d.upper.name,.slice (aQ d.upper.args),.slice (bV d.upper.bd),num d.type.kind,str d.type.mod,str d.type.name,.slice (aQ d.type.args),.slice (bV d.type.bd),num d.expr.kind,str d.expr.mod,str d.expr.name,str d.expr.text,num d.expr.num,.slice (aQ d.expr.types),.slice (d.expr.labels.map bO),.slice (cr d.expr.kids),str d.mod,str d.target],.map (iF strVal 0 G) G.length,.rows a.2 5 (aQ (xr d a.1))]) (fun a=>d.params.length-a.1) (fun a=>a.1≤d.params.length) ((0,0)) 3 (dj (by omega) (by simp only [u9,hlen,pY,aq,aA,ag,sl,xr,mQ,dY,ou,aQ,aG,ai,pY,bD,go_sem] <;> rfl)) (bx _) ?_;rintro⟨j,dw⟩ hj;try dsimp only at hj
 try dsimp only
 intro Z2 mc;simp only [u9,hlen,pY,pY,aq,aA,ag,sl,go_sem];refine bY (fun XV=>?_) (fun XV=>?_);·(have bX:j<d.params.length:=by simpa using XV);obtain⟨p,hx⟩:∃ p,d.params[j]?=some p:=⟨_,ah bX⟩;have j7:=bB j (by omega);(have QS:j+3≤34359738367:=by omega);(have ahi:j≤34359738364:=by omega);have My:xr d (j+1)=xr d j++[p.bound]:=K9 hx;have LH:=Pa d (j:=j) (by omega);have wX:dx [V.agg [num p.bound.kind,str p.bound.mod,str p.bound.name,.slice (aQ p.bound.args),.slice (bV p.bound.bd)]] 0 5=true:=rfl;simp only [u9,hlen,pY,pY,ae,hx,cX,ai,j7,QS,ahi,LH,wX,aj,ak,aq,aA,ag,sl,go_sem];refine mc _ ⟨(j+1,dw+1),?_,?_,dj (by omega) (by (simp [My,LH,cV,aG,ai,qI,lk,ea,eV,aH,aI,pY]))⟩;(·exact bX);dsimp only; omega
 have jw:j=d.params.length:=by have:=of_decide_eq_false XV; omega
 subst jw;have ahj:xr d d.params.length=acc:=by rw [mL]; exact O9 d
 rw [ahj,← abD];simp only [u9,hlen,pY,pY,aq,aq,aA,ag,sl,go_sem];refine iB tt_ok [] [77] 3 [2,14,18,29,33,42,54,66,75,76] (fun vs=>((acc.length:Int)-Go.Eng.intOf (vs.headD .undef)).toNat) (fun vs=>∃ i:Nat,vs=[num i]∧i≤acc.length∧ec rF acc=ec rF (acc.drop i)) (by omega) (by simp only [u9,hlen,pY,pY,aq,aq,aA,ag,sl,go_sem]) (⟨0,rfl,bx _,rfl⟩) fun vs hI Z3 vT=>?_;obtain⟨i,rfl,hi,hinv⟩:=hI;simp only [u9,hlen,pY,pY,aq,aq,aA,ag,sl,go_sem];refine bY (fun HV=>?_) (fun HV=>?_);·(have bX:i<acc.length:=by simpa using HV);obtain⟨u,hu⟩:∃ u,acc[i]?=some u:=⟨_,ah bX⟩;(have eU:((i:Nat):Int)<((acc.length:Nat):Int):=by omega);have j7:=bB i (by omega);have vi:=Bu rF hu;simp only [u9,hlen,pY,pY,aq,eU,b8,hu,aG,ai,j7,aq,aA,ag,sl,go_sem];refine cF (by have h:=uY hG u (by have:=u.dE; have:=er u (ay hu); omega) (Ty.aa4 (by have:=er u (ay hu); omega)); rw [aG] at h; simp only [ai] at h; exact⟨_,rfl,h⟩) ?_;rintro _ rfl;simp only [u9,hlen,pY,pY,aq,eU,b8,hu,aG,ai,j7,aq,aA,ag,sl,go_sem];refine bY (fun XW=>?_) (fun XW=>?_);(·(have dK:rF u≠0:=by simpa using XW);(have hz:ec rF ([d.lower,d.upper,d.type]++d.params.map Pm.bound)=rF u:=by rw [← mL,hinv,vi,if_neg dK]);(have ck:rF u=r8 bs d:=by rw [lF,if_pos (by rw [hz]; exact dK),hz]);simp only [u9,hlen,pY,pY,aq,eU,b8,hu,aG,ai,j7,aq,aA,ag,sl,go_sem];first | exact hK _ (congrArg num ck) | exact hK _ (congrArg num lF.symm));(have hz:rF u=0:=by simpa using XW);simp only [u9,hlen,pY,pY,aq,eU,b8,hu,aG,ai,j7,aq,aA,ag,sl,go_sem];refine vT _ (oj (by omega) (by simp only [u9,hlen,pY,pY,aq,eU,b8,hu,aG,ai,j7,aq,aA,ag,sl,go_sem]) ?_ ?_) <;> simp only [fC,lk,reduceIte,zE];(·exact⟨i+1,rfl,bX,by rw [hinv,vi,if_pos hz]⟩);simp only [Go.Eng.intOf,cM]; omega
 have jw:¬ i<acc.length:=by simpa using HV
 have hz:ec rF ([d.lower,d.upper,d.type]++d.params.map Pm.bound)=0:=by rw [← mL,hinv,dX (by omega)]; rfl
 rw [if_neg fun h_=>h_ hz] at lF;simp only [u9,hlen,pY,pY,aq,aq,aA,ag,sl,go_sem];refine cF (by have h:=C8 hG d.expr (by omega); rw [a8] at h; simp only [aC] at h; exact⟨_,rfl,h⟩) ?_;rintro _ rfl;simp only [u9,hlen,pY,pY,aq,aq,aA,ag,sl,go_sem];first | exact hK _ (congrArg num ck) | exact hK _ (congrArg num lF.symm)
section
attribute [local irreducible] runM gv rY
theorem Bv (l:List Dc) (i:Nat) {d:Dc} (h:l[i]?=some d):(l.map aL)[i]?=some (.agg (eW d)):=by rw [ae,h]; rfl
theorem Af (l:List Pm) (i:Nat) {p:Pm} (h:l[i]?=some p):(l.map cX)[i]?=some (.agg ([str p.name,num p.ef]++ai p.bound)):=by rw [ae,h]; rfl

theorem La (m:Md) (hm:m.cy≤1048576):bG ab 129 [gN m] (num m.size):=by
 unfold Md.cy at hm;have kq:=ca Dc.cy Dc.fT m.decls;have hle:∀ i,aZ Dc.size (m.decls.take i)≤1048576:=fun i=>by have h1:=gj Dc.cy m.decls i;(have h2:∀ l:List Dc,aZ Dc.size l≤aZ Dc.cy l:=fun l=>by induction l with | nil=>simp [aZ] | cons a r ih=>have:=Dc.size_le a; simp only [aZ]; omega);have:=h2 (m.decls.take i); omega
 refine je tt_ok (fn:=Tryz.f129) Tryz.func129 rfl Tryz.call129 ?_;simp only [dO,cn,Tryz.ntmps129,aD,aM,zA,zF,aE,aF];rw [oT];simp only [pB];refine af tt_ok fun K hK=>?_;simp only [go_sem];refine hK _ ?_;refine af tt_ok fun K hK=>?_;simp only [ag,go_sem];refine hK _ ?_;have j7:=lf (1+(m.imports.length:Int)) (1+m.imports.length) (by omega) (by omega);rw [j7];refine bj ?_;refine af tt_ok fun K hK=>?_;simp only [ag,go_sem];refine hK _ ?_;refine bP (cR (fun N st=>∃ (i:Nat),N=m.decls.length-i∧i≤m.decls.length ∧ st = { fr:=[.undef,.undef,.undef,num ((1+m.imports.length+aZ Dc.size (m.decls.take i):Nat)),.undef,.undef,.undef,.undef,.undef,.undef,.undef,.undef,.undef,.slice (m.decls.map aL),num m.decls.length,num i]++List.replicate 56 .undef,mem:=[] }) m.decls.length ?_ ?_);·exact⟨0,(false::false::false::true::(rp 9 false [true,true,true])),by omega,by simp only [bp,aH,aO,aI,zB,ix],rfl,0,by omega,by omega,rfl⟩
 rintro N' st ⟨i,rfl,hi,rfl⟩;simp only [dO,aE,aF];by_cases bX:i<m.decls.length;·have hd:=gX bX;refine af tt_ok fun K hK=>?_;simp only [hd,go_sem];refine hK _ ?_;refine bj (aU rfl (bZ ?_));refine bj (bP ?_);obtain⟨d,Ms⟩:∃ d,m.decls[i]?=some d:=⟨_,ah bX⟩;have hds:=cb Dc.cy Ms;have oZ:d.cy=1+d.params.length+aZ (fun p=>p.bound.size) d.params+d.lower.size+d.upper.size+d.type.size+d.expr.cy:=rfl;have AX:=fc Dc.size Ms;have lZ:=d.size_le;have hT:=nc d.type (by omega);have hL:=nc d.lower (by omega);have hU:=nc d.upper (by omega);have hE:=Bm d.expr (by omega);have hC:=KH d (by omega);have hse:=Ex.lh _ d.expr (aw _);have hln:=hle (i+1);have U7:=hle i;rw [aG] at hT hL hU;rw [a8] at hE;rw [uC] at hC;simp only [dO,ai,aC,eW] at hT hL hU hE hC;have lF:=Bv m.decls i Ms;simp only [dO,ai,aC,eW] at lF;have kK:=bB i (by omega);have hw3:=lf (1+(d.params.length:Int)) (1+d.params.length) (by omega) (by omega);have hw4:=lf (((1+m.imports.length+aZ Dc.size (m.decls.take i):Nat):Int)+((1+d.params.length:Nat):Int)) (1+m.imports.length+aZ Dc.size (m.decls.take i)+(1+d.params.length)) (by omega) (by omega);obtain⟨S,hS⟩:∃ S,S=1+m.imports.length+aZ Dc.size (m.decls.take i)+(1+d.params.length):=⟨_,rfl⟩;rw [← hS] at hw4;refine af tt_ok fun K hK=>?_;simp only [lF,go_sem];refine hK _ ?_;refine af tt_ok fun K hK=>?_;simp only [ag,hw3,hw4,go_sem];refine hK _ ?_;refine af tt_ok fun K hK=>?_;simp only [go_sem];refine hK _ ?_;refine bP ?_;by_cases h0:d.kind=0;(·have d0:decide (d.kind=0)=true:=decide_eq_true h0;refine af tt_ok fun K hK=>?_;simp only [d0,go_sem];refine hK _ ?_;refine aU rfl ?_;show dN _ _ _ _ _ _;refine af tt_ok fun K hK=>?_;simp only [go_sem];refine .inl ⟨_,_,by simp only [go_sem,au],hT,?_⟩;(try simp only [go_sem]);refine hK _ ?_;have SL:=lf ((S:Int)+(d.type.size:Int)) (S+d.type.size) (by omega) (by omega);rw [SL];cases n9:d.clear with | true =>(have XX:d.size=1+d.params.length+d.type.size:=by unfold Dc.size; rw [if_pos h0,if_pos n9,jS]);rw [n9] at hC;refine af tt_ok fun K hK=>?_;simp only [go_sem];refine .inl ⟨_,_,by simp only [go_sem,au],hC,?_⟩;(try simp only [go_sem]);refine hK _ ?_;refine aU rfl (bZ ?_);show dN _ _ _ _ _ _;refine aV tt_ok fun K hK=>?_;simp only [go_sem];refine hK _ ?_;rw [kK];(have mz:S+d.type.size=1+m.imports.length+aZ Dc.size (m.decls.take (i+1)):=by omega);rw [mz];exact⟨m.decls.length-(i+1),by omega,0,(false::false::false::true::(rp 9 false [true,true,true])),by omega,by simp only [bp,aH,aO,aI,zB,ix],rfl,i+1,rfl,bX,by simp [rp,bp]⟩ | false =>(have XX:d.size=1+d.params.length+(d.type.size+(d.lower.size+d.upper.size)):=by unfold Dc.size; rw [if_pos h0,if_neg (by rw [n9]; simp)]);rw [n9] at hC;refine af tt_ok fun K hK=>?_;simp only [go_sem];refine .inl ⟨_,_,by simp only [go_sem,au],hC,?_⟩;(try simp only [go_sem]);refine hK _ ?_;refine aU rfl ?_;show dN _ _ _ _ _ _;refine ld tt_ok bU [⟨.n,0,[],[],[]⟩,⟨.n,0,[],[],[]⟩,⟨.r,0,[],[],[]⟩,⟨.n,0,[],[],[]⟩,⟨.n,0,[],[],[]⟩,⟨.r,0,[],[],[]⟩,⟨.n,0,[],[],[]⟩,⟨.n,0,[],[],[]⟩,⟨.n,0,[],[],[]⟩,⟨.n,0,[],[],[]⟩] 0 (by kernel_rfl) fun K hK=>?_;simp only [go_sem,List.replicate];refine⟨_,_,by simp only [go_sem,au],.inl (hL),?_⟩;(try simp only [go_sem,List.replicate]);refine⟨_,_,by simp only [go_sem,au],.inl (hU),?_⟩;(try simp only [go_sem,List.replicate]);refine hK _ ?_;have SM:=lf ((d.lower.size:Int)+(d.upper.size:Int)) (d.lower.size+d.upper.size) (by omega) (by omega);rw [SM];have UH:=lf (((S+d.type.size:Nat):Int)+((d.lower.size+d.upper.size:Nat):Int)) (S+d.type.size+(d.lower.size+d.upper.size)) (by omega) (by omega);rw [UH];show dN _ _ _ _ _ _;refine aV tt_ok fun K hK=>?_;simp only [go_sem];refine hK _ ?_;rw [kK];(have mz:S+d.type.size+(d.lower.size+d.upper.size)=1+m.imports.length+aZ Dc.size (m.decls.take (i+1)):=by omega);rw [mz];exact⟨m.decls.length-(i+1),by omega,0,(false::false::false::true::(rp 9 false [true,true,true])),by omega,by simp only [bp,aH,aO,aI,zB,ix],rfl,i+1,rfl,bX,by simp [rp,bp]⟩);have d0:decide (d.kind=0)=false:=decide_eq_false h0;refine af tt_ok fun K hK=>?_;simp only [d0,go_sem];refine hK _ ?_;refine aU rfl ?_;show dN _ _ _ _ _ _;by_cases h1:d.kind=1;(·have d1:decide (d.kind=1)=true:=decide_eq_true h1;(have XX:d.size=1+d.params.length+(d.type.size+d.expr.size+aZ (fun p=>p.bound.size) d.params):=by unfold Dc.size; rw [if_neg h0,if_pos h1]);refine af tt_ok fun K hK=>?_;simp only [d1,go_sem];refine hK _ ?_;refine aU rfl ?_;show dN _ _ _ _ _ _;refine oh tt_ok bU [⟨.n,0,[],[],[]⟩,⟨.n,0,[],[],[]⟩,⟨.r,0,[],[],[]⟩,⟨.n,0,[],[],[]⟩,⟨.n,0,[],[],[]⟩,⟨.r,0,[],[],[]⟩,⟨.n,0,[],[],[]⟩,⟨.n,0,[],[],[]⟩,⟨.n,0,[],[],[]⟩,⟨.n,0,[],[],[]⟩] 0 (by kernel_rfl) fun K hK=>?_;simp only [go_sem,List.replicate];refine⟨_,_,by simp only [go_sem,au],.inl (hT),?_⟩;(try simp only [go_sem,List.replicate]);refine⟨_,_,by simp only [go_sem,au],.inl (hE),?_⟩;(try simp only [go_sem,List.replicate]);refine hK _ ?_;have SL:=lf ((d.type.size:Int)+(d.expr.size:Int)) (d.type.size+d.expr.size) (by omega) (by omega);rw [SL];have SM:=lf ((S:Int)+((d.type.size+d.expr.size:Nat):Int)) (S+(d.type.size+d.expr.size)) (by omega) (by omega);rw [SM];obtain⟨S1,hS1⟩:∃ S1,S1=S+(d.type.size+d.expr.size):=⟨_,rfl⟩;rw [← hS1];refine af tt_ok fun K hK=>?_;simp only [ag,go_sem];refine hK _ ?_;refine bP (cR (fun N st=>∃ (j:Nat),N=d.params.length-j∧j≤d.params.length ∧ st = { fr:=[.undef,.undef,.undef,num ((S1+aZ (fun p=>p.bound.size) (d.params.take j):Nat)),.undef,.undef,.undef,.undef,.undef,.undef,.undef,.undef,.undef,.slice (m.decls.map aL),num m.decls.length,num i]++List.replicate 42 .undef++[.slice (d.params.map cX),num d.params.length,num j]++List.replicate 11 .undef,mem:=[] }) d.params.length ?_ ?_);(·exact⟨0,(false::false::false::true::(rp 9 false [true,true,true]))++List.replicate 42 false++[true,true,true],by omega,by simp only [aE,aF,aj,ak,bp,aH,aO,aI,zB,ix],rfl,0,by omega,by omega,rfl⟩);rintro N' st ⟨j,rfl,hj,rfl⟩;simp only [dO,aE,aF];by_cases C9:j<d.params.length;(·have LC:=gX C9;obtain⟨p,hp⟩:∃ p,d.params[j]?=some p:=⟨_,ah C9⟩;have tp:=cb (fun p:Pm=>p.bound.size) hp;have hpt:=fc (fun p:Pm=>p.bound.size) hp;have Ap:=gj (fun p:Pm=>p.bound.size) d.params (j+1);have hP:=nc p.bound (by omega);rw [aG] at hP;simp only [ai] at hP;have hpc:=Af d.params j hp;simp only [dO,ai] at hpc;have UH:=lf (((S1+aZ (fun p=>p.bound.size) (d.params.take j):Nat):Int)+(p.bound.size:Int)) (S1+aZ (fun p=>p.bound.size) (d.params.take (j+1))) (by omega) (by omega);have hw8:=bB j (by omega);refine af tt_ok fun K hK=>?_;simp only [LC,go_sem];refine hK _ ?_;refine bj (aU rfl (bZ ?_));refine bj (bP ?_);refine af tt_ok fun K hK=>?_;simp only [hpc,go_sem];refine hK _ ?_;refine aV tt_ok fun K hK=>?_;simp only [go_sem];refine .inl ⟨_,_,by simp only [go_sem,au],hP,?_⟩;(try simp only [go_sem]);refine hK _ ?_;rw [UH];show dN _ _ _ _ _ _;refine aV tt_ok fun K hK=>?_;simp only [go_sem];refine hK _ ?_;rw [hw8];exact⟨d.params.length-(j+1),by omega,0,(false::false::false::true::(rp 9 false [true,true,true]))++List.replicate 42 false++[true,true,true],by omega,by simp only [aE,aF,aj,ak,bp,aH,aO,aI,zB,ix],rfl,j+1,rfl,C9,by simp [rp,bp]⟩);have LC:=gY C9;(have Vo:j=d.params.length:=by omega);subst Vo;refine af tt_ok fun K hK=>?_;simp only [LC,go_sem];refine hK _ ?_;refine bj (aU rfl (dZ ?_));(try rw [au]);show dN _ _ _ _ _ _;refine aV tt_ok fun K hK=>?_;simp only [go_sem];refine hK _ ?_;rw [kK];(have mz:S1+aZ (fun p=>p.bound.size) d.params=1+m.imports.length+aZ Dc.size (m.decls.take (i+1)):=by omega);rw [mz];exact⟨m.decls.length-(i+1),by omega,0,(false::false::false::true::(rp 9 false [true,true,true])),by omega,by simp only [bp,aH,aO,aI,zB,ix],rfl,i+1,rfl,bX,by simp [rp,bp]⟩);have d1:decide (d.kind=1)=false:=decide_eq_false h1;(have XX:d.size=1+d.params.length:=by unfold Dc.size; rw [if_neg h0,if_neg h1]; rfl);refine af tt_ok fun K hK=>?_;simp only [d1,go_sem];refine hK _ ?_;refine aU rfl (bZ ?_);show dN _ _ _ _ _ _;refine aV tt_ok fun K hK=>?_;simp only [go_sem];refine hK _ ?_;rw [kK];(have mz:S=1+m.imports.length+aZ Dc.size (m.decls.take (i+1)):=by omega);rw [mz];exact⟨m.decls.length-(i+1),by omega,0,(false::false::false::true::(rp 9 false [true,true,true])),by omega,by simp only [bp,aH,aO,aI,zB,ix],rfl,i+1,rfl,bX,by simp [rp,bp]⟩
 have hd:=gY bX;refine af tt_ok fun K hK=>?_;simp only [hd,go_sem];refine hK _ ?_;refine bj (aU rfl (dZ ?_));have gB:i=m.decls.length:=by omega
 subst gB;show dN _ _ _ _ _ _;refine af tt_ok fun K hK=>?_;simp only [go_sem];refine hK _ ?_;refine bK ⟨.inl rfl,?_⟩;try rw [au]
 rfl
end
section
theorem yE {α:Type} (l:List α) (f:α→V) (size:Nat) (hs:∀ a,(f a).cells.length=size) (i:Nat) (hi:i≤l.length) (mem:List ba):cutAt mem size 0 (some (i:Int)) (.slice (l.map f))=some (.slice ((l.take i).map f)):=by
 unfold cutAt;have h1:dx (l.map f) (0:Int).toNat size=true:=by unfold dx; split;(·rename_i h; simp at h; obtain⟨t,-,rfl⟩:=h; simp [hs]);rfl
 simp only [amY];rw [if_pos ⟨Int.le_refl _,by omega,by simpa using hi,h1⟩];simp [List.map_take]
def mN (i:Nat) (r:Nat×Int):Nat×Int:=if r.2=0 then (0,0) else (r.1+i,r.2)
theorem Lc {α:Type} (f:List α→α→Int):∀ (l b:List α),(iX f b l).2=0→iX f b l=(0,0)
 | [],_,_=>rfl
 | x :: r,b,h=>by
  unfold iX at h ⊢
  split at h
  ·rename_i h1
   rw [if_pos h1]
   split at h
   ·rename_i h2; rw [if_pos h2]
   rename_i h2; exact absurd h h2
  rename_i h1; exact absurd h h1
theorem xd {α:Type} {f:List α→α→Int} {b l:List α}:mN 0 (iX f b l)=iX f b l:=by
 unfold mN;split;·rename_i h; rw [Lc f _ _ h]
 rfl
theorem H9 {α:Type} (f:List α→α→Int) {l:List α} {i:Nat} {x:α} (h:l[i]?=some x):iX f (l.take i) (l.drop i)=if f (l.take i) x=0 then mN 1 (iX f (l.take (i+1)) (l.drop (i+1))) else (0,f (l.take i) x):=by have h1:=ax.1 h;rw [cQ h1.1,h1.2,bC,h];rfl
theorem FT {α:Type} (f:List α→α→Int) {l:List α} {i:Nat} {x:α} (h:l[i]?=some x) (hz:f (l.take i) x=0):mN i (iX f (l.take i) (l.drop i))=mN (i+1) (iX f (l.take (i+1)) (l.drop (i+1))):=by
 rw [H9 f h,if_pos hz];unfold mN;by_cases h2:(iX f (l.take (i+1)) (l.drop (i+1))).2=0;·simp [h2]
 simp [h2]; omega
theorem u1 {α:Type} (f:List α→α→Int) {l:List α} {i:Nat} {x:α} {e:Int} (h:l[i]?=some x) (he:f (l.take i) x=e) (dK:e≠0):(mN i (iX f (l.take i) (l.drop i))).2=e:=by rw [H9 f h,he,if_neg dK];unfold mN;rw [if_neg dK]
theorem Ld {α:Type} (f:List α→α→Int) {l:List α} {i:Nat} {x:α} {e:Int} (h:l[i]?=some x) (he:f (l.take i) x=e) (dK:e≠0):mN i (iX f (l.take i) (l.drop i))=(i,e):=by rw [H9 f h,he,if_neg dK];unfold mN;rw [if_neg dK]; simp
section
attribute [local go_sem] ag dk
theorem SN (hG:a6.g=some 1) (m:Md) (hw:m.wt≤1048576):∃ r_,(fun w=>w=num (vP m)) r_∧bG ab 77 [gN m] r_:=by
 refine kc tt_ok [] 59 [.tmp 2] (fn:=Tryz.f77) Tryz.func77 rfl Tryz.call77 ⟨rfl,rfl,by simp⟩ fun K hK=>?_;have hmw:m.wt=1+m.path.size+aZ Im.wt m.imports+aZ Dc.wt m.decls:=rfl;have hmb:=m.hZ;have eU:m.imports.length≤1048576:=by have:=ca Im.wt (fun l=>by unfold Im.wt; omega) m.imports; omega
 have lF:vP m=(if gA m.path=false then 4 else if 16<m.imports.length∨64<m.decls.length∨4096<m.size then 7 else (iX (xL m.path) [] m.imports).2):=rfl;simp only [oT,pB];simp only [go_sem];refine cF (kP hG m.path (by omega)) ?_;rintro _ rfl;simp only [go_sem];refine bY (fun hc5=>?_) (fun hc5=>?_);·(have ck:4=vP m:=by rw [lF,if_pos (by simpa using hc5)]);simp only [go_sem];exact hK _ (congrArg num ck)
 rw [if_neg (by simpa using hc5)] at lF;simp only [go_sem];refine bY (fun sw=>?_) (fun sw=>?_);·(have ck:7=vP m:=by rw [lF,if_pos (.inl (by have:=of_decide_eq_true sw; omega))]);simp only [go_sem];exact hK _ (congrArg num ck)
 simp only [go_sem];refine bY (fun Ia=>?_) (fun Ia=>?_);·(have ck:7=vP m:=by rw [lF,if_pos (.inr (.inl (by have:=of_decide_eq_true Ia; omega)))]);simp only [go_sem];exact hK _ (congrArg num ck)
 simp only [go_sem];refine cF (by have h:=La m (by omega); rw [oT] at h; simp only [pB] at h; exact⟨_,rfl,h⟩) ?_;rintro _ rfl;simp only [go_sem];refine bY (fun pC=>?_) (fun pC=>?_);·(have ck:7=vP m:=by rw [lF,if_pos (.inr (.inr (by have:=of_decide_eq_true pC; omega)))]);simp only [go_sem];exact hK _ (congrArg num ck)
 rw [if_neg (by have h1_:=of_decide_eq_false sw; have h2_:=of_decide_eq_false Ia; have h3_:=of_decide_eq_false pC; omega)] at lF;simp only [go_sem];refine iB tt_ok [] [29] 1 [1,5,10,27,28] (fun vs=>((m.imports.length:Int)-Go.Eng.intOf (vs.headD .undef)).toNat) (fun vs=>∃ i:Nat,vs=[num i]∧i≤m.imports.length∧iX (xL m.path) [] m.imports=mN i (iX (xL m.path) (m.imports.take i) (m.imports.drop i))) (by omega) (by simp only [go_sem]) (⟨0,rfl,bx _,xd.symm⟩) fun vs hI Z1 ee=>?_;obtain⟨i,rfl,hi,hinv⟩:=hI;simp only [go_sem];refine bY (fun z1=>?_) (fun z1=>?_);·(have bX:i<m.imports.length:=by simpa using z1);obtain⟨y,hx⟩:∃ y,m.imports[i]?=some y:=⟨_,ah bX⟩;have j7:=bB i (by omega);have hyw:=cb Im.wt hx;have hyd:y.wt=1+y.path.size+y.alias.size:=rfl;have hcut:=yE m.imports bQ 2 (fun _=>rfl) i (by omega);simp only [ae,hx,bQ,hcut,j7,go_sem];refine cF (kP hG y.path (by omega)) ?_;rintro _ rfl;simp only [ae,hx,bQ,hcut,j7,go_sem];refine bY (fun abG=>?_) (fun abG=>?_);(·(have hz:(iX (xL m.path) [] m.imports).2=4:=by rw [hinv]; exact u1 (xL m.path) hx (by unfold xL; clear lF hK; simp_all) (by decide));(have ck:4=vP m:=by rw [lF,hz]);simp only [ae,hx,bQ,hcut,j7,go_sem];exact hK _ (congrArg num ck));simp only [ae,hx,bQ,hcut,j7,go_sem];refine cF (iC hG _) ?_;rintro _ rfl;simp only [ae,hx,bQ,hcut,j7,go_sem];refine bY (fun Le=>?_) (fun Le=>?_);(·(have hz:(iX (xL m.path) [] m.imports).2=4:=by rw [hinv]; exact u1 (xL m.path) hx (by unfold xL; clear lF hK; simp_all) (by decide));(have ck:4=vP m:=by rw [lF,hz]);simp only [ae,hx,bQ,hcut,j7,go_sem];exact hK _ (congrArg num ck));simp only [ae,hx,bQ,hcut,j7,go_sem];refine bY (fun ahn=>?_) (fun ahn=>?_);(·(have hz:(iX (xL m.path) [] m.imports).2=14:=by rw [hinv]; exact u1 (xL m.path) hx (by unfold xL; clear lF hK; simp_all) (by decide));(have ck:14=vP m:=by rw [lF,hz]);simp only [ae,hx,bQ,hcut,j7,go_sem];exact hK _ (congrArg num ck));simp only [ae,hx,bQ,hcut,j7,go_sem];refine cS (O5 _ (fun n hn=>rfl) y 131 (fun x=>decide (x.path=y.path)||decide (x.alias=y.alias)) (m.imports.take i) (fun x _=>XL _ (fun n hn=>rfl) y x) (by rw [dz]; omega)) ?_;rintro _ rfl;simp only [ae,hx,bQ,hcut,j7,go_sem];refine bY (fun AN=>?_) (fun AN=>?_);(·(have hz:(iX (xL m.path) [] m.imports).2=5:=by rw [hinv]; exact u1 (xL m.path) hx (by unfold xL; clear lF hK; simp_all) (by decide));(have ck:5=vP m:=by rw [lF,hz]);simp only [ae,hx,bQ,hcut,j7,go_sem];exact hK _ (congrArg num ck));simp only [ae,hx,bQ,hcut,j7,go_sem];refine ee _ (oj (by omega) (by simp only [ae,hx,bQ,hcut,j7,go_sem]) ?_ ?_) <;> simp only [fC,lk,reduceIte,zE];(·exact⟨i+1,rfl,bX,hinv.trans (FT (xL m.path) hx (by unfold xL; simp_all))⟩);simp only [Go.Eng.intOf,cM]; omega
 have jw:¬ i<m.imports.length:=by simpa using z1
 have hz:(iX (xL m.path) [] m.imports).2=0:=by rw [hinv,dX (by omega)]; rfl
 have ck:0=vP m:=by rw [lF,hz]
 simp only [go_sem];exact hK _ (congrArg num ck)
end
section
attribute [local go_sem] ag
theorem nC (hG:a6.g=some 1) (m:Md) (hw:m.wt≤1048576):∃ r_,(fun w=>w = .eC [num (qb m).1,num (qb m).2]) r_∧bG ab 31 [gN m] r_:=by
 refine kc tt_ok [] 32 [.tmp 2,.tmp 3] (fn:=Tryz.f31) Tryz.func31 rfl Tryz.call31 ⟨rfl,rfl,by simp⟩ fun K hK=>?_;have hmw:m.wt=1+m.path.size+aZ Im.wt m.imports+aZ Dc.wt m.decls:=rfl;have kq:m.decls.length≤1048576:=by have:=ca Dc.wt (fun l=>by unfold Dc.wt; omega) m.decls; omega
 simp only [oT,pB];simp only [go_sem];refine cF (by have h:=SN hG m hw; rw [oT] at h; simp only [pB] at h; exact h) ?_;rintro _ rfl;simp only [go_sem];refine bY (fun te=>?_) (fun te=>?_);·(have dK:vP m≠0:=by simpa using te);(have ck:qb m=(-1,vP m):=by unfold qb; rw [if_pos dK]);simp only [go_sem];exact hK _ (by rw [ck] <;> rfl)
 have Nb:vP m=0:=by simpa using te
 have hcm:qb m=((((iX r8 [] m.decls).1:Nat):Int),(iX r8 [] m.decls).2):=by unfold qb; rw [if_neg (by simp [Nb])]
 simp only [go_sem];refine iB tt_ok [] [16] 1 [1,11,14,15] (fun vs=>((m.decls.length:Int)-Go.Eng.intOf (vs.headD .undef)).toNat) (fun vs=>∃ i:Nat,vs=[num i]∧i≤m.decls.length∧iX r8 [] m.decls=mN i (iX r8 (m.decls.take i) (m.decls.drop i))) (by omega) (by simp only [go_sem]) (⟨0,rfl,bx _,xd.symm⟩) fun vs hI Z1 ee=>?_;obtain⟨i,rfl,hi,hinv⟩:=hI;simp only [go_sem];refine bY (fun XY=>?_) (fun XY=>?_);·(have bX:i<m.decls.length:=by simpa using XY);obtain⟨d,hx⟩:∃ d,m.decls[i]?=some d:=⟨_,ah bX⟩;have j7:=bB i (by omega);have hdw:=cb Dc.wt hx;have hcut:=yE m.decls aL 31 (fun _=>rfl) i (by omega);simp only [ae,hx,aL,ai,aC,aj,ak,hcut,j7,go_sem];refine dT tt_ok bU [⟨.r,0,[],[],[]⟩,⟨.n,0,[],[],[]⟩,⟨.r,0,[],[],[]⟩,⟨.n,0,[],[],[]⟩,⟨.r,0,[],[],[]⟩,⟨.n,0,[],[],[]⟩,⟨.n,0,[],[],[]⟩] 0 (by kernel_rfl) ?_;simp only [ae,hx,aL,ai,aC,aj,ak,hcut,j7,go_sem];refine cG (by have h:=SK hG d (m.decls.take i) (by omega) (by rw [dz]; omega); simp only [dO,aL,ai,aC] at h; exact h) ?_;rintro _ rfl;simp only [ae,hx,aL,ai,aC,aj,ak,hcut,j7,go_sem];refine bY (fun zy=>?_) (fun zy=>?_);(·(have dK:r8 (m.decls.take i) d≠0:=by simpa using zy);(have ck:qb m=((i:Int),r8 (m.decls.take i) d):=by rw [hcm,hinv,Ld r8 hx rfl dK]);simp only [ae,hx,aL,ai,aC,aj,ak,hcut,j7,go_sem];exact hK _ (by rw [ck] <;> rfl));(have hz:r8 (m.decls.take i) d=0:=by simpa using zy);simp only [ae,hx,aL,ai,aC,aj,ak,hcut,j7,go_sem];refine ee _ (oj (by omega) (by simp only [ae,hx,aL,ai,aC,aj,ak,hcut,j7,go_sem]) ?_ ?_) <;> simp only [fC,lk,reduceIte,zE];(·exact⟨i+1,rfl,bX,hinv.trans (FT r8 hx hz)⟩);simp only [Go.Eng.intOf,cM]; omega
 have jw:¬ i<m.decls.length:=by simpa using XY
 have ck:qb m=(0,0):=by rw [hcm,hinv,dX (by omega)]; rfl
 simp only [go_sem];exact hK _ (by rw [ck] <;> rfl)
end
end
theorem kR {α:Type} (f:α→Int):∀ l:List α,ec f l=0→∀ x∈l,f x=0
 | [],_,x,h=>by cases h
 | u :: r,h,x,hx=>by
  unfold ec at h
  by_cases hu:f u=0
  ·rw [if_pos hu] at h
   cases hx with
   | head=>exact hu
   | tail _ hx=>exact kR f r h x hx
  rw [if_neg hu] at h; exact absurd h hu
theorem Ag {α:Type} (f:List α→α→Int):∀ (l b:List α),(iX f b l).2=0→∀ x∈l,∃ c,f c x=0
 | [],_,_,x,h=>by cases h
 | u :: r,b,h,x,hx=>by
  unfold iX at h
  by_cases hu:f b u=0
  ·rw [if_pos hu] at h
   by_cases h2:(iX f (b++[u]) r).2=0
   ·cases hx with
    | head=>exact⟨b,hu⟩
    | tail _ hx=>exact Ag f r _ h2 x hx
   rw [if_neg h2] at h; exact absurd h h2
  rw [if_neg hu] at h; exact absurd h hu
theorem FU (m:Md) (h:(qb m).2=0):∀ d∈m.decls,∃ c,r8 c d=0:=by
 unfold qb at h;by_cases h1:vP m≠0;·rw [if_pos h1] at h; exact absurd h h1
 rw [if_neg h1] at h; exact Ag r8 _ _ h
theorem Ju (c:List Dc) (d:Dc) (h:r8 c d=0):KJ d.expr=0:=by
 unfold r8 at h;split at h;·cases h
 split at h;·cases h
 split at h;·cases h
 split at h;·cases h
 split at h;·cases h
 split at h;·next h1=>exact absurd h h1
 exact h
theorem Ah (e:Ex) (h:KJ e=0):∀ y∈e.nodes,vd y=0:=by
 unfold KJ at h;split at h;·cases h
 exact kR _ _ h
theorem abI (y:Ex) (h:vd y=0) (hk:y.kind=13):y.kids.length≤y.labels.length+1:=by
 unfold vd at h;rw [hk,show nw 13=some ⟨⟨#[118]⟩,1,true,1⟩ from rfl] at h;dsimp only at h;split at h;·cases h
 next h1 =>
 have h2:n5 y ⟨#[118]⟩ 1 true 1=true:=by cases hf:n5 y ⟨#[118]⟩ 1 true 1;(·exact absurd hf h1);rfl
 unfold n5 at h2;simp only [aN,anS] at h2;have h9:=h2.1.2;unfold q9 uG at h9;rw [hk] at h9;simp at h9;omega
theorem UI (m:Md) (h:(qb m).2=0):∀ d∈m.decls,uT d.expr:=fun d hd y hy hk=>by obtain⟨c,hc⟩:=FU m h d hd;exact abI y (Ah _ (Ju c d hc) y hy) hk
theorem SO (l:List Dc):aZ Dc.size l≤aZ Dc.cy l:=by induction l with | nil=>exact aw _ | cons x r ih=>have:=Dc.size_le x; simp only [aZ] at *; omega
theorem UJ (m:Md) (h1:gA m.path=true) (h2:Nat.ble m.imports.length 16=true) (h3:Nat.ble m.decls.length 64=true) (h4:Nat.ble (1+m.imports.length+aZ Dc.cy m.decls) 4096=true)
  (h5:(iX (xL m.path) [] m.imports).2=0):vP m=0:=by
 have h2:=kg h2;have h3:=kg h3;have h4:=kg h4;have h6:=SO m.decls;have h7:m.size≤4096:=by unfold Md.size; omega
 unfold vP;rw [if_neg (by rw [h1]; simp),if_neg (by omega),h5]
def noZ:List UInt8→Bool
 | []=>true
 | b :: l=>!(b==32&&l.head?==some 122)&&noZ l
theorem Jv (r:List UInt8):∀ l,noZ l=true→Lib.index l (32 :: 122 :: r) = -1
 | [],_=>rfl
 | b :: l,h=>by
  unfold noZ at h
  simp only [aN] at h
  have hp:(32 :: 122 :: r:List UInt8).isPrefixOf (b :: l)=false:=by
   cases l with
   | nil=>simp [List.isPrefixOf]
   | cons c l =>
    have h1:=h.1
    simp only [anJ] at h1
    simp only [List.isPrefixOf]
    by_cases hb:b=32
    ·subst hb
     by_cases hc:c=122
     ·subst hc; exact absurd h1 (by decide)
     rw [show ((122:UInt8)==c)=false from by rw [beq_eq_false_iff_ne]; exact fun h=>hc h.symm]; simp
    rw [show ((32:UInt8)==b)=false from by rw [beq_eq_false_iff_ne]; exact fun h=>hb h.symm]; simp
  unfold Lib.index
  rw [hp,Jv r l h.2]
  simp
theorem XZ (s:ByteArray):kwB (zz s)=false:=by
 unfold kwB;have e:(⟨#[32]⟩++zz s++⟨#[32]⟩:ByteArray).data.toList=32 :: 122 :: (s.data.toList++[32]):=by rw [anw,anw,jr,jr,xP]; rfl
 rw [e];unfold Lib.contains;rw [Jv _ _ (by kernel_rfl)];rfl
theorem Jw (c:UInt8):∀ l:List UInt8,(∀ b∈l,b≠c)→Lib.index l [c] = -1
 | [],_=>rfl
 | b :: l,h=>by
  unfold Lib.index
  have h1:=h b (bJ ..)
  rw [show ([c]:List UInt8).isPrefixOf (b :: l)=false from by
   simp only [List.isPrefixOf]; rw [show (c==b)=false from by rw [beq_eq_false_iff_ne]; exact fun h=>h1 h.symm]; rfl,Jw c l fun b hb=>h b (bh _ hb)]
  simp
def tr (s:ByteArray):Prop:=eP s=true∧s.size≤20
theorem Da {s:ByteArray} (h:tr s):eP (zz s)=true:=by
 obtain⟨h,hs⟩:=h;unfold eP at h ⊢;simp only [aN,decide_eq_true_eq] at h;obtain⟨⟨⟨⟨h1,h2⟩,h3⟩,h4⟩,h5⟩:=h;have e0:kD (zz s) 0=122:=by (have:(zz s)[0]?=some 122:=by (have h0:(zz s).data.toList[0]?=some 122:=by rw [xP]; rfl);obtain⟨c,hc⟩:=jf (s:=zz s) (i:=0) (by rw [uU]; omega);have:=uo hc;rw [h0] at this;rw [hc]; exact this.symm);rw [j3 this]; rfl
 rw [uU,e0,XZ];have e4:pX AH (zz s)=true:=by unfold pX at h4 ⊢;rw [xP,cA,h4]; rfl
 rw [e4];simp only [aN,decide_eq_true_eq];exact⟨⟨⟨⟨by omega,by omega⟩,by decide⟩,trivial⟩,rfl⟩
theorem Ib {s:ByteArray} (h:eP s=true):gA s=false:=by
 unfold eP at h;simp only [aN] at h;have h4:=h.1.2;have hc:Lib.countB s ⟨#[47]⟩=0:=by refine Lib.countB_miss s ⟨#[47]⟩ ?_;refine Jw 47 s.data.toList fun b hb=>?_;unfold pX at h4;have:=aY.1 h4 b hb;rintro rfl;exact absurd this (by decide)
 unfold gA;rw [mb,hc];simp
theorem SP {s:ByteArray} (h:tr s):qM (zz s)=true:=by unfold qM; rw [Da h]; simp
theorem Db {k k0:Int} {m:ByteArray} (h:qM m=true) (hz:k=k0→m≠⟨#[]⟩→tr m):qM (zM k k0 m)=true:=by
 unfold zM;split;·rename_i h2; exact SP (hz h2.1 h2.2)
 exact h
theorem Ic {k k0:Int} {m:ByteArray} (h:gA m=false) (hz:k=k0→m≠⟨#[]⟩→tr m):gA (zM k k0 m)=false:=by
 unfold zM;split;·rename_i h2; exact Ib (Da (hz h2.1 h2.2))
 exact h
theorem oW {α:Type} (f:α→Int):∀ {l:List α},(∀ x∈l,f x=0)→ec f l=0
 | [],_=>rfl
 | u :: r,h=>by unfold ec; rw [if_pos (h u (bJ ..))]; exact oW f fun x hx=>h x (bh _ hx)
theorem X0 (l:List Fd):(l.map (Fd.res gZ)).any Fd.opt=l.any Fd.opt:=by rw [Qx]; congr 1; funext f; exact Fd.xM gZ f
theorem SQ (l:List Fd):((l.map (Fd.res gZ)).any fun f=>!eP f.name)=l.any fun f=>!eP f.name:=by rw [Qx]; congr 1; funext f; show (!eP (f.res gZ).name)=_; rw [Fd.oU]
theorem Pb (l:List Fd):(l.map (Fd.res gZ)).map Fd.name=l.map Fd.name:=by rw [ew]; exact dJ fun f _=>Fd.oU gZ f
theorem SR (t:Ty):QT t.bR=QT t:=by unfold QT;rw [t.eB,t.gP,t.e9,t.lj,t.mD,vX,ag,ag,X0]
theorem X1 {t:Ty} (h:Gj t=0) (hz:t.kind=10→t.mod≠⟨#[]⟩→tr t.mod):Gj t.bR=0:=by
 unfold Gj at h ⊢;rw [SR,t.eB,t.gP,t.e9,t.lj,t.mD,ag,ag,SQ,Pb];split at h;·cases h
 rename_i h1;rw [if_neg h1];split at h;·cases h
 rename_i h2;rw [if_neg h2];split at h;·cases h
 rename_i h3;have h3':¬ ((t.kind=9∧CF t.name=false)∨(t.kind=10∧(qM (zM t.kind 10 t.mod)=false∨m4 t.name=false))):=by rintro (h4 | ⟨h4,h5 | h5⟩);(·exact h3 (.inl h4));(·cases hm:qM t.mod with | false=>exact h3 (.inr ⟨h4,.inl hm⟩) | true=>rw [Db hm hz] at h5; cases h5);exact h3 (.inr ⟨h4,.inr h5⟩)
 rw [if_neg h3'];exact h
theorem Ty.we:∀ (N:Nat) (t:Ty),t.size≤N→t.bR.depth=t.depth:=by intro N;induction N with | zero=>intro t h; have:=t.size_pos; omega | succ N ih =>intro t h;rw [Ty.my,Ty.my t,Ty.vY,vM];congr 1;exact w8 fun x hx=>ih x (by have:=t.m7 hx; omega)
theorem FV {t:Ty} (h:rF t=0):∀ u∈t.nodes,Gj u=0:=by
 unfold rF at h;split at h;·cases h
 exact kR _ _ h
theorem Pc {t:Ty} (h:rF t=0) (hz:zT tr t):rF t.bR=0:=by
 have hn:=FV h;unfold rF at h ⊢;rw [Ty.iH _ t (aw _),Ty.we _ t (aw _),Ty.vZ _ t (aw _)];split at h;·cases h
 rename_i h1;rw [if_neg h1];refine oW _ fun x hx=>?_;obtain⟨u,hu,rfl⟩:=cu.1 hx;exact X1 (hn u hu) (hz u hu)
theorem abJ {t:Ty} (h:Gj t=0):(t.kind=9→t.mod=⟨#[]⟩)∧(t.kind=10∨t.kind=9→t.bd=[]):=by
 unfold Gj at h;split at h;·cases h
 rename_i h1;have hs:QT t=true:=by simpa using h1
 unfold QT at hs;have he:∀ s,gV s=true→s=⟨#[]⟩:=fun s h=>of_decide_eq_true h;have k:∀ n:Int,t.kind=n→(n=9∨n=10)→(n=9→t.mod=⟨#[]⟩)∧t.bd=[]:=by intro n hk hn;rw [hk] at hs;(rcases hn with rfl | rfl);(·simp at hs; exact⟨fun _=>he _ hs.2.1.1,hs.2.2⟩);simp at hs; exact⟨fun h=>absurd h (by decide),hs.2⟩
 refine⟨fun h9=>(k 9 h9 (.inl rfl)).1 rfl,fun h=>?_⟩;rcases h with h | h
 ·exact (k 10 h (.inr rfl)).2
 exact (k 9 h (.inl rfl)).2
theorem UK {t:Ty} (h:rF t=0):OG t:=fun u hu=>abJ (FV h u hu)
theorem nD (t:Ty):fi t.bR=fi t:=by unfold fi; rw [t.eB,t.gP,t.e9,t.lj,t.mD,vX,ag,ag]
theorem Pe (f:Lb→Bool) (l:List Lb) (h:∀ x,f (x.res gZ)=f x):(l.map (Lb.res gZ)).any f=l.any f:=by rw [Qx]; congr 1; funext x; exact h x
theorem X2 (l:List Lb):pD (l.map (Lb.res gZ))=pD l:=by unfold pD;rw [List.filter_map,ag]; rfl
theorem Pf (x:Ex) (fl:ByteArray) (ty:Int) (lb:Bool) (kd:Int):n5 x.bR fl ty lb kd=n5 x fl ty lb kd:=by
 have hk:uG x.bR kd=uG x kd:=by unfold uG; rw [x.eB,x.e9,x.fu,X2,ag]
 have hl:x.bR.labels.any (kQ fl)=x.labels.any (kQ fl):=by rw [x.fu];refine Pe _ _ fun l=>?_;unfold kQ;rw [show (l.res gZ).ty=l.ty.bR from rfl,nD]; rfl
 unfold n5 q1 q2 q3 q4 q5 q6 q7 q8 q9;rw [hk,hl,x.gP,x.e9,x.mE,x.C1,x.eB,x.j6,x.fu,x.jO,vX,ag,ag,ag]
theorem SS {x:Ex} {fl:ByteArray} (hz:x.kind=4→x.mod≠⟨#[]⟩→tr x.mod) (h:zh x fl=false):zh x.bR fl=false:=by
 have hl:x.bR.labels.any (uH fl)=x.labels.any (uH fl):=by rw [x.fu]; exact Pe _ _ fun l=>rfl
 have hm:m1 x fl=false→m1 x.bR fl=false:=by unfold m1;rw [x.gP];intro h;cases hf:r7 fl ⟨#[109]⟩ with | false=>rfl | true =>rw [hf] at h;(have:qM x.mod=true:=by simpa using h);rw [Db this hz]; rfl
 unfold zh at h ⊢;simp only [anu] at h ⊢;obtain⟨⟨⟨h1,h2⟩,h3⟩,h4⟩:=h;refine⟨⟨⟨hm h1,?_⟩,?_⟩,by rw [hl]; exact h4⟩;·unfold m2 at h2 ⊢; rw [x.eB,x.e9]; exact h2
 unfold m3 at h3 ⊢; rw [x.eB,x.mE]; exact h3
theorem X3 {x:Ex} (h:vd x=0) (hz:x.kind=4→x.mod≠⟨#[]⟩→tr x.mod) (ho:∀ t∈x.own,zT tr t):vd x.bR=0:=by
 unfold vd at h ⊢;rw [x.eB];split at h;·cases h
 rename_i f hf;try rw [hf]
 try dsimp only
 rw [Pf,x.fu,x.j6,x.mE,x.e9,x.Jo,ag,ag,ew,show (Lb.name∘Lb.res gZ)=Lb.name from rfl];split at h;·cases h
 rename_i h1;rw [if_neg h1];split at h;·cases h
 rename_i h2;rw [if_neg h2];split at h;·cases h
 rename_i h3;rw [if_neg (by rw [SS hz (by simpa using h3)]; simp)];split at h;·rename_i h4; exact absurd h h4
 rename_i h4;rw [if_neg h4];split at h;·cases h
 rename_i h5;rw [if_neg h5];refine oW _ fun y hy=>?_;obtain⟨t,ht,rfl⟩:=cu.1 hy;exact Pc (kR _ _ h t ht) (ho t ht)
theorem Ex.we:∀ (N:Nat) (x:Ex),x.size≤N→x.bR.depth=x.depth:=by intro N;induction N with | zero=>intro t h; have:=t.size_pos; omega | succ N ih =>intro x h;rw [Ex.uE,Ex.uE x,Ex.jO,vM];congr 1;exact w8 fun y hy=>ih y (by have:=x.v7 hy; omega)
theorem X4 {x:Ex} (h:KJ x=0) (hz:zX tr x):KJ x.bR=0:=by
 have hn:=Ah x h;unfold KJ at h ⊢;rw [Ex.iH _ x (aw _),Ex.we _ x (aw _),Ex.vZ _ x (aw _)];split at h;·cases h
 rename_i h1;rw [if_neg h1];refine oW _ fun y hy=>?_;obtain⟨u,hu,rfl⟩:=cu.1 hy;exact X3 (hn u hu) (hz u hu).1 (hz u hu).2
theorem ahp {k:Int} {f:Fo} (hf:nw k=some f) (hk:k≠8):r7 f.fl ⟨#[116]⟩=false:=by
 unfold nw at hf;by_cases h0:k=0;·rw [if_pos h0] at hf; cases hf; kernel_rfl
 rw [if_neg h0] at hf;by_cases h1:k=1;·rw [if_pos h1] at hf; cases hf; kernel_rfl
 rw [if_neg h1] at hf;by_cases h2:k=2;·rw [if_pos h2] at hf; cases hf; kernel_rfl
 rw [if_neg h2] at hf;by_cases h3:k=3;·rw [if_pos h3] at hf; cases hf; kernel_rfl
 rw [if_neg h3] at hf;by_cases h4:k=4;·rw [if_pos h4] at hf; cases hf; kernel_rfl
 rw [if_neg h4] at hf;by_cases h5:k=5;·rw [if_pos h5] at hf; cases hf; kernel_rfl
 rw [if_neg h5] at hf;by_cases h6:k=6;·rw [if_pos h6] at hf; cases hf; kernel_rfl
 rw [if_neg h6] at hf;by_cases h7:k=7;·rw [if_pos h7] at hf; cases hf; kernel_rfl
 rw [if_neg h7] at hf;by_cases h8:k=8;·exact absurd h8 hk
 rw [if_neg h8] at hf;by_cases h9:k=9;·rw [if_pos h9] at hf; cases hf; kernel_rfl
 rw [if_neg h9] at hf;by_cases Mj:k=10;·rw [if_pos Mj] at hf; cases hf; kernel_rfl
 rw [if_neg Mj] at hf;by_cases Vw:k=11;·rw [if_pos Vw] at hf; cases hf; kernel_rfl
 rw [if_neg Vw] at hf;by_cases h12:k=12;·rw [if_pos h12] at hf; cases hf; kernel_rfl
 rw [if_neg h12] at hf;by_cases AL:k=13;·rw [if_pos AL] at hf; cases hf; kernel_rfl
 rw [if_neg AL] at hf;by_cases UE:k=14;·rw [if_pos UE] at hf; cases hf; kernel_rfl
 rw [if_neg UE] at hf;by_cases h15:k=15;·rw [if_pos h15] at hf; cases hf; kernel_rfl
 rw [if_neg h15] at hf;by_cases XB:k=16;·rw [if_pos XB] at hf; cases hf; kernel_rfl
 rw [if_neg XB] at hf;cases hf
theorem abK {x:Ex} (h:vd x=0):(x.kind=3→x.mod=⟨#[]⟩)∧(x.kind=3∨x.kind=4→x.labels=[])∧(x.kind≠8→∀ l∈x.labels,fi l.ty=true)∧∀ t∈x.own,OG t:=by
 unfold vd at h;split at h;·cases h
 rename_i f hf;split at h;·cases h
 rename_i h1;have Au:n5 x f.fl f.ty f.lb f.kd=true:=by simpa using h1
 unfold n5 at Au;simp only [aN] at Au;obtain⟨⟨⟨⟨⟨⟨⟨⟨⟨h1,h2⟩,h3⟩,h4⟩,h5⟩,h6⟩,h7⟩,h8⟩,h9⟩,Mj⟩:=Au;refine⟨fun hk=>?_,fun hk=>?_,fun hk l hl=>?_,fun t ht=>?_⟩;·rw [hk,show nw 3=some ⟨⟨#[110]⟩,0,false,0⟩ from rfl] at hf;cases hf;unfold q1 at h1;rw [show r7 ⟨#[110]⟩ ⟨#[109]⟩=false from by kernel_rfl] at h1;(have:gV x.mod=true:=by simpa using h1);exact of_decide_eq_true this
 ·(have hlb:f.lb=false:=by (rcases hk with hk | hk <;> rw [hk] at hf);(·rw [show nw 3=some ⟨⟨#[110]⟩,0,false,0⟩ from rfl] at hf; cases hf; rfl);rw [show nw 4=some ⟨⟨#[109,110]⟩,-1,false,0⟩ from rfl] at hf; cases hf; rfl);unfold q8 at h8;rw [hlb] at h8;(have:¬ 0<x.labels.length:=by simpa using h8);exact anb (by omega)
 ·(have hb:kQ f.fl l=false:=by have:=Mj;rw [anS] at this;exact (ano.1 this l hl) |> fun h=>by simpa using h);unfold kQ at hb;simp only [anu] at hb;have h2:=hb.1.2;have ht:r7 f.fl ⟨#[116]⟩=false:=ahp hf hk;rw [ht] at h2;simpa using h2
 have h':=h;split at h';·cases h'
 split at h';·cases h'
 split at h';·rename_i h4; exact absurd h' h4
 split at h';·cases h'
 exact UK (kR _ _ h' t ht)
theorem mF {α:Type} {f f':Bool→α→Bool}:∀ {l:List α} {e:Bool},(∀ x∈l,∀ e,f e x=true→e=true∧f' true x=true)→l.foldl f e=true→e=true∧l.foldl f' true=true
 | [],e,_,h=>⟨h,rfl⟩
 | a :: r,e,hl,h=>by
  obtain⟨h1,h2⟩:=mF (l:=r) (e:=f e a) (fun x hx=>hl x (bh _ hx)) h
  obtain⟨h4,h5⟩:=hl a (bJ ..) e h1
  exact⟨h4,by rw [eZ,h5]; exact h2⟩
theorem Jx {A:ByteArray→Prop} {t p:Ty} (h:zT A t) (hp:p∈t.parts):zT A p:=fun u hu=>h u (by rw [t.dD]; exact bh _ (gU.2 ⟨p,hp,hu⟩))
theorem SU {A:ByteArray→Prop} {t:Ty} (h:zT A t):t.kind=10→t.mod≠⟨#[]⟩→A t.mod:=h t (by rw [t.dD]; exact bJ ..)
theorem X5 {A:ByteArray→Prop} {x k:Ex} (h:zX A x) (hk:k∈x.kids):zX A k:=fun u hu=>h u (by rw [x.dD]; exact bh _ (gU.2 ⟨k,hk,hu⟩))
theorem SV {A:ByteArray→Prop} {x:Ex} (h:zX A x):(x.kind=4→x.mod≠⟨#[]⟩→A x.mod)∧∀ t∈x.own,zT A t:=h x (by rw [x.dD]; exact bJ ..)
theorem mO {a b:Bool} (h:(a&&b)=true):a=true∧b=true:=by simpa using h
theorem X6 {t:Ty} (hz:t.kind=10→t.mod≠⟨#[]⟩→tr t.mod) (h:qT t=true):qT t.bR=true:=by unfold qT at h ⊢;obtain⟨h1,h2⟩:=mO h;rw [t.eB,t.gP,h1,Ic (by simpa using h2) hz]; rfl
theorem X7 {x:Ex} (hz:x.kind=4→x.mod≠⟨#[]⟩→tr x.mod) (h:qX x=true):qX x.bR=true:=by
 unfold qX at h ⊢;rw [x.eB,x.gP,x.j6,ag];have e:decide (zM x.kind 4 x.mod=⟨#[]⟩)=decide (x.mod=⟨#[]⟩):=decide_eq_decide.2 su;rw [e];rcases (am4 ..).mp h with h | h
 ·rw [h]; rfl
 obtain⟨h1,h2⟩:=mO h;rw [Ic (by simpa using h1) hz,h2]; simp
theorem wg (vs:List ByteArray):∀ (N:Nat) (t:Ty),t.size≤N→zT tr t→∀ e,t.fold (gQ vs) (sQ vs) e=true→e=true∧t.bR.fold (gQ vs) (sQ vs) true=true:=by intro N;induction N with | zero=>intro t h; have:=t.size_pos; omega | succ N ih =>intro t hN hz e he;have IA:∀ x∈t.args,x∈t.parts:=fun x hx=>dU _ hx;have LJ:∀ f∈t.bd,f.ty∈t.parts:=fun f hf=>dG _ (cu.2 ⟨f,hf,rfl⟩);(have hn:∀ u:Ty,om (gQ vs) u=some u.mod:=fun u=>by unfold om gQ; split <;> rfl);rw [Ty.fold_eq,hn] at he ⊢;dsimp only at he ⊢;obtain⟨f1,f2⟩:=mF (f':=fun a f=>f.ty.bR.fold (gQ vs) (sQ vs) a) (fun f hf e h=>ih f.ty (by have:=t.m7 (LJ f hf); omega) (Jx hz (LJ f hf)) e h) he;obtain⟨a1,a2⟩:=mF (f':=fun a t=>t.bR.fold (gQ vs) (sQ vs) a) (fun x hx e h=>ih x (by have:=t.m7 (IA x hx); omega) (Jx hz (IA x hx)) e h) f1;(have hs:e=true∧(if t.bR.kind=10∨t.bR.kind=9 then sQ vs true t.bR else true)=true:=by rw [t.eB];by_cases hk:t.kind=10∨t.kind=9;(·rw [if_pos hk] at a1 ⊢;unfold sQ at a1 ⊢;obtain⟨h1,h2⟩:=mO a1;exact⟨h1,by rw [X6 (SU hz) h2]; rfl⟩);rw [if_neg hk] at a1 ⊢;exact⟨a1,rfl⟩);refine⟨hs.1,?_⟩;rw [hs.2,t.lj,t.mD,pL,pL,a2];(have e1:(fun (a:Bool) (f:Fd)=>(f.res gZ).ty.fold (gQ vs) (sQ vs) a)=fun a f=>f.ty.bR.fold (gQ vs) (sQ vs) a:=by funext a f; rw [Fd.qS]; rfl);rw [e1]; exact f2
theorem Jy {vs:List ByteArray} {lo:Nat→List ByteArray}:∀ {ks:List Ex} {i:Nat} {e:Bool},
  (∀ k∈ks,∀ loc e,k.fold (gQ vs) hQ (sQ vs) vQ loc e=true→e=true∧k.bR.fold (gQ vs) hQ (sQ vs) vQ loc true=true) →
  dB (gQ vs) hQ (sQ vs) vQ lo i ks e=true→e=true∧dB (gQ vs) hQ (sQ vs) vQ lo i (ks.map Ex.bR) true=true
 | [],i,e,_,h=>by
  rw [dB] at h
  exact⟨h,by rw [dY,dB]⟩
 | k :: r,i,e,hk,h=>by
  rw [dB] at h
  obtain⟨h1,h2⟩:=Jy (ks:=r) (fun k jA=>hk k (bh _ jA)) h
  obtain⟨k1,k2⟩:=hk k (bJ ..) _ _ h1
  exact⟨k1,by rw [cB,dB,k2]; exact h2⟩
theorem X8 (vs:List ByteArray):∀ (N:Nat) (x:Ex),x.size≤N→zX tr x→∀ loc e,x.fold (gQ vs) hQ (sQ vs) vQ loc e=true→e=true∧x.bR.fold (gQ vs) hQ (sQ vs) vQ loc true=true:=by intro N;induction N with | zero=>intro t h; have:=t.size_pos; omega | succ N ih =>intro x hN hz loc e he;obtain⟨Va,hz2⟩:=SV hz;(have hH:∀ u:Ex,jL hQ loc u=(u.kind,u.mod):=fun u=>by unfold jL hQ; split <;> rfl);(have nP:LI hQ x.bR loc=LI hQ x loc:=by unfold LI;rw [hH,hH,x.eB,x.fu,x.e9,x.mE,x.jO,ag,Jp]);rw [Ex.fold_eq] at he;obtain⟨k1,k2⟩:=Jy (fun k hk loc e h=>ih k (by have:=x.v7 hk; omega) (X5 hz hk) loc e h) he;rw [hH] at k1;have lt:=fun (l:Lb) (hl:l∈(if x.kind=8 then x.labels else [])) (e:Bool) (h0:l.ty.fold (gQ vs) (sQ vs) e=true)=>wg vs l.ty.size l.ty (aw _) (hz2 l.ty (by unfold Ex.own;split at hl;(·rename_i hk; rw [if_pos hk]; exact dG _ (cu.2 ⟨l,hl,rfl⟩));cases hl)) e h0;obtain⟨l1,l2⟩:=mF (f':=fun a (l:Lb)=>l.ty.bR.fold (gQ vs) (sQ vs) a) lt k1;obtain⟨t1,t2⟩:=mF (f':=fun a (t:Ty)=>t.bR.fold (gQ vs) (sQ vs) a) (fun t ht e h0=>wg vs t.size t (aw _) (hz2 t (dU _ ht)) e h0) l1;(have hv:e=true∧(if x.kind=3∨x.kind=4 then vQ loc true x.bR else true)=true:=by by_cases hk:x.kind=3∨x.kind=4;(·rw [if_pos hk] at t1 ⊢;unfold vQ at t1 ⊢;obtain⟨v1,v2⟩:=mO t1;exact⟨v1,by rw [X7 Va v2]; rfl⟩);rw [if_neg hk] at t1 ⊢;exact⟨t1,rfl⟩);refine⟨hv.1,?_⟩;rw [Ex.fold_eq,nP,hH,x.eB,x.fu,x.j6,x.jO,pL,hv.2,t2];dsimp only;(have e1:((if x.kind=8 then x.labels.map (Lb.res gZ) else []).foldl (fun a l=>l.ty.fold (gQ vs) (sQ vs) a) true:Bool)=true:=by (have:(if x.kind=8 then x.labels.map (Lb.res gZ) else [])=(if x.kind=8 then x.labels else []).map (Lb.res gZ):=by split <;> rfl);rw [this,pL];exact l2);rw [e1];exact k2
theorem Jz:∀ (ps:List Pm) (vs:List ByteArray) (e:Bool),(∀ p∈ps,zT tr p.bound)→eA gQ sQ vs ps e=true→e=true∧eA gQ sQ vs (ps.map Pm.bR) true=true
 | [],vs,e,_,h0=>⟨h0,rfl⟩
 | p :: r,vs,e,hp,h0=>by
  rw [eA] at h0
  obtain⟨h1,h2⟩:=Jz r _ _ (fun p LF=>hp p (bh _ LF)) h0
  obtain⟨t1,t2⟩:=wg vs p.bound.size p.bound (aw _) (hp p (bJ ..)) _ h1
  refine⟨t1,?_⟩
  rw [cB,eA]
  show eA _ _ (vs++[p.name]) _ (p.bound.bR.fold (gQ vs) (sQ vs) true)=true
  rw [t2]; exact h2
theorem SX (d:Dc):eS d.bR=eS d:=by unfold eS Dc.bR; dsimp only; rw [ew]; rfl
theorem SY {d:Dc} (hT:∀ t∈d.Jq,zT tr t) (hX:zX tr d.expr) (hm:d.kind=2→tr d.mod) (h:mC d=true):mC d.bR=true:=by unfold mC at h ⊢;obtain⟨h1,h2⟩:=mO h;have mem:∀ {t},t=d.lower∨t=d.upper∨t=d.type→zT tr t:=fun {t} ht=>hT t (by unfold Dc.Jq; exact dU _ (by simpa using ht));have e1:gA d.bR.mod=false:=Ic (k:=d.kind) (by simpa using h1) fun hk _=>hm hk;rw [e1];unfold Xq at h2 ⊢;rw [SX];obtain⟨x1,x2⟩:=X8 (eS d) d.expr.size d.expr (aw _) hX _ _ h2;obtain⟨a1,a2⟩:=wg (eS d) d.type.size d.type (aw _) (mem (.inr (.inr rfl))) _ x1;obtain⟨b1,b2⟩:=wg (eS d) d.upper.size d.upper (aw _) (mem (.inr (.inl rfl))) _ a1;obtain⟨c1,c2⟩:=wg (eS d) d.lower.size d.lower (aw _) (mem (.inl rfl)) _ b1;obtain⟨p1,p2⟩:=Jz d.params [] _ (fun p hp=>hT p.bound (dG _ (cu.2 ⟨p,hp,rfl⟩))) c1;show (!false&&d.expr.bR.fold _ _ _ _ [] (d.type.bR.fold _ _ (d.upper.bR.fold _ _ (d.lower.bR.fold _ _ (eA _ _ [] (d.params.map Pm.bR) true)))))=true;rw [p2,c2,b2,a2,x2]; rfl
theorem Lf (x:Ex):nx x.bR=nx x:=by unfold nx; rw [x.eB,x.gP,x.e9,x.mE,x.C1,x.j6,x.fu,x.jO,vX,ag,ag,ag]
theorem Dd (f:Pm→Bool) (l:List Pm) (h:∀ p,f p.bR=f p):(l.map Pm.bR).any f=l.any f:=by rw [Qx]; congr 1; funext x; exact h x
theorem Lg (d:Dc):wZ d.bR=wZ d:=by
 have e0:d.bR.params=d.params.map Pm.bR:=rfl;have e1:(d.bR.params.any fun p=>!fi p.bound)=d.params.any fun p=>!fi p.bound:=Dd _ _ fun p=>by show (!fi p.bound.bR)=_; rw [nD]
 have e2:(d.bR.params.any fun p=>decide (p.ef<0)||decide (2<p.ef))=d.params.any fun p=>decide (p.ef<0)||decide (2<p.ef):=Dd _ _ fun p=>rfl;have e3:(d.bR.params.any fun p=>!decide (p.ef=0))=d.params.any fun p=>!decide (p.ef=0):=Dd _ _ fun p=>rfl;have e4:d.bR.params.length=d.params.length:=ag _;have e5:gV d.bR.mod=gV d.mod:=vX ..;unfold wZ;rw [e1,e2,e3,e4,e5,show d.bR.expr=d.expr.bR from rfl,Lf,show d.bR.lower=d.lower.bR from rfl,show d.bR.upper=d.upper.bR from rfl,show d.bR.type=d.type.bR from rfl,nD,nD,nD];rfl
theorem Pg {d:Dc} (hm:d.kind=2→tr d.mod) (h:CO d=true):CO d.bR=true:=by
 have e1:(d.bR.params.any fun p=>!m4 p.name)=d.params.any fun p=>!m4 p.name:=Dd _ _ fun p=>rfl;have e5:gV d.bR.mod=gV d.mod:=vX ..;unfold CO at h ⊢;rw [e1,e5,show d.bR.kind=d.kind from rfl,show d.bR.name=d.name from rfl,show d.bR.target=d.target from rfl];obtain⟨h1,h2⟩:=mO h;rw [h1];by_cases k0:d.kind=0;·rw [if_pos k0] at h2 ⊢; rw [h2]; rfl
 rw [if_neg k0] at h2 ⊢;by_cases k1:d.kind=1;·rw [if_pos k1] at h2 ⊢; rw [h2]; rfl
 rw [if_neg k1] at h2 ⊢;obtain⟨h3,h4⟩:=mO h2;obtain⟨h5,h6⟩:=mO h3;rw [h5,h6,show qM d.bR.mod=true from Db (k:=d.kind) h4 fun hk _=>hm hk]; rfl
theorem De {c:List Dc} {d:Dc} (h:r8 c d=0):wZ d=true∧CO d=true∧(∀ t∈d.Jq,rF t=0)∧KJ d.expr=0:=by
 have hx:=Ju c d h;unfold r8 at h;split at h;·cases h
 rename_i h1;split at h;·cases h
 split at h;·cases h
 rename_i h3;split at h;·cases h
 split at h;·cases h
 split at h;·rename_i h4; exact absurd h h4
 rename_i h4;exact⟨by simpa using h1,by simpa using h3,fun t ht=>kR _ _ (anq.1 h4) t ht,hx⟩
theorem Ph {c:List Dc} {d:Dc} (h:r8 c d=0):¬ (8<d.params.length∨65536<d.note.size)∧¬ (c.any fun x=>decide (x.name=d.name))=true∧¬ vN (d.params.map Pm.name)=true:=by
 unfold r8 at h;split at h;·cases h
 split at h;·cases h
 rename_i h2;split at h;·cases h
 split at h;·cases h
 rename_i h4;split at h;·cases h
 rename_i h5;exact⟨h2,h4,h5⟩
theorem SZ (d:Dc):d.bR.Jq=d.Jq.map Ty.bR:=by unfold Dc.Jq Dc.bR;dsimp only;rw [j8,ew,ew]; rfl
theorem X9 {c:List Dc} {d:Dc} (hT:∀ t∈d.Jq,zT tr t) (hX:zX tr d.expr) (hm:d.kind=2→tr d.mod) (h:r8 c d=0):r8 (c.map Dc.bR) d.bR=0:=by
 obtain⟨h1,h2,h3,h4⟩:=De h;have h0:=h;clear h;unfold r8;rw [Lg,Pg hm h2];have e1:((c.map Dc.bR).any fun x=>decide (x.name=d.bR.name))=c.any fun x=>decide (x.name=d.name):=by rw [Qx]; rfl
 have e2:d.bR.params.map Pm.name=d.params.map Pm.name:=by show (d.params.map Pm.bR).map Pm.name=_; rw [ew]; rfl
 have e3:d.bR.params.length=d.params.length:=ag _;have e4:ec rF ([d.bR.lower,d.bR.upper,d.bR.type]++d.bR.params.map Pm.bound)=0:=by show ec rF d.bR.Jq=0;rw [SZ];refine oW _ fun y hy=>?_;obtain⟨t,ht,rfl⟩:=cu.1 hy;exact Pc (h3 t ht) (hT t ht)
 rw [e1,e2,e3,e4,show d.bR.note=d.note from rfl,show d.bR.expr=d.expr.bR from rfl,X4 h4 hX];obtain⟨f1,f2,f3⟩:=Ph h0;rw [h1,if_neg (by simp),if_neg f1,if_neg (by simp),if_neg f2,if_neg f3,if_neg (by simp)]
def Im.bR (x:Im):Im := { x with alias:=zz x.alias }
def Md.bR (m:Md):Md:=⟨m.path,m.imports.map Im.bR,m.decls.map Dc.bR⟩
theorem Df {α:Type} {f:List α→α→Int} {r:α→α}:∀ (l c:List α),(∀ c,∀ x∈l,f c x=0→f (c.map r) (r x)=0)→(iX f c l).2=0→(iX f (c.map r) (l.map r)).2=0
 | [],_,_,_=>rfl
 | u :: l,c,hr,h=>by
  unfold iX at h
  split at h
  ·rename_i h1
   split at h
   ·rename_i h2
    have h3:=Df l (c++[u]) (fun c x hx=>hr c x (bh _ hx)) h2
    simp only [j8,cB,dY] at h3
    rw [cB,iX,if_pos (hr c u (bJ ..) h1),if_pos h3]
   rename_i h2; exact absurd h h2
  rename_i h1; exact absurd h h1
theorem Ya {p:ByteArray} {c:List Im} {x:Im} (hx:x.alias.size≤20) (h:xL p c x=0):xL p (c.map Im.bR) x.bR=0:=by
 unfold xL at h ⊢;split at h;·cases h
 rename_i h1;split at h;·cases h
 rename_i h2;split at h;·cases h
 rename_i h3;have hn:eP x.alias=true:=by cases hb:eP x.alias with | true=>rfl | false=>exact absurd (.inr hb) h1
 have h1':¬ (gA x.bR.path=false∨eP x.bR.alias=false):=by rintro (h | h);(·exact h1 (.inl h));rw [show x.bR.alias=zz x.alias from rfl,Da ⟨hn,hx⟩] at h; cases h
 rw [if_neg h1',if_neg (show ¬ x.bR.path=p from h2)];have e:((c.map Im.bR).any fun y=>decide (y.path=x.bR.path)||decide (y.alias=x.bR.alias))=c.any fun y=>decide (y.path=x.path)||decide (y.alias=x.alias):=by rw [Qx]; congr 1; funext y;show (decide (y.path=x.path)||decide (zz y.alias=zz x.alias))=_;rw [decide_eq_decide.2 OE]
 rw [e,if_neg h3]
theorem Dc.iH (d:Dc):d.bR.size≤d.size:=by
 unfold Dc.size;rw [show d.bR.kind=d.kind from rfl,show d.bR.params.length=d.params.length from ag _,show d.bR.type.size=d.type.size from Ty.iH _ _ (aw _),show d.bR.lower.size=d.lower.size from Ty.iH _ _ (aw _),show d.bR.upper.size=d.upper.size from Ty.iH _ _ (aw _),show d.bR.expr.size=d.expr.size from Ex.iH _ _ (aw _)];have e:aZ (fun p:Pm=>p.bound.size) d.bR.params=aZ (fun p:Pm=>p.bound.size) d.params:=by show aZ _ (d.params.map Pm.bR)=_;rw [ez];exact n6 fun p _=>Ty.iH _ p.bound (aw _)
 rw [e];by_cases hc:d.clear=true;·(have:d.bR.clear=true:=by unfold Dc.clear at hc ⊢;obtain⟨h1,h2⟩:=mO hc;rw [rG] at h1 h2;show (sX d.lower.bR d.upper.bR&&sX d.upper.bR d.type.bR)=true;rw [h1,h2,rG.2 rfl]; rfl);rw [hc,this]; exact aw _
 rw [if_neg hc];split;·split <;> omega
 exact aw _
theorem eK {α:Type} {g h:α→Nat}:∀ {l:List α},(∀ x∈l,g x≤h x)→aZ g l≤aZ h l
 | [],_=>aw _
 | a :: r,e=>by
  have h1:=e a (bJ ..)
  have h2:=eK (l:=r) fun x hx=>e x (bh _ hx)
  simp only [aZ]; omega
theorem Md.iH (m:Md):m.bR.size≤m.size:=by unfold Md.size Md.bR;dsimp only;rw [ag,ez];have:=eK (l:=m.decls) (g:=fun x=>Dc.size (Dc.bR x)) (h:=Dc.size) fun d _=>d.iH;omega
theorem Yb {m:Md} (ha:∀ x∈m.imports,x.alias.size≤20) (h:vP m=0):vP m.bR=0:=by
 have hs:=m.iH;unfold vP at h ⊢;rw [show m.bR.path=m.path from rfl,show m.bR.imports.length=m.imports.length from ag _,show m.bR.decls.length=m.decls.length from ag _];split at h;·cases h
 rename_i h1;rw [if_neg h1];split at h;·cases h
 rename_i h2;rw [if_neg (by omega)];exact Df m.imports [] (fun c x hx h=>Ya (ha x hx) h) h
theorem abL {m:Md} (h:(qb m).2=0):vP m=0∧(iX r8 [] m.decls).2=0:=by
 unfold qb at h;split at h;·rename_i h1; exact absurd h h1
 rename_i h1; exact⟨anq.1 h1,h⟩
theorem Pj {m:Md} (h:vP m=0):∀ x∈m.imports,eP x.alias=true:=by
 unfold vP at h;split at h;·cases h
 split at h;·cases h
 intro x hx;obtain⟨c,hc⟩:=Ag _ _ _ h x hx;unfold xL at hc;split at hc;·cases hc
 rename_i h1;cases hb:eP x.alias with | true=>rfl | false=>exact absurd (.inr hb) h1
theorem S0 (l:List Dc) (s:ByteArray):Aq (l.map Dc.bR) s=Aq l s:=by induction l with | nil=>rfl | cons d r ih=>rw [cB,Aq,Aq,ih]; rfl
theorem JA:∀ (l:List Im) (g g':List (ByteArray×ByteArray)),(∀ s,kV (zz s) g'=kV s g)→∀ s,kV (zz s) ((l.map Im.bR).foldl (fun g x=>CR x.alias x.path g) g')=kV s (l.foldl (fun g x=>CR x.alias x.path g) g)
 | [],_,_,h,s=>h s
 | x :: r,g,g',h,s=>by
  rw [cB,eZ,eZ]
  refine JA r _ _ (fun s=>?_) s
  rw [zp,zp,h]
  show (if zz x.alias=zz s then some x.path else kV s g)=_
  by_cases hs:x.alias=s
  ·rw [if_pos hs,if_pos (OE.2 hs)]
  rw [if_neg hs,if_neg fun h=>hs (OD h)]
theorem FW:∀ (l:List Im) (g:List (ByteArray×ByteArray)) (s:ByteArray),(kV s (l.foldl (fun g x=>CR x.alias x.path g) g)).isSome=true→(kV s g).isSome=true∨∃ x∈l,x.alias=s
 | [],_,_,h=>.inl h
 | x :: r,g,s,h=>by
  rw [eZ] at h
  rcases FW r _ s h with h | ⟨y,hy,e⟩
  ·rw [zp] at h
   split at h
   ·rename_i hs; exact .inr ⟨x,bJ ..,hs⟩
   exact .inl h
  exact .inr ⟨y,bh _ hy,e⟩
theorem Yc (m:Md) (i:Nat):Twin (Xm m i) (Xm m.bR i):=⟨rfl,rfl,fun s=>S0 m.decls s,fun s=>JA m.imports [] [] (fun _=>rfl) s⟩
theorem Ie {m:Md} {i:Nat} (hn:∀ x∈m.imports,eP x.alias=true) (ha:∀ x∈m.imports,x.alias.size≤20) {s:ByteArray} (h:CZ (Xm m i) s):tr s:=by
 rcases FW m.imports [] s h with h | ⟨x,hx,rfl⟩
 ·cases h
 exact⟨hn x hx,ha x hx⟩
theorem JB {A B:ByteArray→Prop} (h:∀ s,A s→B s) {t:Ty} (ht:zT A t):zT B t:=fun u hu h1 h2=>h _ (ht u hu h1 h2)
theorem S2 {A B:ByteArray→Prop} (h:∀ s,A s→B s) {x:Ex} (hx:zX A x):zX B x:=fun u hu=>⟨fun h1 h2=>h _ ((hx u hu).1 h1 h2),fun t ht=>JB h ((hx u hu).2 t ht)⟩
theorem u2 (m:Md):∀ (l:List Dc) (i:Nat),dI m i l=none→∀ k d,l[k]?=some d→ny (Xm m (i+k)) d=0
 | [],_,_,k,d,h=>by simp at h
 | e :: r,i,h,k,d,hd=>by
  unfold dI at h
  split at h
  ·rename_i h0
   cases k with
   | zero=>cases hd; exact h0
   | succ k =>
    have:=u2 m r (i+1) h k d (by simpa using hd)
    rwa [show i+(k+1)=i+1+k by omega]
  cases h
theorem xe (m:Md):∀ (l:List Dc) (i:Nat),(∀ k d,l[k]?=some d→ny (Xm m (i+k)) d=0)→dI m i l=none
 | [],_,_=>rfl
 | e :: r,i,h=>by
  unfold dI
  rw [if_pos (show ny (Xm m i) e=0 from h 0 e rfl)]
  exact xe m r (i+1) fun k d hd=>by
   have:=h (k+1) d (by simpa using hd)
   rwa [show i+(k+1)=i+1+k by omega] at this
theorem u3 (m:Md):∀ (l:List Dc) (i:Nat) (p:Nat×Int),dI m i l=some p→p.2≠0
 | [],_,_,h=>by cases h
 | e :: r,i,p,h=>by
  unfold dI at h
  split at h
  ·exact u3 m r _ p h
  rename_i h0; cases h; exact h0
theorem JC:∀ {l:List Dc},¬ 0≤vV (fun d=>!mC d) l→∀ d∈l,mC d=true
 | [],_,d,h=>by cases h
 | e :: r,h,d,hd=>by
  unfold vV at h
  by_cases he:(!mC e)=true
  ·rw [if_pos he] at h; exact absurd (by decide) h
  rw [if_neg he] at h
  have h2:¬ 0≤vV (fun d=>!mC d) r:=by
   intro h3
   rw [if_neg (by omega)] at h
   omega
  rcases cp.1 hd with rfl | hd
  ·simpa using he
  exact JC h2 d hd
theorem Pk:∀ {l:List Dc},(∀ d∈l,mC d=true)→¬ 0≤vV (fun d=>!mC d) l
 | [],_=>by simp [vV]
 | e :: r,h=>by
  unfold vV
  have h1:=h e (bJ ..)
  have h2:=Pk (l:=r) fun d hd=>h d (bh _ hd)
  rw [if_neg (by rw [h1]; simp),if_pos (by omega)]
  decide
theorem Lh {m:Md} (h:(iG m).2.2=0):(qb m).2=0∧(∀ d∈m.decls,mC d=true)∧dI m 0 m.decls=none∧iG m=(⟨m.path,m.imports,eD m 0 m.decls⟩,0,0):=by
 by_cases h1:(qb m).2≠0;·rw [vW h1] at h; exact absurd h h1
 by_cases h2:0≤vV (fun d=>!mC d) m.decls;·rw [zW h1 h2] at h; cases h
 cases h3:dI m 0 m.decls with | some p=>rw [zY h1 h2 h3] at h; exact absurd h (u3 m _ _ _ h3) | none=>exact⟨anq.1 h1,JC h2,rfl,rL h1 h2 h3⟩
theorem Yd {c:List Dc} {d:Dc} (h:r8 c d=0) (hk:d.kind=2):d.mod≠⟨#[]⟩:=by obtain⟨-,h2,-,-⟩:=De h;unfold CO at h2;rw [hk] at h2;have h3:=(mO h2).2;rw [if_neg (by decide),if_neg (by decide)] at h3;have h4:=(mO (mO h3).1).2;unfold gV at h4;simpa using h4
theorem Li (m:Md) (ha:∀ x∈m.imports,x.alias.size≤20) (h:(iG m).2.2=0) :
  (iG m).2.1=0∧(iG m.bR).2.1=0∧(iG m.bR).2.2=0∧(iG m.bR).1.path=(iG m).1.path∧(iG m.bR).1.decls=(iG m).1.decls:=by
 obtain⟨h1,h2,h3,h4⟩:=Lh h;obtain⟨hh,hp⟩:=abL h1;have hn:=Pj hh;have er:∀ k d,m.decls[k]?=some d→ny (Xm m.bR k) d.bR=0∧dW (Xm m.bR k) d.bR=dW (Xm m k) d∧(∀ t∈d.Jq,zT tr t)∧zX tr d.expr∧(d.kind=2→tr d.mod):=by intro k d hd;have hm:=ay hd;obtain⟨c,hc⟩:=FU m h1 d hm;obtain⟨-,-,f3,f4⟩:=De hc;have he:=u2 m m.decls 0 h3 k d hd;rw [ct] at he;obtain⟨g1,g2,g3,g4,g5⟩:=Sx (Yc m k) d (fun t ht=>UK (f3 t ht)) (fun u hu=>abK (Ah _ f4 u hu)) (Yd hc) he;exact⟨g1,g2,fun t ht=>JB (fun s hs=>Ie hn ha hs) (g3 t ht),S2 (fun s hs=>Ie hn ha hs) g4,fun hk=>Ie hn ha (g5 hk)⟩
 have lN:∀ d∈m.decls,(∀ t∈d.Jq,zT tr t)∧zX tr d.expr∧(d.kind=2→tr d.mod):=fun d hd=>by obtain⟨k,hk⟩:=bL.1 hd;exact (er k d hk).2.2
 have c1:(qb m.bR).2=0:=by unfold qb;rw [if_neg (by rw [Yb ha hh]; simp)];exact Df m.decls [] (fun c d hd h0=>X9 (lN d hd).1 (lN d hd).2.1 (lN d hd).2.2 h0) hp
 have c2:¬ 0≤vV (fun d=>!mC d) m.bR.decls:=by refine Pk fun d hd=>?_;obtain⟨d0,TJ,rfl⟩:=cu.1 hd;exact SY (lN d0 TJ).1 (lN d0 TJ).2.1 (lN d0 TJ).2.2 (h2 d0 TJ)
 have c3:dI m.bR 0 m.bR.decls=none:=xe m.bR m.bR.decls 0 fun k d hd=>by rw [ct];show ny (Xm m.bR k) d=0;have hd':(m.decls.map Dc.bR)[k]?=some d:=hd;rw [ae] at hd';obtain⟨d0,h0,rfl⟩:=br.1 hd';exact (er k d0 h0).1
 have c4:eD m.bR 0 m.bR.decls=eD m 0 m.decls:=by (have go:∀ (l:List Dc) (i:Nat),(∀ k d,l[k]?=some d→dW (Xm m.bR (i+k)) d.bR=dW (Xm m (i+k)) d)→eD m.bR i (l.map Dc.bR)=eD m i l:=by intro l;induction l with | nil=>intro i _; rfl | cons d r ih =>intro i hi;rw [cB,eD,eD,ih (i+1) fun k e he=>by have:=hi (k+1) e (by simpa using he);rwa [show i+(k+1)=i+1+k by omega] at this];have:=hi 0 d rfl;rw [jS] at this;rw [this]);exact go m.decls 0 fun k d hd=>by rw [ct]; exact (er k d hd).2.1
 rw [h4,rL (by rw [c1]; simp) c2 c3];exact⟨rfl,rfl,rfl,rfl,c4⟩
mutual
def Ty.w2:Ty→Nat
 | .mk _ m n ts fs=>2+m.size+n.size+FX ts+FY fs
def FX:List Ty→Nat
 | []=>0
 | t :: r=>t.w2+FX r
def Fd.w2:Fd→Nat
 | .mk n (.mk _ m n' ts fs) _=>2+n.size+m.size+n'.size+FX ts+FY fs
def FY:List Fd→Nat
 | []=>0
 | f :: r=>f.w2+FY r
end
theorem Fd.Ai (f:Fd):f.w2=f.name.size+f.ty.w2:=by obtain⟨n',⟨k,m,n,ts,fs⟩,o⟩:=f;simp only [Fd.w2,Ty.w2,Fd.name,Fd.ty]; omega
theorem Bw (ts:List Ty):FX ts=aZ Ty.w2 ts:=by induction ts with | nil=>rfl | cons t r ih=>simp [FX,aZ,ih]
theorem Bx (ts:List Fd):FY ts=aZ Fd.w2 ts:=by induction ts with | nil=>rfl | cons t r ih=>simp [FY,aZ,ih]
theorem Ty.Ai (t:Ty):t.w2=2+t.mod.size+t.name.size+aZ Ty.w2 t.args+aZ Fd.w2 t.bd:=by obtain⟨k,m,n,ts,fs⟩:=t;simp only [Ty.w2,Bw,Bx,Ty.mod,Ty.name,Ty.args,Ty.bd]
def Lb.w2 (l:Lb):Nat:=1+l.name.size+l.var.size+l.ty.w2
mutual
def Ex.w2:Ex→Nat
 | .mk _ m n t _ ts ls ks=>2+m.size+n.size+t.size+aZ Ty.w2 ts+aZ Lb.w2 ls+JD ks
def JD:List Ex→Nat
 | []=>0
 | e :: r=>e.w2+JD r
end
theorem F0 (ts:List Ex):JD ts=aZ Ex.w2 ts:=by induction ts with | nil=>rfl | cons t r ih=>simp [JD,aZ,ih]
theorem Ex.Ai (t:Ex):t.w2=2+t.mod.size+t.name.size+t.text.size+aZ Ty.w2 t.types+aZ Lb.w2 t.labels+aZ Ex.w2 t.kids:=by obtain⟨k,m,n,x,i,ts,ls,ks⟩:=t;rw [Ex.w2,F0]; rfl
def Pm.w2 (p:Pm):Nat:=1+p.name.size+p.bound.w2
def Im.w2 (i:Im):Nat:=2+i.path.size+i.alias.size
def Dc.w2 (d:Dc):Nat:=2+d.name.size+d.note.size+aZ Pm.w2 d.params+d.lower.w2+d.upper.w2+d.type.w2+d.expr.w2+d.mod.size+d.target.size
def Md.w2 (m:Md):Nat:=1+m.path.size+aZ Im.w2 m.imports+aZ Dc.w2 m.decls
theorem Dg (k k0:Int) (m:ByteArray):(zM k k0 m).size≤m.size+1:=by
 unfold zM; split;·rw [uU]; exact aw _
 omega
theorem Fd.Aj (f:Fd):(f.res gZ).wt=f.name.size+f.ty.bR.wt:=by rw [Fd.iq,Fd.oU,Fd.qS]; rfl
theorem Ty.Aj:∀ (N:Nat) (t:Ty),t.size≤N→t.bR.wt≤t.w2∧t.wt≤t.w2:=by intro N;induction N with | zero=>intro t h; have:=t.size_pos; omega | succ N ih =>intro t h;have IA:∀ x∈t.args,x.bR.wt≤x.w2∧x.wt≤x.w2:=fun x hx=>ih x (by have:=t.m7 (dU _ hx); omega);have LJ:∀ f∈t.bd,f.ty.bR.wt≤f.ty.w2∧f.ty.wt≤f.ty.w2:=fun f hf=>ih f.ty (by have:=t.m7 (dG _ (cu.2 ⟨f,hf,rfl⟩)); omega);have h1:=eK (l:=t.args) (g:=fun x=>Ty.wt (Ty.bR x)) (h:=Ty.w2) fun x hx=>(IA x hx).1;have h2:=eK (l:=t.args) (g:=Ty.wt) (h:=Ty.w2) fun x hx=>(IA x hx).2;(have h3:=eK (l:=t.bd) (g:=fun x=>Fd.wt (Fd.res gZ x)) (h:=Fd.w2) fun x hx=>by rw [Fd.Aj,Fd.Ai]; have:=(LJ x hx).1; omega);(have h4:=eK (l:=t.bd) (g:=Fd.wt) (h:=Fd.w2) fun x hx=>by rw [Fd.iq,Fd.Ai]; have:=(LJ x hx).2; omega);have h5:=Dg t.kind 10 t.mod;rw [Ty.iq,Ty.iq t,Ty.Ai,t.gP,t.e9,t.lj,t.mD,ez,ez];omega
theorem Ty.jP (t:Ty):t.bR.wt≤t.w2∧t.wt≤t.w2:=Ty.Aj _ t (aw _)
theorem Lb.jP (l:Lb):(l.res gZ).wt≤l.w2∧l.wt≤l.w2:=by have:=l.ty.jP;have e:(l.res gZ).wt=1+l.name.size+l.var.size+l.ty.bR.wt:=rfl;rw [e]; unfold Lb.wt Lb.w2; omega
theorem Ex.Aj:∀ (N:Nat) (x:Ex),x.size≤N→x.bR.wt≤x.w2∧x.wt≤x.w2:=by intro N;induction N with | zero=>intro t h; have:=t.size_pos; omega | succ N ih =>intro x h;have hk:∀ k∈x.kids,k.bR.wt≤k.w2∧k.wt≤k.w2:=fun k hk=>ih k (by have:=x.v7 hk; omega);have h1:=eK (l:=x.types) (g:=fun x=>Ty.wt (Ty.bR x)) (h:=Ty.w2) fun x _=>x.jP.1;have h2:=eK (l:=x.types) (g:=Ty.wt) (h:=Ty.w2) fun x _=>x.jP.2;have h3:=eK (l:=x.labels) (g:=fun x=>Lb.wt (Lb.res gZ x)) (h:=Lb.w2) fun x _=>x.jP.1;have h4:=eK (l:=x.labels) (g:=Lb.wt) (h:=Lb.w2) fun x _=>x.jP.2;have h5:=eK (l:=x.kids) (g:=fun x=>Ex.wt (Ex.bR x)) (h:=Ex.w2) fun x hx=>(hk x hx).1;have h6:=eK (l:=x.kids) (g:=Ex.wt) (h:=Ex.w2) fun x hx=>(hk x hx).2;have h7:=Dg x.kind 4 x.mod;rw [Ex.iq,Ex.iq x,Ex.Ai,x.gP,x.e9,x.mE,x.j6,x.fu,x.jO,ez,ez,ez];omega
theorem Ex.jP (x:Ex):x.bR.wt≤x.w2∧x.wt≤x.w2:=Ex.Aj _ x (aw _)
theorem Pm.jP (p:Pm):p.bR.wt≤p.w2∧p.wt≤p.w2:=by have:=p.bound.jP;have e:p.bR.wt=1+p.name.size+p.bound.bR.wt:=rfl;rw [e]; unfold Pm.wt Pm.w2; omega
theorem Im.jP (x:Im):x.bR.wt≤x.w2∧x.wt≤x.w2:=by have e:x.bR.wt=1+x.path.size+(zz x.alias).size:=rfl;rw [e,uU]; unfold Im.wt Im.w2; omega
theorem Dc.jP (d:Dc):d.bR.wt≤d.w2∧d.wt≤d.w2:=by have h1:=eK (l:=d.params) (g:=fun x=>Pm.wt (Pm.bR x)) (h:=Pm.w2) fun x _=>x.jP.1;have h2:=eK (l:=d.params) (g:=Pm.wt) (h:=Pm.w2) fun x _=>x.jP.2;have h3:=d.lower.jP;have h4:=d.upper.jP;have h5:=d.type.jP;have h6:=d.expr.jP;have h7:=Dg d.kind 2 d.mod;have e:d.bR.wt=1+d.name.size+d.note.size+aZ Pm.wt (d.params.map Pm.bR)+d.lower.bR.wt+d.upper.bR.wt+d.type.bR.wt+d.expr.bR.wt+(zM d.kind 2 d.mod).size+d.target.size:=rfl;rw [e,ez]; unfold Dc.wt Dc.w2; omega
theorem Md.jP (m:Md):m.bR.wt≤m.w2∧m.wt≤m.w2:=by have h1:=eK (l:=m.imports) (g:=fun x=>Im.wt (Im.bR x)) (h:=Im.w2) fun x _=>x.jP.1;have h2:=eK (l:=m.imports) (g:=Im.wt) (h:=Im.w2) fun x _=>x.jP.2;have h3:=eK (l:=m.decls) (g:=fun x=>Dc.wt (Dc.bR x)) (h:=Dc.w2) fun x _=>x.jP.1;have h4:=eK (l:=m.decls) (g:=Dc.wt) (h:=Dc.w2) fun x _=>x.jP.2;have e:m.bR.wt=1+m.path.size+aZ Im.wt (m.imports.map Im.bR)+aZ Dc.wt (m.decls.map Dc.bR):=rfl;rw [e,ez,ez]; unfold Md.wt Md.w2; omega
section
theorem c3:ab.cellsOf 3=1:=by kernel_rfl
theorem c4:ab.cellsOf 4=1:=by kernel_rfl
theorem c9:ab.cellsOf 9=1:=by kernel_rfl

section
variable {F:Addr→Option Value} {hg:Gl F} {H:Type} {enc:TypeId×Value→H} {w:World} {sp:Nat→Bool} {held:Bool} {f:Nat} {cs:List Value} {d:DataW H} {p:List MemPlace}
theorem rO {a:List V} {cs:List Value} {off n:Nat} (h1:Rd F hg a ((cs.drop off).take n)) (h:cs.length=off+n):Rd F hg a (cs.drop off):=by rwa [bE (by simp; omega)] at h1
theorem Ak (h:DataW.trod enc ab w 0 sp held f 3 cs=some (d,p)):∃ n:Int,Rd F hg [num n] cs∧1≤Rows.uptoBulk d:=by cases f with | zero=>simp [DataW.trod] at h | succ f=>obtain⟨n,rfl,rfl⟩:=trod_int Tryz.underlying3 h; exact⟨n,Hl rfl,by simp [Rows.uptoBulk]⟩
theorem kf (h:DataW.trod enc ab w 0 sp held f 9 cs=some (d,p)):∃ s:ByteArray,Rd F hg [str s] cs∧s.size+1≤Rows.uptoBulk d:=by cases f with | zero=>simp [DataW.trod] at h | succ f =>obtain⟨n,rfl,rfl⟩:=trod_string Tryz.underlying9 h;exact⟨n,Hl rfl,by simp only [Rows.uptoBulk,jq]; exact aw _⟩
theorem JE (h:DataW.trod enc ab w 0 sp held f 4 cs=some (d,p)):∃ b:Bool,Rd F hg [bl b] cs:=by cases f with | zero=>simp [DataW.trod] at h | succ f=>obtain⟨n,rfl,-⟩:=trod_bool Tryz.underlying4 h; exact⟨n,Hl rfl⟩
theorem xg {T T':TypeId} {α:Type} {row:α→V} {g:α→Nat} {n:Nat} (hF:F=w.cell?) (hT:ab.underlying T=some (.slice T')) (hn:ab.cellsOf T'=n)
  (hr:∀ f',f'<f→∀ {cs:List Value} {d:DataW H} {p:List MemPlace},DataW.trod enc ab w 0 sp held f' T' cs=some (d,p)→∃ a:α,Rd F hg (row a).cells cs∧g a≤Rows.uptoBulk d)
  (h:DataW.trod enc ab w 0 sp held f T cs=some (d,p)):∃ l:List α,Rd F hg [.slice (l.map row)] cs∧aZ g l+1≤Rows.uptoBulk d:=by cases f with | zero=>simp [DataW.trod] at h | succ f=>exact Nw hF hT hn (fun h=>hr f (kW f) h) h

end
theorem c38:ab.cellsOf 38=1:=by kernel_rfl
theorem c39:ab.cellsOf 39=1:=by kernel_rfl
theorem Ye:ab.cellsOf 41=5:=by kernel_rfl
theorem c94:ab.cellsOf 94=7:=by kernel_rfl
theorem c42:ab.cellsOf 42=1:=by kernel_rfl
theorem c43:ab.cellsOf 43=1:=by kernel_rfl
theorem c45:ab.cellsOf 45=8:=by kernel_rfl
theorem c22:ab.cellsOf 22=1:=by kernel_rfl
theorem c23:ab.cellsOf 23=1:=by kernel_rfl
theorem c25:ab.cellsOf 25=3:=by kernel_rfl
theorem c37:ab.cellsOf 37=1:=by kernel_rfl
theorem c47:ab.cellsOf 47=31:=by kernel_rfl
theorem c49:ab.cellsOf 49=7:=by kernel_rfl
theorem c97:ab.cellsOf 97=8:=by kernel_rfl
theorem c35:ab.cellsOf 35=2:=by kernel_rfl
section
variable [a6] {F:Addr→Option Value} {hg:Gl F} {H:Type} {enc:TypeId×Value→H} {w:World} {sp:Nat→Bool} {held:Bool} {f:Nat} {cs:List Value} {d:DataW H} {p:List MemPlace}
theorem By (hF:F=w.cell?):∀ (f:Nat) {cs:List Value} {d:DataW H} {p:List MemPlace},DataW.trod enc ab w 0 sp held f 41 cs=some (d,p)→∃ t:Ty,Rd F hg (cf t).cells cs∧t.w2≤Rows.uptoBulk d:=by intro f;induction f using Nat.strongRecOn with | ind f ih =>intro cs d p h;cases f with | zero=>simp [DataW.trod] at h | succ f =>obtain⟨hl,d0,p0,h0,d1,p1,h1,d2,p2,h2,d3,p3,h3,d4,p4,h4,rfl⟩:=jG Tryz.underlying41 h;simp only [c3,c9,c38,c39] at h0 h1 h2 h3 h4;rw [Ye] at hl;obtain⟨k,hk,-⟩:=Ak (F:=F) (hg:=hg) h0;obtain⟨m,hm,s1⟩:=kf (F:=F) (hg:=hg) h1;obtain⟨n,hn,s2⟩:=kf (F:=F) (hg:=hg) h2;obtain⟨ts,AX,bts⟩:=xg (F:=F) (hg:=hg) hF Tryz.underlying38 Ye (fun f' hf' {cs d p} h=>ih f' (by omega) h) h3;obtain⟨fs,hfs,bfs⟩:=xg (F:=F) (hg:=hg) (α:=Fd) (row:=lE) (g:=Fd.w2) hF Tryz.underlying39 c94 (fun f' hf' {cs d p} h=>by cases f' with | zero=>simp [DataW.trod] at h | succ f' =>obtain⟨hl,d0,p0,h0,d1,p1,h1,d2,p2,h2,rfl⟩:=jG Tryz.underlying94 h;simp only [c4,c9,Ye] at h0 h1 h2;rw [c94] at hl;obtain⟨n,hn,s0⟩:=kf (F:=F) (hg:=hg) h0;obtain⟨t,ht,bt⟩:=ih f' (by omega) h1;obtain⟨b,hb⟩:=JE (F:=F) (hg:=hg) h2;rw [aG] at ht;refine⟨.mk n t b,?_,?_⟩;(·rw [bN];show Rd F hg ([str n]++ai t++[bl b]) (cs.drop 0);rw [AP];exact dy hn (dy ht (rO hb hl)));rw [Fd.Ai]; simp only [Rows.uptoBulk,Rows.uptoBulkAll,Fd.ty,Fd.name]; omega) h4;refine⟨.mk k m n ts fs,?_,?_⟩;(·rw [aG];simp only [ai,Ty.kind,Ty.mod,Ty.name,Ty.args,Ty.bd,cV,hY];exact dy (off:=0) hk (dy hm (dy hn (dy AX (dy hfs (Nv hl))))));simp only [Rows.uptoBulk,Rows.uptoBulkAll,Ty.w2,Bw,Bx]; omega
theorem abM (hF:F=w.cell?) (h:DataW.trod enc ab w 0 sp held f 97 cs=some (d,p)):∃ x:Lb,Rd F hg (bO x).cells cs∧x.w2≤Rows.uptoBulk d:=by cases f with | zero=>simp [DataW.trod] at h | succ f =>obtain⟨hl,d0,p0,h0,d1,p1,h1,d2,p2,h2,d3,p3,h3,rfl⟩:=jG Tryz.underlying97 h;simp only [c4,c9,Ye] at h0 h1 h2 h3;rw [c97] at hl;obtain⟨n,hn,s0⟩:=kf (F:=F) (hg:=hg) h0;obtain⟨v,hv,s1⟩:=kf (F:=F) (hg:=hg) h1;obtain⟨t,ht,bt⟩:=By (hg:=hg) hF _ h2;obtain⟨b,hb⟩:=JE (F:=F) (hg:=hg) h3;rw [aG] at ht;refine⟨⟨n,v,t,b⟩,?_,?_⟩;(·show Rd F hg ([str n,str v]++ai t++[bl b]) (cs.drop 0);rw [AP];exact dy (a:=[str n]) hn (dy (a:=[str v]) hv (dy (b:=[bl b]) ht (rO hb hl))));simp only [Rows.uptoBulk,Rows.uptoBulkAll,Lb.w2]; omega
theorem abN (hF:F=w.cell?):∀ (f:Nat) {cs:List Value} {d:DataW H} {p:List MemPlace},DataW.trod enc ab w 0 sp held f 45 cs=some (d,p)→∃ t:Ex,Rd F hg (cx t).cells cs∧t.w2≤Rows.uptoBulk d:=by intro f;induction f using Nat.strongRecOn with | ind f ih =>intro cs d p h;cases f with | zero=>simp [DataW.trod] at h | succ f =>obtain⟨hl,d0,p0,h0,d1,p1,h1,d2,p2,h2,d3,p3,h3,d4,p4,h4,d5,p5,h5,d6,p6,h6,d7,p7,h7,rfl⟩:=jG Tryz.underlying45 h;simp only [c3,c9,c38,c42,c43] at h0 h1 h2 h3 h4 h5 h6 h7;rw [c45] at hl;obtain⟨k,hk,-⟩:=Ak (F:=F) (hg:=hg) h0;obtain⟨m,hm,s1⟩:=kf (F:=F) (hg:=hg) h1;obtain⟨n,hn,s2⟩:=kf (F:=F) (hg:=hg) h2;obtain⟨x,hx,s3⟩:=kf (F:=F) (hg:=hg) h3;obtain⟨i,hi,-⟩:=Ak (F:=F) (hg:=hg) h4;obtain⟨ts,AX,bts⟩:=xg (F:=F) (hg:=hg) hF Tryz.underlying38 Ye (fun f' _ {cs d p} h=>By hF f' h) h5;obtain⟨ls,hls,bls⟩:=xg (F:=F) (hg:=hg) hF Tryz.underlying42 c97 (fun f' _ {cs d p} h=>abM hF h) h6;obtain⟨ks,Rx,bks⟩:=xg (F:=F) (hg:=hg) hF Tryz.underlying43 c45 (fun f' hf' {cs d p} h=>ih f' (by omega) h) h7;refine⟨.mk k m n x i ts ls ks,?_,?_⟩;(·rw [a8];simp only [aC,Ex.kind,Ex.mod,Ex.name,Ex.text,Ex.num,Ex.types,Ex.labels,Ex.kids,cV,jJ];exact dy (off:=0) hk (dy hm (dy hn (dy hx (dy hi (dy AX (dy hls (dy Rx (Nv hl)))))))));simp only [Rows.uptoBulk,Rows.uptoBulkAll,Ex.w2,F0]; omega
theorem abO (hF:F=w.cell?) (h:DataW.trod enc ab w 0 sp held f 49 cs=some (d,p)):∃ x:Pm,Rd F hg (cX x).cells cs∧x.w2≤Rows.uptoBulk d:=by cases f with | zero=>simp [DataW.trod] at h | succ f =>obtain⟨hl,d0,p0,h0,d1,p1,h1,d2,p2,h2,rfl⟩:=jG Tryz.underlying49 h;simp only [c3,c9,Ye] at h0 h1 h2;rw [c49] at hl;obtain⟨n,hn,s0⟩:=kf (F:=F) (hg:=hg) h0;obtain⟨v,hv,-⟩:=Ak (F:=F) (hg:=hg) h1;obtain⟨t,ht,bt⟩:=By (hg:=hg) hF _ h2;rw [aG] at ht;refine⟨⟨n,v,t⟩,?_,?_⟩;(·show Rd F hg ([str n,num v]++ai t) (cs.drop 0);exact dy (a:=[str n]) hn (dy (a:=[num v]) hv (rO ht hl)));simp only [Rows.uptoBulk,Rows.uptoBulkAll,Pm.w2]; omega
theorem abP (h:DataW.trod enc ab w 0 sp held f 35 cs=some (d,p)):∃ x:Im,Rd F hg (bQ x).cells cs∧x.w2≤Rows.uptoBulk d:=by cases f with | zero=>simp [DataW.trod] at h | succ f =>obtain⟨hl,d0,p0,h0,d1,p1,h1,rfl⟩:=jG Tryz.underlying35 h;simp only [c9] at h0 h1;rw [c35] at hl;obtain⟨n,hn,s0⟩:=kf (F:=F) (hg:=hg) h0;obtain⟨v,hv,s1⟩:=kf (F:=F) (hg:=hg) h1;refine⟨⟨n,v⟩,?_,?_⟩;(·exact dy (a:=[str n]) (off:=0) hn (rO (a:=[str v]) hv hl));simp only [Rows.uptoBulk,Rows.uptoBulkAll,Im.w2]; omega
theorem abQ (hF:F=w.cell?) (h:DataW.trod enc ab w 0 sp held f 47 cs=some (d,p)):∃ x:Dc,Rd F hg (aL x).cells cs∧x.w2≤Rows.uptoBulk d:=by cases f with | zero=>simp [DataW.trod] at h | succ f =>obtain⟨hl,d0,p0,h0,d1,p1,h1,d2,p2,h2,d3,p3,h3,d4,p4,h4,d5,p5,h5,d6,p6,h6,d7,p7,h7,d8,p8,h8,d9,p9,h9,d10,p10,Mj,d11,p11,Vw,rfl⟩:=jG Tryz.underlying47 h;simp only [c3,c4,c9,Ye,c45,c37] at h0 h1 h2 h3 h4 h5 h6 h7 h8 h9 Mj Vw;rw [c47] at hl;obtain⟨k,hk,-⟩:=Ak (F:=F) (hg:=hg) h0;obtain⟨n,hn,s1⟩:=kf (F:=F) (hg:=hg) h1;obtain⟨x,hx⟩:=JE (F:=F) (hg:=hg) h2;obtain⟨y,hy⟩:=JE (F:=F) (hg:=hg) h3;obtain⟨o,ho,s4⟩:=kf (F:=F) (hg:=hg) h4;obtain⟨ps,tp,bps⟩:=xg (F:=F) (hg:=hg) hF Tryz.underlying37 c49 (fun f' _ {cs d p} h=>abO hF h) h5;obtain⟨lo,nP,blo⟩:=By (hg:=hg) hF _ h6;obtain⟨up,hup,bup⟩:=By (hg:=hg) hF _ h7;obtain⟨ty,hty,bty⟩:=By (hg:=hg) hF _ h8;obtain⟨e,he,be⟩:=abN (hg:=hg) hF _ h9;obtain⟨m,hm,s10⟩:=kf (F:=F) (hg:=hg) Mj;obtain⟨t,ht,s11⟩:=kf (F:=F) (hg:=hg) Vw;rw [aG] at nP hup hty;rw [a8] at he;refine⟨⟨k,n,x,y,o,ps,lo,up,ty,e,m,t⟩,?_,?_⟩;(·show Rd F hg ([num k,str n,bl x,bl y,str o,.slice (ps.map cX)]++ai lo++ai up++ai ty++aC e++[str m,str t]) (cs.drop 0);simp only [AP];exact dy (a:=[num k]) hk (dy (a:=[str n]) hn (dy (a:=[bl x]) hx (dy (a:=[bl y]) hy (dy (a:=[str o]) ho (dy (a:=[.slice (ps.map cX)]) tp (dy nP (dy hup (dy hty (dy he (dy (a:=[str m]) hm (rO (a:=[str t]) ht hl))))))))))));simp only [Rows.uptoBulk,Rows.uptoBulkAll,Dc.w2]; omega
theorem abR (hF:F=w.cell?) (h:DataW.trod enc ab w 0 sp held f 25 cs=some (d,p)):∃ x:Md,Rd F hg (gN x).cells cs∧x.w2≤Rows.uptoBulk d:=by cases f with | zero=>simp [DataW.trod] at h | succ f =>obtain⟨hl,d0,p0,h0,d1,p1,h1,d2,p2,h2,rfl⟩:=jG Tryz.underlying25 h;simp only [c9,c22,c23] at h0 h1 h2;rw [c25] at hl;obtain⟨n,hn,s0⟩:=kf (F:=F) (hg:=hg) h0;obtain⟨is,his,bis⟩:=xg (F:=F) (hg:=hg) hF Tryz.underlying22 c35 (fun f' _ {cs d p} h=>abP h) h1;obtain⟨ds,hds,bds⟩:=xg (F:=F) (hg:=hg) hF Tryz.underlying23 c47 (fun f' _ {cs d p} h=>abQ hF h) h2;refine⟨⟨n,is,ds⟩,?_,?_⟩;(·exact dy (a:=[str n]) (off:=0) hn (dy (a:=[.slice (is.map bQ)]) his (rO (a:=[.slice (ds.map aL)]) hds hl)));simp only [Rows.uptoBulk,Rows.uptoBulkAll,Md.w2]; omega
end
end
end Go.Proofs.YtnboooapeopjoaaGreatDoor
end

section
namespace Go.Proofs.YtnboooapeopjoaaGreatDoor
open Go.Eng
set_option maxHeartbeats 4000000
set_option maxRecDepth 100000
section
open Go.ChangeShapes Go.WideShapes Go.ChangeAt Go.RowKit
@[reducible] def gOf (n:Int):a6 := { n:=n,κ:=fun _=>none,ok:=fun j b hb=>(by cases hb),g:=some 1,U2:=fun _=>none }
theorem Pn {W:World} {v:Value} (gh:Cell.ok ab W .any 0 3 v):∃ n:Int,v = .int .i64 n:=by unfold Cell.ok at gh;rw [Tryz.underlying3] at gh;cases v with | int k n=>exact⟨n,by rw [show k = .i64 from gh.1]⟩ | _=>exact gh.elim
theorem Lj {W:World} (hS:W.ShapedOpen ab):∃ n:Int,W.cell? ⟨1,0,none⟩=some (.int .i64 n):=by
 have h0:(((begin ab (fun _ _=>0) default).world.heap[1]?).bind Obj.row?)=some (#[.int .i64 0],3):=by kernel_rfl
 obtain⟨cs,hc,hz,hr⟩:=hS.1 1 _ _ (of_decide_eq_true (by kernel_rfl)) h0;obtain⟨ts,h1,-,h3⟩:=hr (by kernel_rfl);obtain rfl:[3]=ts:=tu ((show ab.cellTypes ab.depth 3=some [3] by kernel_rfl).symm.trans h1);have hz':cs.size=1:=hz;obtain⟨v,hv⟩:∃ v,cs[0]?=some v:=⟨cs[0],bS (by omega)⟩;obtain⟨u,hu,gh⟩:=h3 0 v hv;obtain rfl:3=u:=by simpa using hu
 obtain⟨n,rfl⟩:=Pn gh;exact⟨n,by simp [World.cell?,hc,hv]⟩
theorem S3 {F:Addr→Option Value} [a6] {hg:Gl F} {cs:List V} {v:Value} (dK:cs.length≠1) (h:Rd F hg cs v.cells.toList):cK ⟨F,fun _ _=>none,hg⟩ (.agg cs) v:=by cases v with | agg xs=>exact .agg _ _ _ (by simpa [Value.cells] using h.1.1) fun i c x hc hx=>h.1.2 i c x hc (by simpa [Value.cells] using hx) | _=>exact absurd h.1.1 (by simpa [Value.cells] using dK)
theorem Lk {H:Type} {enc:TypeId×Value→H} {P:Program} {f:Func} {s:ChangeSpec} {apart fresh handsOn again:Bool} {W W':World} {args:Array Value} {v:Value} {ds gs:List (DataW H)} {before pa pv:List MemPlace}
  (hW:DataW.Whole enc P f.params.toList s.vars apart W args.toList ds gs before)
  (ck:∀ (b:Nat) (sp:Nat→Bool) (hd:Bool),DataW.TrodAll enc P W' b sp hd f.resultTypes.toList (v.resultList f.resultTypes.size) (s.fn H (ds++gs)).results [])
  (mU:∀ sp:Nat→Bool,(∀ p∈before,sp p.block=true)→DataW.TrodAll enc P W' 0 sp true f.params.toList args.toList (s.fn H (ds++gs)).args pa)
  (UL:∀ sp:Nat→Bool,(∀ p∈before,sp p.block=true)→DataW.TrodVars enc P W' sp s.vars (s.fn H (ds++gs)).vars pv)
  (tp:before=pa++pv) (hb:Below W.heap.size W W')
  (gh:∀ (j:Nat) (t:TypeId) (r:Value),f.resultTypes[j]?=some t→(v.resultList f.resultTypes.size)[j]?=some r→Value.okWide P W' .any 0 t r) :
  s.post enc P f apart fresh handsOn again W args v W':=by
 have bX:=hW.lt;refine⟨ds,gs,before,[],pa,pv,hW,ck _ _ _,mU _ (fun p hp=>by simpa using bX p hp),UL _ (fun p hp=>by simpa using bX p hp),hb.frame _,fun _=>?_⟩;obtain⟨_,_,_,_,_,hz,hn⟩:=hW;refine⟨gh,_,_,([]++pa)++pv,⟨[]++pa,pv,trodAll_append (mU _ (fun _ _=>rfl)) (ck _ _ _),UL _ (fun _ _=>rfl),rfl,fun b off hp=>?_,fun ha=>?_⟩,fun p hp _=>?_⟩;·(have LF:MemPlace.cell b off∈before:=by rw [tp]; simpa using hp);rw [hb.frozen (show (⟨b,off,none⟩:Addr).block<W.heap.size from bX _ LF)];exact hz b off LF
 ·have:=hn ha;rw [tp] at this;simpa using this
 rw [tp];simpa using hp
theorem ahr {F:Addr→Option Value} [a6] {hg:Gl F} {rows:List V} {a:Option Addr} {l c:Nat} (h:Rd F hg [.slice rows] (Value.slice a l c).cells.toList):cK ⟨F,fun _ _=>none,hg⟩ (.slice rows) (.slice a l c):=h.1.2 0 _ _ rfl rfl
theorem Y0 {P:Program} {W:World} {base:Nat} {T:TypeId} {v:Value} (hT:P.underlying T=some (.int .u8)) (h:Value.okWide P W .any base T v):∃ c:Nat,c<256∧v = .int .u8 (c:Int):=by unfold Value.okWide at h;rw [hT] at h;unfold Cell.okWide at h;rw [hT] at h;cases v with | int k n =>simp only [Cell.ok,hT] at h;obtain⟨rfl,h1,h2⟩:=h;(have h3:(IntKind.u8).min=0:=by decide);(have h4:(IntKind.u8).max=255:=by decide);rw [h3] at h1; rw [h4] at h2;exact⟨n.toNat,by omega,by rw [Int.toNat_of_nonneg h1]⟩ | _=>simp [Cell.ok,hT] at h
end
end Go.Proofs.YtnboooapeopjoaaGreatDoor
end

section
namespace Go.Proofs.YtnboooapeopjoaaGreatDoor
open Go.Eng
variable [a6]
open Nat renaming reduceAdd → zA, reduceLT → zB, reduceLeDiff → zC, reduceMul → zD, reduceEqDiff → zE, reduceSub → zF
set_option maxHeartbeats 4000000
set_option maxRecDepth 100000
section
theorem F1 {α:Type} (g:α→Nat) {l:List α} {x:α} (h:x∈l):g x≤aZ g l:=by obtain⟨i,hi⟩:=bL.1 h;exact cb g hi
theorem Yf {t x:Ty} (h:x∈t.parts):x.wt<t.wt:=by
 obtain⟨k,m,n,ar,fs⟩:=t;rcases fI.1 h with h | h
 ·have h1:=F1 Ty.wt h;rw [Ty.iq (.mk k m n ar fs)];have h2:(Ty.mk k m n ar fs).args=ar:=rfl;rw [h2] at h1;simp only [Ty.args,Ty.bd,Ty.mod,Ty.name]; omega
 obtain⟨f,hf,rfl⟩:=cu.1 h;have h1:=F1 Fd.wt hf;have h2:(Ty.mk k m n ar fs).bd=fs:=rfl;rw [h2] at h1;rw [Ty.iq (.mk k m n ar fs)];have h3:=f.iq;simp only [Ty.args,Ty.bd,Ty.mod,Ty.name]; omega
theorem S4 (t:Ty):t.args.length+t.bd.length≤t.wt∧t.mod.size≤t.wt:=by have h1:=ca Ty.wt (fun t=>rK t) t.args;have h2:=ca Fd.wt (fun f=>by have:=f.iq; have:=rK f.ty; omega) t.bd;rw [t.iq]; omega
theorem ra {x y:Ty} (h:bG ab 22 [cf x] (cf y)):∃ r_,(fun w=>w = .agg [num y.kind,str y.mod,str y.name,.slice (aQ y.args),.slice (bV y.bd)]) r_∧bG ab 22 [.agg [num x.kind,str x.mod,str x.name,.slice (aQ x.args),.slice (bV x.bd)]] r_:=⟨_,rfl,by rw [aG,aG] at h; exact h⟩
theorem Dh (s:ByteArray) (h:s.size≤1048576) (x y:Operand):eM ab (rU .add 9 x y) (.sc (.string ⟨#[122]⟩)) (.sc (.string s))=some (.sc (.string (⟨#[122]⟩++s))):=Cd ab 9 x y ⟨#[122]⟩ s (by rw [show (⟨#[122]⟩:ByteArray).size=1 from rfl,show IntKind.i64.max=9223372036854775807 from rfl]; omega)
section
attribute [local go_sem] aq aJ dk
theorem Po (t:Ty) (QS:t.args.length≤1048576) (Me:t.bd.length≤1048576) (Vb:t.mod.size≤1048576) (fK:∀ p∈t.parts,bG ab 22 [cf p] (cf (p.res gZ))):∃ r_,(fun w=>w=cf (t.res gZ)) r_∧bG ab 22 [cf t] r_:=by
 refine kc tt_ok [1,14,30000] 62 [.cell 2 41] (fn:=Tryz.f22) Tryz.func22 rfl Tryz.call22 ⟨rfl,rfl,by simp⟩ fun K hK=>?_;obtain⟨um,Yg⟩:∃ u,u=zM t.kind 10 t.mod:=⟨_,rfl⟩;have Fv:t.res gZ = .mk t.kind um t.name (t.args.map (Ty.res gZ)) (t.bd.map (Fd.res gZ)):=by rw [Yg]; exact t.jN
 simp only [aG,ai];simp only [go_sem];refine pq (n:=62) tt_ok [1,14,30000] (fun _:Unit=>[(1,.ptr 0 0),(2,.ptr 1 0)]) (fun _:Unit=>[.box [num t.kind,str um,str t.name,.slice (aQ t.args),.slice (bV t.bd)],.box [num 0,str ⟨#[]⟩,str ⟨#[]⟩,.sc (.slice none 0 0),.sc (.slice none 0 0)]]) 2 (fun _=>True) (fun Z1 ee=>?_) ?_;·simp only [go_sem];refine im tt_ok [1,14,30000] [12] 2 [0,1,2] (fun vs=>vs=[bl (decide (t.kind=10) && !decide (t.mod=⟨#[]⟩))]) (fun Z2 mc=>?_) ?_;(·simp only [go_sem];refine mw tt_ok ?_;simp only [go_sem];refine bY (fun fj=>?_) (fun fj=>?_);(·simp only [go_sem];refine mc _ (dP (by omega) (by simp only [go_sem]) ?_);simp only [fC,lk,reduceIte,zE];exact congrArg (fun b=>[bl b]) (by first | (rw [fj]; first | rfl | simp) | simp_all));simp only [go_sem];refine mc _ (dP (by omega) (by simp only [go_sem]) ?_);simp only [fC,lk,reduceIte,zE];exact congrArg (fun b=>[bl b]) (by first | (rw [fj]; first | rfl | simp) | simp_all));intro vs hJ;obtain rfl:=hJ;simp only [go_sem];refine bY (fun AK=>?_) (fun AK=>?_);(·(have hk:t.kind=10∧t.mod≠⟨#[]⟩:=by simpa using AK);(have r9:um=⟨#[122]⟩++t.mod:=by rw [Yg]; unfold zM; rw [if_pos hk]; rfl);have sa:=Dh t.mod (by omega);simp only [sa,go_sem];refine ee _ ⟨(),?_,dj (by omega) (by (simp only [r9,sa,go_sem]))⟩;exact trivial);(have hk:¬ (t.kind=10∧t.mod≠⟨#[]⟩):=by simpa using AK);(have r9:um=t.mod:=by rw [Yg]; unfold zM; rw [if_neg hk]);simp only [go_sem];refine ee _ ⟨(),?_,dj (by omega) (by (simp only [r9,go_sem]))⟩;exact trivial
 intro _ _;simp only [go_sem];refine dT tt_ok bU [⟨.n,0,[],[],[]⟩,⟨.r,0,[],[0],[]⟩,⟨.a,0,[],[0,1],[]⟩,⟨.n,0,[],[],[]⟩,⟨.r,0,[0],[3],[]⟩,⟨.a,1,[],[0,1,2,3,4],[]⟩,⟨.n,0,[],[0,1,2,3,4],[]⟩,⟨.w,2,[],[0,1,2,3,4,5,6],[]⟩,⟨.n,0,[],[0,1,2,3,4,5,6,7],[]⟩,⟨.w,3,[],[0,1,2,3,4,5,6,7,8],[]⟩] 4 (by kernel_rfl) ?_;simp only [go_sem];refine Du ⟨_,jK (aQ t.args) (kl t.args 0) (by rw [aq]; omega)⟩ ?_;simp only [go_sem];refine Du ⟨_,sZ (bV t.bd) (zH t.bd 0) (by rw [aJ]; omega)⟩ ?_;simp only [go_sem];refine sq tt_ok [1,14,30000] ?_;simp only [go_sem];refine fL tt_ok [1,14,30000] (fun a:Nat×List Ty=>[(1,.ptr 0 0),(2,.ptr 1 0),(26,.ms 2 0 0 t.args.length),(27,num t.args.length),(28,num a.1)]) (fun a:Nat×List Ty=>[.box [num t.kind,str um,str t.name,.ms 2 0 0 t.args.length,.ms 3 0 0 t.bd.length],.box [num 0,str ⟨#[]⟩,str ⟨#[]⟩,.sc (.slice none 0 0),.sc (.slice none 0 0)],.rows 0 5 (aQ a.2),.rows 0 7 (bV t.bd),.hole,.hole]) (fun a=>t.args.length-a.1) (fun a=>a.1≤t.args.length∧a.2=(t.args.take a.1).map (Ty.res gZ)++t.args.drop a.1) ((0,t.args)) 6 (dj (by omega) (by simp only [bD,go_sem] <;> rfl)) (⟨bx _,by simp⟩) ?_;rintro⟨i,al⟩ ⟨hi,has⟩;try dsimp only at hi has
 try dsimp only
 intro Z3 vT;simp only [go_sem];refine bY (fun jy=>?_) (fun jy=>?_);·(have bX:i<t.args.length:=by simpa using jy);rw [jy];obtain⟨x,hx⟩:∃ x,t.args[i]?=some x:=⟨_,ah bX⟩;obtain⟨iJ,dH⟩:=fU has hx;(have eU:((i:Nat):Int)<((t.args.length:Nat):Int):=by omega);have hw:=bB i (by omega);simp only [eU,b8,iJ,aG,ai,hw,setRow,dH,go_sem];refine dT tt_ok bU [⟨.n,0,[],[],[]⟩,⟨.r,0,[],[],[]⟩,⟨.n,0,[],[],[]⟩,⟨.n,0,[],[],[]⟩,⟨.r,0,[],[],[]⟩,⟨.n,0,[],[],[]⟩,⟨.r,0,[],[],[]⟩,⟨.r,0,[],[],[]⟩,⟨.n,0,[],[],[]⟩,⟨.r,0,[],[],[]⟩,⟨.w,0,[],[],[]⟩] 1 (by kernel_rfl) ?_;simp only [eU,b8,iJ,aG,ai,hw,setRow,dH,go_sem];refine cG (ra (fK x (Ty.zL (ay hx)))) ?_;rintro _ rfl;simp only [eU,b8,iJ,aG,ai,hw,setRow,dH,go_sem];refine vT _ ⟨(i+1,al.set i (x.res gZ)),?_,?_,dj (by omega) (by (simp [qI,lk,ea,eV,aH,aI,aO,cV,df,aG,aG,ai]))⟩;(·exact⟨bX,eJ has hx⟩);dsimp only; omega
 have jw:¬ i<t.args.length:=by simpa using jy
 have gB:i=t.args.length:=by omega
 have jM:al=t.args.map (Ty.res gZ):=by rw [has,gB]; simp
 subst jM;simp only [go_sem];refine sq tt_ok [1,14,30000] ?_;simp only [go_sem];refine fL tt_ok [1,14,30000] (fun a:Nat×List Fd=>[(1,.ptr 0 0),(2,.ptr 1 0),(43,.ms 3 0 0 t.bd.length),(44,num t.bd.length),(45,num a.1)]) (fun a:Nat×List Fd=>[.box [num t.kind,str um,str t.name,.ms 2 0 0 t.args.length,.ms 3 0 0 t.bd.length],.box [num 0,str ⟨#[]⟩,str ⟨#[]⟩,.sc (.slice none 0 0),.sc (.slice none 0 0)],.rows 0 5 (aQ (t.args.map (Ty.res gZ))),.rows 0 7 (bV a.2),.hole,.hole]) (fun a=>t.bd.length-a.1) (fun a=>a.1≤t.bd.length∧a.2=(t.bd.take a.1).map (Fd.res gZ)++t.bd.drop a.1) ((0,t.bd)) 6 (dj (by omega) (by simp only [bD,go_sem] <;> rfl)) (⟨bx _,by simp⟩) ?_;rintro⟨i,al⟩ ⟨hi,has⟩;try dsimp only at hi has
 try dsimp only
 intro Z4 w7;simp only [go_sem];refine bY (fun Kr=>?_) (fun Kr=>?_);·(have bX:i<t.bd.length:=by simpa using Kr);rw [Kr];obtain⟨x,hx⟩:∃ x,t.bd[i]?=some x:=⟨_,ah bX⟩;obtain⟨iJ,dH⟩:=fU has hx;(have eU:((i:Nat):Int)<((t.bd.length:Nat):Int):=by omega);have hw:=bB i (by omega);simp only [eU,bI,iJ,aG,ai,hw,setRow,dH,bN,go_sem];refine dT tt_ok bU [⟨.n,0,[],[],[]⟩,⟨.r,0,[],[0],[]⟩,⟨.n,0,[],[],[]⟩,⟨.n,0,[],[],[]⟩,⟨.r,0,[],[3],[]⟩,⟨.n,0,[],[],[]⟩,⟨.r,0,[],[3,4,5],[]⟩,⟨.n,0,[],[3,4,5,6],[]⟩,⟨.r,0,[],[3,4,5,6,7],[]⟩,⟨.n,0,[],[3,4,5,6,7,8],[]⟩,⟨.r,0,[],[0,1,2,3,4,5,6,7,8,9],[]⟩,⟨.n,0,[],[0,1,2,3,4,5,6,7,8,9,10],[]⟩,⟨.w,0,[],[0,1,2,3,4,5,6,7,8,9,10,11],[]⟩] 1 (by kernel_rfl) ?_;simp only [eU,bI,iJ,aG,ai,hw,setRow,dH,bN,go_sem];refine cG (ra (fK x.ty (Ty.zN (ay hx)))) ?_;rintro _ rfl;simp only [eU,bI,iJ,aG,ai,hw,setRow,dH,bN,go_sem];refine w7 _ ⟨(i+1,al.set i (x.res gZ)),?_,?_,dj (by omega) (by (simp [qI,lk,ea,eV,aH,aI,aO,hY,df,bN,aG,ai,Fd.oU,Fd.qS,Fd.xM]))⟩;(·exact⟨bX,eJ has hx⟩);dsimp only; omega
 have jw:¬ i<t.bd.length:=by simpa using Kr
 have gB:i=t.bd.length:=by omega
 have jM:al=t.bd.map (Fd.res gZ):=by rw [has,gB]; simp
 subst jM;simp only [go_sem];refine jm (k:=0) (vs':=[num t.kind,str um,str t.name,.slice (aQ (t.args.map (Ty.res gZ))),.slice (bV (t.bd.map (Fd.res gZ)))]) rfl (by simp [fh,gu,dg,jX,cV,hY,YV]) ?_;refine Ki tt_ok [1,14,30000] ?_;simp only [go_sem];exact hK _ (by rw [Fv,aG]; rfl)
end
theorem rP:∀ (N:Nat) (t:Ty),t.wt≤N→N≤1048576→bG ab 22 [cf t] (cf (t.res gZ)):=by intro N;induction N with | zero=>intro t h; have:=rK t; omega | succ N ih =>intro t hN hb;have hl:=S4 t;obtain⟨_,rfl,h⟩:=Po t (by omega) (by omega) (by omega) fun p hp=>ih p (by have:=Yf hp; omega) (by omega);exact h
end
section
theorem Pp {x y:Ex} (h:bG ab 23 [cx x] (cx y)):∃ r_,(fun w=>w = .agg [num y.kind,str y.mod,str y.name,str y.text,num y.num,.slice (aQ y.types),.slice (y.labels.map bO),.slice (cr y.kids)]) r_∧bG ab 23 [.agg [num x.kind,str x.mod,str x.name,str x.text,num x.num,.slice (aQ x.types),.slice (x.labels.map bO),.slice (cr x.kids)]] r_:=⟨_,rfl,by rw [a8,a8] at h; exact h⟩
theorem Ll (x:Ex):x.mod.size≤x.wt:=by rw [x.iq]; omega
section
attribute [local go_sem] aq aA ag dk
theorem Pq (x:Ex) (LH:x.types.length≤1048576) (hll:x.labels.length≤1048576) (Mx:x.kids.length≤1048576) (Vb:x.mod.size≤1048576) (hT:∀ t∈x.types,bG ab 22 [cf t] (cf t.bR)) (hL:∀ l∈x.labels,bG ab 22 [cf l.ty] (cf l.ty.bR)) (fK:∀ k∈x.kids,bG ab 23 [cx k] (cx k.bR)):∃ r_,(fun w=>w=cx x.bR) r_∧bG ab 23 [cx x] r_:=by
 refine kc tt_ok [1,19,30000] 84 [.cell 2 45] (fn:=Tryz.f23) Tryz.func23 rfl Tryz.call23 ⟨rfl,rfl,by simp⟩ fun K hK=>?_;obtain⟨um,Yg⟩:∃ u,u=zM x.kind 4 x.mod:=⟨_,rfl⟩;have JQ:x.bR = .mk x.kind um x.name x.text x.num (x.types.map Ty.bR) (x.labels.map (Lb.res gZ)) (x.kids.map Ex.bR):=by rw [Yg]; exact x.jN
 simp only [a8,aC];simp only [go_sem];refine pq (n:=84) tt_ok [1,19,30000] (fun _:Unit=>[(1,.ptr 0 0),(2,.ptr 1 0)]) (fun _:Unit=>[.box [num x.kind,str um,str x.name,str x.text,num x.num,.slice (aQ x.types),.slice (x.labels.map bO),.slice (cr x.kids)],.box [num 0,str ⟨#[]⟩,str ⟨#[]⟩,str ⟨#[]⟩,num 0,.sc (.slice none 0 0),.sc (.slice none 0 0),.sc (.slice none 0 0)]]) 2 (fun _=>True) (fun Z1 ee=>?_) ?_;·simp only [go_sem];refine im tt_ok [1,19,30000] [13] 2 [0,1,2] (fun vs=>vs=[bl (decide (x.kind=4) && !decide (x.mod=⟨#[]⟩))]) (fun Z2 mc=>?_) ?_;(·simp only [go_sem];refine mw tt_ok ?_;simp only [go_sem];refine bY (fun fj=>?_) (fun fj=>?_);(·simp only [go_sem];refine mc _ (dP (by omega) (by simp only [go_sem]) ?_);simp only [fC,lk,reduceIte,zE];exact congrArg (fun b=>[bl b]) (by first | (rw [fj]; first | rfl | simp) | simp_all));simp only [go_sem];refine mc _ (dP (by omega) (by simp only [go_sem]) ?_);simp only [fC,lk,reduceIte,zE];exact congrArg (fun b=>[bl b]) (by first | (rw [fj]; first | rfl | simp) | simp_all));intro vs hJ;obtain rfl:=hJ;simp only [go_sem];refine bY (fun Yh=>?_) (fun Yh=>?_);(·(have hk:x.kind=4∧x.mod≠⟨#[]⟩:=by simpa using Yh);(have r9:um=⟨#[122]⟩++x.mod:=by rw [Yg]; unfold zM; rw [if_pos hk]; rfl);have sa:=Dh x.mod (by omega);simp only [sa,go_sem];refine ee _ ⟨(),?_,dj (by omega) (by (simp only [r9,sa,go_sem]))⟩;exact trivial);(have hk:¬ (x.kind=4∧x.mod≠⟨#[]⟩):=by simpa using Yh);(have r9:um=x.mod:=by rw [Yg]; unfold zM; rw [if_neg hk]);simp only [go_sem];refine ee _ ⟨(),?_,dj (by omega) (by (simp only [r9,go_sem]))⟩;exact trivial
 intro _ _;simp only [go_sem];refine dT tt_ok bU [⟨.n,0,[],[],[]⟩,⟨.r,0,[],[0],[]⟩,⟨.a,0,[],[0,1],[]⟩,⟨.n,0,[],[],[]⟩,⟨.r,0,[0],[3],[]⟩,⟨.a,1,[],[0,1,2,3,4],[]⟩,⟨.n,0,[],[],[]⟩,⟨.r,0,[0,1],[6],[]⟩,⟨.a,2,[],[0,1,2,3,4,5,6,7],[]⟩,⟨.n,0,[],[0,1,2,3,4,6,7],[]⟩,⟨.w,3,[],[0,1,2,3,4,5,6,7,8,9],[]⟩,⟨.n,0,[],[0,1,2,3,4,5,6,7,8,9,10],[]⟩,⟨.w,4,[],[0,1,2,3,4,5,6,7,8,9,10,11],[]⟩,⟨.n,0,[],[0,1,2,3,4,5,6,7,8,9,10,11,12],[]⟩,⟨.w,5,[],[0,1,2,3,4,5,6,7,8,9,10,11,12,13],[]⟩] 6 (by kernel_rfl) ?_;simp only [go_sem];refine Du ⟨_,jK (aQ x.types) (kl x.types 0) (by rw [aq]; omega)⟩ ?_;simp only [go_sem];refine Du ⟨_,s5 (x.labels.map bO) (zI x.labels 0) (by rw [ag]; omega)⟩ ?_;simp only [go_sem];refine Du ⟨_,s6 (cr x.kids) (zJ x.kids 0) (by rw [aA]; omega)⟩ ?_;simp only [go_sem];refine sq tt_ok [1,19,30000] ?_;simp only [go_sem];refine fL tt_ok [1,19,30000] (fun a:Nat×List Ty=>[(1,.ptr 0 0),(2,.ptr 1 0),(31,.ms 2 0 0 x.types.length),(32,num x.types.length),(33,num a.1)]) (fun a:Nat×List Ty=>[.box [num x.kind,str um,str x.name,str x.text,num x.num,.ms 2 0 0 x.types.length,.ms 3 0 0 x.labels.length,.ms 4 0 0 x.kids.length],.box [num 0,str ⟨#[]⟩,str ⟨#[]⟩,str ⟨#[]⟩,num 0,.sc (.slice none 0 0),.sc (.slice none 0 0),.sc (.slice none 0 0)],.rows 0 5 (aQ a.2),.rows 0 8 ((x.labels).map bO),.rows 0 8 (cr x.kids),.hole,.hole,.hole]) (fun a=>x.types.length-a.1) (fun a=>a.1≤x.types.length∧a.2=(x.types.take a.1).map Ty.bR++x.types.drop a.1) ((0,x.types)) 8 (dj (by omega) (by simp only [bD,go_sem] <;> rfl)) (⟨bx _,by simp⟩) ?_;rintro⟨i,al⟩ ⟨hi,has⟩;try dsimp only at hi has
 try dsimp only
 intro Z3 vT;simp only [go_sem];refine bY (fun Le=>?_) (fun Le=>?_);·(have bX:i<x.types.length:=by simpa using Le);rw [Le];obtain⟨y,hy⟩:∃ y,x.types[i]?=some y:=⟨_,ah bX⟩;obtain⟨iJ,dH⟩:=fU has hy;(have eU:((i:Nat):Int)<((x.types.length:Nat):Int):=by omega);have hw:=bB i (by omega);simp only [eU,iJ,hw,setRow,dH,b8,aG,ai,go_sem];refine dT tt_ok bU [⟨.n,0,[],[],[]⟩,⟨.r,0,[],[],[]⟩,⟨.n,0,[],[],[]⟩,⟨.n,0,[],[],[]⟩,⟨.r,0,[],[],[]⟩,⟨.n,0,[],[],[]⟩,⟨.r,0,[],[],[]⟩,⟨.r,0,[],[],[]⟩,⟨.n,0,[],[],[]⟩,⟨.r,0,[],[],[]⟩,⟨.w,0,[],[],[]⟩] 1 (by kernel_rfl) ?_;simp only [eU,iJ,hw,setRow,dH,b8,aG,ai,go_sem];refine cG (ra (hT y (ay hy))) ?_;rintro _ rfl;simp only [eU,iJ,hw,setRow,dH,b8,aG,ai,go_sem];refine vT _ ⟨(i+1,al.set i (y.bR)),?_,?_,dj (by omega) (by (simp [qI,lk,ea,eV,aH,aI,aO,df,cV,aG,ai]))⟩;(·exact⟨bX,eJ has hy⟩);dsimp only; omega
 have jw:¬ i<x.types.length:=by simpa using Le
 have gB:i=x.types.length:=by omega
 have jM:al=x.types.map Ty.bR:=by rw [has,gB]; simp
 subst jM;simp only [go_sem];refine sq tt_ok [1,19,30000] ?_;simp only [go_sem];refine fL tt_ok [1,19,30000] (fun a:Nat×List Lb=>[(1,.ptr 0 0),(2,.ptr 1 0),(48,.ms 3 0 0 x.labels.length),(49,num x.labels.length),(50,num a.1)]) (fun a:Nat×List Lb=>[.box [num x.kind,str um,str x.name,str x.text,num x.num,.ms 2 0 0 x.types.length,.ms 3 0 0 x.labels.length,.ms 4 0 0 x.kids.length],.box [num 0,str ⟨#[]⟩,str ⟨#[]⟩,str ⟨#[]⟩,num 0,.sc (.slice none 0 0),.sc (.slice none 0 0),.sc (.slice none 0 0)],.rows 0 5 (aQ (x.types.map Ty.bR)),.rows 0 8 ((a.2).map bO),.rows 0 8 (cr x.kids),.hole,.hole,.hole]) (fun a=>x.labels.length-a.1) (fun a=>a.1≤x.labels.length∧a.2=(x.labels.take a.1).map (Lb.res gZ)++x.labels.drop a.1) ((0,x.labels)) 8 (dj (by omega) (by simp only [bD,go_sem] <;> rfl)) (⟨bx _,by simp⟩) ?_;rintro⟨i,al⟩ ⟨hi,has⟩;try dsimp only at hi has
 try dsimp only
 intro Z4 w7;simp only [go_sem];refine bY (fun AN=>?_) (fun AN=>?_);·(have bX:i<x.labels.length:=by simpa using AN);rw [AN];obtain⟨y,hy⟩:∃ y,x.labels[i]?=some y:=⟨_,ah bX⟩;obtain⟨iJ,dH⟩:=fU has hy;(have eU:((i:Nat):Int)<((x.labels.length:Nat):Int):=by omega);have hw:=bB i (by omega);simp only [eU,iJ,hw,setRow,dH,ae,bO,ai,aj,ak,go_sem];refine dT tt_ok bU [⟨.n,0,[],[],[]⟩,⟨.r,0,[],[0],[]⟩,⟨.n,0,[],[],[]⟩,⟨.n,0,[],[],[]⟩,⟨.r,0,[],[3],[]⟩,⟨.n,0,[],[],[]⟩,⟨.r,0,[],[3,4,5],[]⟩,⟨.n,0,[],[3,4,5,6],[]⟩,⟨.r,0,[],[3,4,5,6,7],[]⟩,⟨.n,0,[],[3,4,5,6,7,8],[]⟩,⟨.r,0,[],[0,1,2,3,4,5,6,7,8,9],[]⟩,⟨.n,0,[],[0,1,2,3,4,5,6,7,8,9,10],[]⟩,⟨.w,0,[],[0,1,2,3,4,5,6,7,8,9,10,11],[]⟩] 1 (by kernel_rfl) ?_;simp only [eU,iJ,hw,setRow,dH,ae,bO,ai,aj,ak,go_sem];refine cG (ra (hL y (ay hy))) ?_;rintro _ rfl;simp only [eU,iJ,hw,setRow,dH,ae,bO,ai,aj,ak,go_sem];refine w7 _ ⟨(i+1,al.set i (y.res gZ)),?_,?_,dj (by omega) (by (simp [qI,lk,ea,eV,aH,aI,aO,df,bO,Lb.res,Ty.bR,aG,ai]))⟩;(·exact⟨bX,eJ has hy⟩);dsimp only; omega
 have jw:¬ i<x.labels.length:=by simpa using AN
 have gB:i=x.labels.length:=by omega
 have jM:al=x.labels.map (Lb.res gZ):=by rw [has,gB]; simp
 subst jM;simp only [go_sem];refine sq tt_ok [1,19,30000] ?_;simp only [go_sem];refine fL tt_ok [1,19,30000] (fun a:Nat×List Ex=>[(1,.ptr 0 0),(2,.ptr 1 0),(67,.ms 4 0 0 x.kids.length),(68,num x.kids.length),(69,num a.1)]) (fun a:Nat×List Ex=>[.box [num x.kind,str um,str x.name,str x.text,num x.num,.ms 2 0 0 x.types.length,.ms 3 0 0 x.labels.length,.ms 4 0 0 x.kids.length],.box [num 0,str ⟨#[]⟩,str ⟨#[]⟩,str ⟨#[]⟩,num 0,.sc (.slice none 0 0),.sc (.slice none 0 0),.sc (.slice none 0 0)],.rows 0 5 (aQ (x.types.map Ty.bR)),.rows 0 8 ((x.labels.map (Lb.res gZ)).map bO),.rows 0 8 (cr a.2),.hole,.hole,.hole]) (fun a=>x.kids.length-a.1) (fun a=>a.1≤x.kids.length∧a.2=(x.kids.take a.1).map Ex.bR++x.kids.drop a.1) ((0,x.kids)) 8 (dj (by omega) (by simp only [bD,go_sem] <;> rfl)) (⟨bx _,by simp⟩) ?_;rintro⟨i,al⟩ ⟨hi,has⟩;try dsimp only at hi has
 try dsimp only
 intro Z5 Dw;simp only [go_sem];refine bY (fun S5=>?_) (fun S5=>?_);·(have bX:i<x.kids.length:=by simpa using S5);rw [S5];obtain⟨y,hy⟩:∃ y,x.kids[i]?=some y:=⟨_,ah bX⟩;obtain⟨iJ,dH⟩:=fU has hy;(have eU:((i:Nat):Int)<((x.kids.length:Nat):Int):=by omega);have hw:=bB i (by omega);simp only [eU,iJ,hw,setRow,dH,dn,a8,aC,go_sem];refine dT tt_ok bU [⟨.n,0,[],[],[]⟩,⟨.r,0,[],[],[]⟩,⟨.n,0,[],[],[]⟩,⟨.n,0,[],[],[]⟩,⟨.r,0,[],[],[]⟩,⟨.n,0,[],[],[]⟩,⟨.r,0,[],[],[]⟩,⟨.r,0,[],[],[]⟩,⟨.n,0,[],[],[]⟩,⟨.r,0,[],[],[]⟩,⟨.w,0,[],[],[]⟩] 1 (by kernel_rfl) ?_;simp only [eU,iJ,hw,setRow,dH,dn,a8,aC,go_sem];refine cG (Pp (fK y (ay hy))) ?_;rintro _ rfl;simp only [eU,iJ,hw,setRow,dH,dn,a8,aC,go_sem];refine Dw _ ⟨(i+1,al.set i (y.bR)),?_,?_,dj (by omega) (by (simp [qI,lk,ea,eV,aH,aI,aO,df,jJ,a8,aC,aG,ai]))⟩;(·exact⟨bX,eJ has hy⟩);dsimp only; omega
 have jw:¬ i<x.kids.length:=by simpa using S5
 have gB:i=x.kids.length:=by omega
 have jM:al=x.kids.map Ex.bR:=by rw [has,gB]; simp
 subst jM;simp only [go_sem];refine jm (k:=0) (vs':=[num x.kind,str um,str x.name,str x.text,num x.num,.slice (aQ (x.types.map Ty.bR)),.slice ((x.labels.map (Lb.res gZ)).map bO),.slice (cr (x.kids.map Ex.bR))]) rfl (by simp [fh,gu,dg,jX,cV,jJ,YV,bE]) ?_;refine Ki tt_ok [1,19,30000] ?_;simp only [go_sem];exact hK _ (by rw [JQ,a8]; rfl)
end
theorem S6:∀ (N:Nat) (x:Ex),x.wt≤N→N≤1048576→bG ab 23 [cx x] (cx x.bR):=by intro N;induction N with | zero=>intro x h; have:=oV x; omega | succ N ih =>intro x hN hb;have hl:=CW x;have hm:=Ll x;obtain⟨_,rfl,h⟩:=Pq x (by omega) (by omega) (by omega) (by omega) (fun t ht=>rP t.wt t (aw _) (by have:=uS ht; omega)) (fun l hl=>rP l.ty.wt l.ty (aw _) (by have:=xO hl; omega)) fun k hk=>ih k (by have:=CX hk; omega) (by omega);exact h
end
section
theorem Y1 (t:Ty) (h:t.size≤1048576):bG ab 76 [cf t,cf t] (bl true):=by have h_:=zf t.size t t (aw _) h;rwa [rG.2 rfl] at h_
theorem Pr (x y:Operand) (b:Bool):eM ab (rU .neq 4 x y) (bl b) (bl b)=some (bl false):=by cases b <;> kernel_rfl
theorem Ps (x y:Operand) (b:Bool):eM ab (rU .eql 4 x y) (bl b) (bl b)=some (bl true):=by cases b <;> kernel_rfl
section
attribute [local go_sem] aq aR Pr Ps
theorem ahs (l:List Ty) (hl:l.length≤1048576) (hg:∀ t∈l,t.size≤1048576):∃ r_,(fun w=>w=bl (true)) r_∧bG ab 128 [.slice (aQ l),.slice (aQ l)] r_:=by
 refine kc tt_ok [] 27 [.tmp 4] (fn:=Tryz.f128) Tryz.func128 rfl Tryz.call128 ⟨rfl,rfl,by simp⟩ fun K hK=>?_;simp only [beq_self_eq_true,decide_true,eq_self,go_sem];refine fL tt_ok [] (fun i:Nat=>[(0,.slice (aQ l)),(1,.slice (aQ l)),(5,num i)]) (fun i:Nat=>[]) (fun i=>l.length-i) (fun i=>i≤l.length) (0) 0 (dj (by omega) (by simp only [beq_self_eq_true,decide_true,eq_self,bD,go_sem] <;> rfl)) (bx _) ?_;intro i hi;intro Z1 ee;simp only [beq_self_eq_true,decide_true,eq_self,go_sem];refine bY (fun pH=>?_) (fun pH=>?_);·(have oo:i<l.length:=by simpa using pH);have jo:=bB i (by omega);obtain⟨t,ht⟩:∃ t,l[i]?=some t:=⟨_,ah oo⟩;(have eU:((i:Nat):Int)<((l.length:Nat):Int):=by omega);simp only [eU,jo,ht,b8,bz,aG,ai,beq_self_eq_true,decide_true,eq_self,go_sem];refine dT tt_ok bU [⟨.n,0,[],[],[]⟩,⟨.n,0,[],[],[]⟩,⟨.r,0,[],[],[]⟩,⟨.r,0,[],[],[]⟩,⟨.n,0,[],[],[]⟩,⟨.n,0,[],[],[]⟩,⟨.r,0,[],[],[]⟩,⟨.r,0,[],[],[]⟩,⟨.n,0,[],[],[]⟩,⟨.n,0,[],[],[]⟩] 0 (by kernel_rfl) ?_;simp only [eU,jo,ht,b8,bz,aG,ai,beq_self_eq_true,decide_true,eq_self,go_sem];refine cG (by have h_:=Y1 t (hg t (ay ht)); simp only [aG,ai] at h_; exact⟨_,rfl,h_⟩) ?_;rintro _ rfl;simp only [eU,jo,ht,b8,bz,aG,ai,beq_self_eq_true,decide_true,eq_self,go_sem];refine ee _ ⟨i+1,?_,?_,dj (by omega) (by simp only [eU,jo,ht,b8,bz,aG,ai,beq_self_eq_true,decide_true,eq_self,go_sem])⟩;(·exact oo);omega
 have Fm:i=l.length:=by have h_:¬ i<l.length:=(by simpa using pH); omega
 simp only [beq_self_eq_true,decide_true,eq_self,go_sem];exact hK _ rfl
end
section
attribute [local go_sem] ag aR Pr Ps
theorem aht (l:List Pm) (hl:l.length≤1048576) (hg:∀ p∈l,p.bound.size≤1048576):∃ r_,(fun w=>w=bl (true)) r_∧bG ab 97 [.slice (l.map cX),.slice (l.map cX)] r_:=by
 refine kc tt_ok [] 55 [.tmp 4] (fn:=Tryz.f97) Tryz.func97 rfl Tryz.call97 ⟨rfl,rfl,by simp⟩ fun K hK=>?_;simp only [beq_self_eq_true,decide_true,eq_self,go_sem];refine fL tt_ok [] (fun i:Nat=>[(0,.slice (l.map cX)),(1,.slice (l.map cX)),(5,num i)]) (fun i:Nat=>[]) (fun i=>l.length-i) (fun i=>i≤l.length) (0) 0 (dj (by omega) (by simp only [beq_self_eq_true,decide_true,eq_self,bD,go_sem] <;> rfl)) (bx _) ?_;intro i hi;intro Z1 ee;simp only [beq_self_eq_true,decide_true,eq_self,go_sem];refine bY (fun pH=>?_) (fun pH=>?_);·(have oo:i<l.length:=by simpa using pH);have jo:=bB i (by omega);obtain⟨p,hp⟩:∃ p,l[i]?=some p:=⟨_,ah oo⟩;(have eU:((i:Nat):Int)<((l.length:Nat):Int):=by omega);simp only [eU,jo,hp,ae,bz,cX,ai,aj,ak,beq_self_eq_true,decide_true,eq_self,go_sem];refine dT tt_ok bU [⟨.n,0,[],[],[]⟩,⟨.n,0,[],[],[]⟩,⟨.r,0,[],[],[]⟩,⟨.n,0,[],[],[]⟩,⟨.r,0,[],[],[]⟩,⟨.n,0,[],[],[]⟩,⟨.n,0,[],[],[]⟩,⟨.r,0,[],[],[]⟩,⟨.n,0,[],[],[]⟩,⟨.r,0,[],[],[]⟩,⟨.n,0,[],[],[]⟩,⟨.n,0,[],[],[]⟩,⟨.n,0,[],[],[]⟩,⟨.n,0,[],[],[]⟩,⟨.r,0,[],[],[]⟩,⟨.n,0,[],[],[]⟩,⟨.r,0,[],[],[]⟩,⟨.n,0,[],[],[]⟩,⟨.n,0,[],[],[]⟩,⟨.r,0,[],[],[]⟩,⟨.n,0,[],[],[]⟩,⟨.r,0,[],[],[]⟩,⟨.n,0,[],[],[]⟩,⟨.n,0,[],[],[]⟩,⟨.n,0,[],[],[]⟩,⟨.n,0,[],[],[]⟩,⟨.n,0,[],[],[]⟩,⟨.r,0,[],[],[]⟩,⟨.n,0,[],[],[]⟩,⟨.r,0,[],[],[]⟩,⟨.n,0,[],[],[]⟩,⟨.n,0,[],[],[]⟩,⟨.r,0,[],[],[]⟩,⟨.n,0,[],[],[]⟩,⟨.r,0,[],[],[]⟩,⟨.n,0,[],[],[]⟩,⟨.n,0,[],[],[]⟩,⟨.n,0,[],[],[]⟩] 0 (by kernel_rfl) ?_;simp only [eU,jo,hp,ae,bz,cX,ai,aj,ak,beq_self_eq_true,decide_true,eq_self,go_sem];refine cG (by have h_:=Y1 p.bound (hg p (ay hp)); simp only [aG,ai] at h_; exact⟨_,rfl,h_⟩) ?_;rintro _ rfl;simp only [eU,jo,hp,ae,bz,cX,ai,aj,ak,beq_self_eq_true,decide_true,eq_self,go_sem];refine ee _ ⟨i+1,?_,?_,dj (by omega) (by simp only [eU,jo,hp,ae,bz,cX,ai,aj,ak,beq_self_eq_true,decide_true,eq_self,go_sem])⟩;(·exact oo);omega
 have Fm:i=l.length:=by have h_:¬ i<l.length:=(by simpa using pH); omega
 simp only [beq_self_eq_true,decide_true,eq_self,go_sem];exact hK _ rfl
end
section
attribute [local go_sem] aq aA ag aR Pr Ps
theorem ahu (x:Ex) (LH:x.types.length≤1048576) (hll:x.labels.length≤1048576) (Mx:x.kids.length≤1048576) (hT:∀ t∈x.types,t.size≤1048576) (hL:∀ l∈x.labels,l.ty.size≤1048576) (fK:∀ k∈x.kids,bG ab 98 [cx k,cx k] (bl true)):∃ r_,(fun w=>w=bl (true)) r_∧bG ab 98 [cx x,cx x] r_:=by
 refine kc tt_ok [] 131 [.tmp 4] (fn:=Tryz.f98) Tryz.func98 rfl Tryz.call98 ⟨rfl,rfl,by simp⟩ fun K hK=>?_;simp only [a8,aC];simp only [beq_self_eq_true,decide_true,eq_self,go_sem];refine cF (ahs x.types LH hT) ?_;rintro _ rfl;simp only [beq_self_eq_true,decide_true,eq_self,go_sem];refine fL tt_ok [] (fun i:Nat=>[(2,.ptr 0 0),(3,.ptr 1 0),(5,num i)]) (fun i:Nat=>[.box [num x.kind,str x.mod,str x.name,str x.text,num x.num,.slice (aQ x.types),.slice (x.labels.map bO),.slice (cr x.kids)],.box [num x.kind,str x.mod,str x.name,str x.text,num x.num,.slice (aQ x.types),.slice (x.labels.map bO),.slice (cr x.kids)]]) (fun i=>x.labels.length-i) (fun i=>i≤x.labels.length) (0) 2 (dj (by omega) (by simp only [beq_self_eq_true,decide_true,eq_self,bD,go_sem] <;> rfl)) (bx _) ?_;intro i hi;intro Z1 ee;simp only [beq_self_eq_true,decide_true,eq_self,go_sem];refine bY (fun Yi=>?_) (fun Yi=>?_);·(have oo:i<x.labels.length:=by simpa using Yi);have jo:=bB i (by omega);obtain⟨l,hl⟩:∃ l,x.labels[i]?=some l:=⟨_,ah oo⟩;(have eU:((i:Nat):Int)<((x.labels.length:Nat):Int):=by omega);simp only [eU,jo,hl,ae,bz,bO,ai,aj,ak,beq_self_eq_true,decide_true,eq_self,go_sem];refine dT tt_ok bU [⟨.n,0,[],[],[]⟩,⟨.r,0,[0,1],[],[]⟩,⟨.n,0,[],[],[]⟩,⟨.r,0,[0,1],[],[]⟩,⟨.r,0,[0,1],[],[]⟩,⟨.n,0,[],[],[]⟩,⟨.r,0,[0,1],[],[]⟩,⟨.n,0,[],[],[]⟩,⟨.r,0,[0,1],[],[]⟩,⟨.r,0,[0,1],[],[]⟩,⟨.a,0,[],[],[]⟩,⟨.a,1,[],[],[]⟩,⟨.s,0,[],[],[]⟩,⟨.s,1,[],[],[]⟩] 2 (by kernel_rfl) ?_;simp only [eU,jo,hl,ae,bz,bO,ai,aj,ak,beq_self_eq_true,decide_true,eq_self,go_sem];refine cF (by have h_:=Y1 l.ty (hL l (ay hl)); simp only [aG,ai] at h_; exact⟨_,rfl,h_⟩) ?_;rintro _ rfl;simp only [eU,jo,hl,ae,bz,bO,ai,aj,ak,beq_self_eq_true,decide_true,eq_self,go_sem];refine ee _ ⟨i+1,?_,?_,dj (by omega) (by simp only [eU,jo,hl,ae,bz,bO,ai,aj,ak,beq_self_eq_true,decide_true,eq_self,go_sem])⟩;(·exact oo);omega
 have Fm:i=x.labels.length:=by have h_:¬ i<x.labels.length:=(by simpa using Yi); omega
 simp only [beq_self_eq_true,decide_true,eq_self,go_sem];refine fL tt_ok [] (fun i:Nat=>[(2,.ptr 0 0),(3,.ptr 1 0),(8,num i)]) (fun i:Nat=>[.box [num x.kind,str x.mod,str x.name,str x.text,num x.num,.slice (aQ x.types),.slice (x.labels.map bO),.slice (cr x.kids)],.box [num x.kind,str x.mod,str x.name,str x.text,num x.num,.slice (aQ x.types),.slice (x.labels.map bO),.slice (cr x.kids)]]) (fun i=>x.kids.length-i) (fun i=>i≤x.kids.length) (0) 2 (dj (by omega) (by simp only [beq_self_eq_true,decide_true,eq_self,bD,go_sem] <;> rfl)) (bx _) ?_;intro i hi;intro Z2 mc;simp only [beq_self_eq_true,decide_true,eq_self,go_sem];refine bY (fun Pt=>?_) (fun Pt=>?_);·(have oo:i<x.kids.length:=by simpa using Pt);have jo:=bB i (by omega);obtain⟨k,hk⟩:∃ k,x.kids[i]?=some k:=⟨_,ah oo⟩;(have eU:((i:Nat):Int)<((x.kids.length:Nat):Int):=by omega);simp only [eU,jo,hk,dn,bz,a8,aC,beq_self_eq_true,decide_true,eq_self,go_sem];refine dT tt_ok bU [⟨.n,0,[],[],[]⟩,⟨.r,0,[],[],[]⟩,⟨.n,0,[],[],[]⟩,⟨.r,0,[],[],[]⟩,⟨.r,0,[],[],[]⟩,⟨.n,0,[],[],[]⟩,⟨.r,0,[],[],[]⟩,⟨.n,0,[],[],[]⟩,⟨.r,0,[],[],[]⟩,⟨.r,0,[],[],[]⟩,⟨.n,0,[],[],[]⟩,⟨.n,0,[],[],[]⟩] 0 (by kernel_rfl) ?_;simp only [eU,jo,hk,dn,bz,a8,aC,beq_self_eq_true,decide_true,eq_self,go_sem];refine cG (by have h_:=fK k (ay hk); simp only [a8,aC] at h_; exact⟨_,rfl,h_⟩) ?_;rintro _ rfl;simp only [eU,jo,hk,dn,bz,a8,aC,beq_self_eq_true,decide_true,eq_self,go_sem];refine mc _ ⟨i+1,?_,?_,dj (by omega) (by simp only [eU,jo,hk,dn,bz,a8,aC,beq_self_eq_true,decide_true,eq_self,go_sem])⟩;(·exact oo);omega
 have Fm:i=x.kids.length:=by have h_:¬ i<x.kids.length:=(by simpa using Pt); omega
 simp only [beq_self_eq_true,decide_true,eq_self,go_sem];exact hK _ rfl
end
theorem exR:∀ (N:Nat) (x:Ex),x.cy≤N→N≤1048576→bG ab 98 [cx x,cx x] (bl true):=by
 intro N
 induction N with
 | zero=>intro x h; have:=x.fT; omega
 | succ N ih =>
  intro x hN hb
  have e0:=x.m6
  have e1:=x.uA
  have e2:=x.mA
  obtain⟨_,rfl,hh⟩:=ahu x (by omega) (by omega) (by omega) (fun t ht=>by
   obtain⟨i,hi⟩:=bL.1 ht
   have:=cb Ty.size hi
   omega) (fun l hl=>by
   obtain⟨i,hi⟩:=bL.1 hl
   have:=cb Lb.cy hi
   have e:l.cy=1+l.ty.size:=rfl
   omega) fun k hk=>ih k (by
   obtain⟨i,hi⟩:=bL.1 hk
   have:=cb Ex.cy hi
   omega) (by omega)
  exact hh
section
attribute [local go_sem] aq aA ag aR Pr Ps
theorem dcR (d:Dc) (hb:d.cy≤1048576):∃ r_,(fun w=>w=bl (true)) r_∧bG ab 40 [aL d,aL d] r_:=by refine kc tt_ok [] 87 [.tmp 4] (fn:=Tryz.f40) Tryz.func40 rfl Tryz.call40 ⟨rfl,rfl,by simp⟩ fun K hK=>?_;have hd:=hb;unfold Dc.cy at hd;simp only [dO,aL,ai,aC];simp only [beq_self_eq_true,decide_true,eq_self,go_sem];refine cF (aht d.params (by omega) (fun p hp=>by obtain⟨i,hi⟩:=bL.1 hp; have:=cb (fun p:Pm=>p.bound.size) hi; omega)) ?_;rintro _ rfl;simp only [beq_self_eq_true,decide_true,eq_self,go_sem];refine cF (by have h_:=Y1 d.lower (by omega); simp only [aG,ai] at h_; exact⟨_,rfl,h_⟩) ?_;rintro _ rfl;simp only [beq_self_eq_true,decide_true,eq_self,go_sem];refine cF (by have h_:=Y1 d.upper (by omega); simp only [aG,ai] at h_; exact⟨_,rfl,h_⟩) ?_;rintro _ rfl;simp only [beq_self_eq_true,decide_true,eq_self,go_sem];refine cF (by have h_:=Y1 d.type (by omega); simp only [aG,ai] at h_; exact⟨_,rfl,h_⟩) ?_;rintro _ rfl;simp only [beq_self_eq_true,decide_true,eq_self,go_sem];refine cF (by have h_:=exR d.expr.cy d.expr (aw _) (by omega); simp only [a8,aC] at h_; exact⟨_,rfl,h_⟩) ?_;rintro _ rfl;simp only [beq_self_eq_true,decide_true,eq_self,go_sem];exact hK _ rfl
end
section
attribute [local go_sem] ag aR Pr Ps
theorem ahv (g:FuncId) (l:List Dc) (hl:l.length≤1048576) (hg:∀ d∈l,bG ab g [aL d,aL d] (bl true)):∃ r_,(fun w=>w=bl (true)) r_∧bG ab 57 [.slice (l.map aL),.slice (l.map aL),.sc (.func (.func g) #[] #[])] r_:=by
 refine kc tt_ok [] 32 [.tmp 6] (fn:=Tryz.f57) Tryz.func57 rfl Tryz.call57 ⟨rfl,rfl,by simp⟩ fun K hK=>?_;simp only [beq_self_eq_true,decide_true,eq_self,go_sem];refine fL tt_ok [] (fun i:Nat=>[(1,.slice (l.map aL)),(2,.sc (.func (.func g) #[] #[])),(15,.slice (l.map aL)),(16,num l.length),(17,num i)]) (fun i:Nat=>[]) (fun i=>l.length-i) (fun i=>i≤l.length) (0) 0 (dj (by omega) (by simp only [beq_self_eq_true,decide_true,eq_self,bD,go_sem] <;> rfl)) (bx _) ?_;intro i hi;intro Z1 ee;simp only [beq_self_eq_true,decide_true,eq_self,go_sem];refine bY (fun oq=>?_) (fun oq=>?_);·(have oo:i<l.length:=by simpa using oq);have jo:=bB i (by omega);obtain⟨d,hd⟩:∃ d,l[i]?=some d:=⟨_,ah oo⟩;(have eU:((i:Nat):Int)<((l.length:Nat):Int):=by omega);simp only [eU,jo,hd,ae,bz,aL,ai,aC,aj,ak,beq_self_eq_true,decide_true,eq_self,go_sem];refine cF (by have h_:=hg d (ay hd); simp only [dO,aL,ai,aC] at h_; exact⟨_,rfl,h_⟩) ?_;rintro _ rfl;simp only [eU,jo,hd,ae,bz,aL,ai,aC,aj,ak,beq_self_eq_true,decide_true,eq_self,go_sem];refine ee _ ⟨i+1,?_,?_,dj (by omega) (by simp only [eU,jo,hd,ae,bz,aL,ai,aC,aj,ak,beq_self_eq_true,decide_true,eq_self,go_sem])⟩;(·exact oo);omega
 have Fm:i=l.length:=by have h_:¬ i<l.length:=(by simpa using oq); omega
 simp only [beq_self_eq_true,decide_true,eq_self,go_sem];exact hK _ rfl
end
end
section
theorem S7 (x:Im):∃ r_,(fun w=>w=bl (decide (20<x.alias.size))) r_∧bG ab 18 [bQ x] r_:=by
 refine kc tt_ok [] 7 [.tmp 2] (fn:=Tryz.f18) Tryz.func18 rfl Tryz.call18 ⟨rfl,rfl,by simp⟩ fun K hK=>?_;have vb:ab.underlying 9=some .string:=by kernel_rfl
 have sl:∀ (a:ByteArray) (ty:TypeId),kZ ab (Builtin.len_ #[9] ty) [.sc (.string a)]=some (num a.size):=fun a ty=>l8 (P:=ab) (tt:=tt) (T:=9) a vb ty;simp only [bQ];simp only [sl,go_sem];exact hK _ (congrArg bl (decide_eq_decide.2 (by omega)))
section
attribute [local go_sem] ag
theorem Pu (g:FuncId) (q:Im→Bool) (l:List Im) (hg:∀ x∈l,∃ r,(fun v=>v=bl (q x)) r∧bG ab g [bQ x] r) (hl:l.length≤1048576):∃ r_,(fun w=>∃ k:Int,w=num k∧decide (0≤k)=l.any q) r_∧bG ab 52 [.slice (l.map bQ),.sc (.func (.func g) #[] #[])] r_:=by
 refine kc tt_ok [] 19 [.tmp 4] (fn:=Tryz.f52) Tryz.func52 rfl Tryz.call52 ⟨rfl,rfl,by simp⟩ fun K hK=>?_;simp only [go_sem];refine iB tt_ok [] [8] 0 [0,1,7] (fun vs=>((l.length:Int)-Go.Eng.intOf (vs.headD .undef)).toNat) (fun vs=>∃ i:Nat,vs=[num i]∧i≤l.length∧∀ j<i,∀ x,l[j]?=some x→q x=false) (by omega) (by simp only [go_sem]) (⟨0,rfl,bx _,fun j hj=>absurd hj (iK j)⟩) fun vs hI Z1 ee=>?_;obtain⟨i,rfl,hi,er⟩:=hI;simp only [go_sem];refine bY (fun lS=>?_) (fun lS=>?_);·(have bX:i<l.length:=by simpa using lS);have hw:=bB i (by omega);obtain⟨x,hx⟩:∃ x,l[i]?=some x:=⟨_,ah bX⟩;simp only [hw,ae,hx,bQ,go_sem];refine cF (by have h:=hg x (ay hx); simp only [bQ] at h; exact h) ?_;rintro _ rfl;simp only [hw,ae,hx,bQ,go_sem];refine bY (fun fJ=>?_) (fun fJ=>?_);(·(have ck:decide (0≤(i:Int))=l.any q:=by rw [vJ hx fJ]; exact decide_eq_true (pK i));simp only [hw,ae,hx,bQ,go_sem];exact hK _ ⟨_,rfl,ck⟩);simp only [hw,ae,hx,bQ,go_sem];refine ee _ (oj (by omega) (by simp only [hw,ae,hx,bQ,go_sem]) ?_ ?_) <;> simp only [fC,lk,reduceIte,zE];(·refine⟨i+1,rfl,bX,fun j hj=>?_⟩;(rcases bW j i with h | h);(·exact er j h);(obtain rfl:j=i:=by omega);intro y hy;rw [hx] at hy; cases hy; exact fJ);simp only [Go.Eng.intOf,cM]; omega
 have jw:¬ i<l.length:=by simpa using lS
 have ck:decide (0≤(-1:Int))=l.any q:=(any_none fun j hj=>er j (by omega)).symm ▸ rfl;simp only [go_sem];exact hK _ ⟨_,rfl,ck⟩
end
theorem Pv (g:FuncId) (q:Im→Bool) (l:List Im) (hg:∀ x∈l,∃ r,(fun v=>v=bl (q x)) r∧bG ab g [bQ x] r) (hl:l.length≤1048576):∃ r_,(fun w=>w=bl (l.any q)) r_∧bG ab 17 [.slice (l.map bQ),.sc (.func (.func g) #[] #[])] r_:=by refine kc tt_ok [] 9 [.tmp 4] (fn:=Tryz.f17) Tryz.func17 rfl Tryz.call17 ⟨rfl,rfl,by simp⟩ fun K hK=>?_;simp only [go_sem];refine cF (Pu g q l hg hl) ?_;rintro _ ⟨k,rfl,hk⟩;simp only [go_sem];exact hK _ (congrArg bl hk)
theorem Pw (a b:Md) (hp:b.path=a.path) (hd:b.decls=a.decls) (hl:a.decls.length≤1048576) (hb:∀ d∈a.decls,d.cy≤1048576):∃ r_,(fun w=>w=bl (true)) r_∧bG ab 24 [gN a,gN b] r_:=by
 refine kc tt_ok [] 17 [.tmp 4] (fn:=Tryz.f24) Tryz.func24 rfl Tryz.call24 ⟨rfl,rfl,by simp⟩ fun K hK=>?_;simp only [gN,hd];simp only [dk,go_sem];refine bY (fun Js=>?_) (fun Js=>?_);·simp only [dk,go_sem];refine cF (ahv 40 a.decls hl (fun d hd=>by obtain⟨_,rfl,h⟩:=dcR d (hb d hd); exact h)) ?_;rintro _ rfl;simp only [dk,go_sem];exact hK _ (by simp_all)
 exact absurd hp.symm (of_decide_eq_false Js)
end
section
def Yj (D:Dc) (n v:Nat) (k1 k2 k3 k4:Nat):List V:=[str ⟨#[]⟩,.sc (.slice none 0 0),.slice [aL D],num 0,.ms k4 v 0 n,num 0,.cC (.func 140) [] [.ptr k1 0,.ptr k2 0],.cC (.func 141) [] [.ptr k1 0,.ptr k3 0],.sc (.func (.func 139) #[] #[])]
def L5 (D:Dc) (vs:List ByteArray) (v:Nat) (ok:Bool):List ba:=[.box (Yj D vs.length v 1 2 3 4),.box [bl ok],.box [.sc (.func (.func 81) #[] #[])],.box [.sc (.func (.func 82) #[] #[])],.rows v 1 (vs.map str)]
structure F2 (M:List ba) (D:Dc) (vs:List ByteArray) (v:Nat) (ok:Bool) (k0 k1 k2 k3 k4:Nat):Prop where
 h0:M[k0]?=some (.box (Yj D vs.length v k1 k2 k3 k4))
 h1:M[k1]?=some (.box [bl ok])
 h2:M[k2]?=some (.box [.sc (.func (.func 81) #[] #[])])
 h3:M[k3]?=some (.box [.sc (.func (.func 82) #[] #[])])
 h4:M[k4]?=some (.rows v 1 (vs.map str))
 nd:[k0,k1,k2,k3,k4].Nodup
theorem Yk {f:FuncId} {args:List V} {r:V} {D:Dc} {vs:List ByteArray} {v:Nat} {ok ok':Bool} (h:bk ab f args (L5 D vs v ok) r (L5 D vs v ok')) (ha:args.all (aH 5)=true) (hr:aH 5 r=true)
  {M:List ba} {k0 k1 k2 k3 k4:Nat} (hM:F2 M D vs v ok k0 k1 k2 k3 k4):bk ab f (jx (m9 [k0,k1,k2,k3,k4] M.length) args) M (ff (m9 [k0,k1,k2,k3,k4] M.length) r) (M.set k1 (.box [bl ok'])):=by
 refine bk.keys (mem:=L5 D vs v ok) (B:=.box [bl ok']) (j0:=1) h M [k0,k1,k2,k3,k4] rfl hM.nd (by simp [L5]) ha ?_ rfl hr ?_;·simp only [L5,cA,dA,aD,aM,aI,Yj,aH,aO]; rfl
 intro i B hi;rcases i with _ | _ | _ | _ | _ | i
 ·cases hi; exact hM.h0
 ·cases hi; exact hM.h1
 ·cases hi; exact hM.h2
 ·cases hi; exact hM.h3
 ·cases hi; exact hM.h4
 simp [L5] at hi
theorem S8 (hG:a6.g=some 1) (t:Ty) (hm:t.mod.size≤1048576):∃ r_,(fun w=>w=bl (qT t)) r_∧bG ab 81 [cf t] r_:=by
 refine kc tt_ok [] 12 [.tmp 2] (fn:=Tryz.f81) Tryz.func81 rfl Tryz.call81 ⟨rfl,rfl,by simp⟩ fun K hK=>?_;simp only [aG,ai];simp only [go_sem];refine bY (fun fj=>?_) (fun fj=>?_);·simp only [go_sem];refine cF (kP hG t.mod hm) ?_;rintro _ rfl;simp only [go_sem];exact hK _ (congrArg bl (by clear hK; unfold qT; simp_all))
 simp only [go_sem];exact hK _ (congrArg bl (by clear hK; unfold qT; simp_all))
section
attribute [local go_sem] aq dk
theorem S9 (hG:a6.g=some 1) (x:Ex) (hm:x.mod.size≤1048576):∃ r_,(fun w=>w=bl (qX x)) r_∧bG ab 82 [cx x] r_:=by
 refine kc tt_ok [] 23 [.tmp 2] (fn:=Tryz.f82) Tryz.func82 rfl Tryz.call82 ⟨rfl,rfl,by simp⟩ fun K hK=>?_;simp only [a8,aC];simp only [go_sem];refine bY (fun fj=>?_) (fun fj=>?_);·simp only [go_sem];exact hK _ (congrArg bl (by clear hK; unfold qX; simp_all <;> (intros; omega)))
 simp only [go_sem];refine cF (kP hG x.mod hm) ?_;rintro _ rfl;simp only [go_sem];refine bY (fun z6=>?_) (fun z6=>?_);·simp only [go_sem];refine bY (fun y1=>?_) (fun y1=>?_);(·simp only [go_sem];exact hK _ (congrArg bl (by clear hK; unfold qX; simp_all <;> (intros; omega))));simp only [go_sem];exact hK _ (congrArg bl (by clear hK; unfold qX; simp_all <;> (intros; omega)))
 simp only [go_sem];exact hK _ (congrArg bl (by clear hK; unfold qX; simp_all <;> (intros; omega)))
end
theorem Yl (D:Dc) (vs:List ByteArray) (v:Nat) (ok:Bool) (s:ByteArray):∃ r_,(fun w=>w=str s) r_∧bk ab 139 [.ptr 0 0,str s] ([.box [str ⟨#[]⟩,.sc (.slice none 0 0),.slice [aL D],num 0,.ms 4 v 0 vs.length,num 0,.cC (.func 140) [] [.ptr 1 0,.ptr 2 0],.cC (.func 141) [] [.ptr 1 0,.ptr 3 0],.sc (.func (.func 139) #[] #[])],.box [bl (ok)],.box [.sc (.func (.func 81) #[] #[])],.box [.sc (.func (.func 82) #[] #[])],.rows v 1 (vs.map str)]) r_ ([.box [str ⟨#[]⟩,.sc (.slice none 0 0),.slice [aL D],num 0,.ms 4 v 0 vs.length,num 0,.cC (.func 140) [] [.ptr 1 0,.ptr 2 0],.cC (.func 141) [] [.ptr 1 0,.ptr 3 0],.sc (.func (.func 139) #[] #[])],.box [bl (ok)],.box [.sc (.func (.func 81) #[] #[])],.box [.sc (.func (.func 82) #[] #[])],.rows v 1 (vs.map str)]):=by refine Bd tt_ok [] 6 [.tmp 4] (fn:=Tryz.f139) Tryz.func139 rfl Tryz.call139 ⟨rfl,rfl,by simp⟩ fun K hK=>?_;simp only [go_sem];exact hK _ _ ⟨rfl,rfl⟩
section
attribute [local go_sem] aq aJ
theorem Px (D:Dc) (vs:List ByteArray) (v:Nat) (ok:Bool) (hG:a6.g=some 1) (t:Ty) (hm:t.mod.size≤1048576):∃ r_ m_,(fun r m=>r=cf t∧m=[.box [str ⟨#[]⟩,.sc (.slice none 0 0),.slice [aL D],num 0,.ms 4 v 0 vs.length,num 0,.cC (.func 140) [] [.ptr 1 0,.ptr 2 0],.cC (.func 141) [] [.ptr 1 0,.ptr 3 0],.sc (.func (.func 139) #[] #[])],.box [bl (sQ vs ok t)],.box [.sc (.func (.func 81) #[] #[])],.box [.sc (.func (.func 82) #[] #[])],.rows v 1 (vs.map str)]) r_ m_∧bk ab 140 [.ptr 0 0,cf t,.ptr 1 0,.ptr 2 0] ([.box [str ⟨#[]⟩,.sc (.slice none 0 0),.slice [aL D],num 0,.ms 4 v 0 vs.length,num 0,.cC (.func 140) [] [.ptr 1 0,.ptr 2 0],.cC (.func 141) [] [.ptr 1 0,.ptr 3 0],.sc (.func (.func 139) #[] #[])],.box [bl (ok)],.box [.sc (.func (.func 81) #[] #[])],.box [.sc (.func (.func 82) #[] #[])],.rows v 1 (vs.map str)]) r_ m_:=by
 refine I7 tt_ok [] 14 [.cell 6 41] (5) (by simp) (fn:=Tryz.f140) Tryz.func140 rfl Tryz.call140 ⟨rfl,rfl,by simp⟩ fun K hK=>?_;simp only [aG,ai];simp only [go_sem];refine bY (fun Py=>?_) (fun Py=>?_);·simp only [go_sem];refine cF (by have h:=S8 hG t hm; rw [aG] at h; simp only [ai] at h; exact h) ?_;rintro _ rfl;simp only [go_sem];exact hK _ _ ⟨(aG t).symm,by unfold sQ; simp_all⟩
 simp only [go_sem];exact hK _ _ ⟨(aG t).symm,by unfold sQ; simp_all⟩
end
section
attribute [local go_sem] az aq aA ag
theorem Lm (D:Dc) (vs:List ByteArray) (v:Nat) (ok:Bool) (hG:a6.g=some 1) (loc:List ByteArray) (x:Ex) (hm:x.mod.size≤1048576):∃ r_ m_,(fun r m=>r=cx x∧m=[.box [str ⟨#[]⟩,.sc (.slice none 0 0),.slice [aL D],num 0,.ms 4 v 0 vs.length,num 0,.cC (.func 140) [] [.ptr 1 0,.ptr 2 0],.cC (.func 141) [] [.ptr 1 0,.ptr 3 0],.sc (.func (.func 139) #[] #[])],.box [bl (vQ loc ok x)],.box [.sc (.func (.func 81) #[] #[])],.box [.sc (.func (.func 82) #[] #[])],.rows v 1 (vs.map str)]) r_ m_∧bk ab 141 [.ptr 0 0,fH loc,cx x,.ptr 1 0,.ptr 3 0] ([.box [str ⟨#[]⟩,.sc (.slice none 0 0),.slice [aL D],num 0,.ms 4 v 0 vs.length,num 0,.cC (.func 140) [] [.ptr 1 0,.ptr 2 0],.cC (.func 141) [] [.ptr 1 0,.ptr 3 0],.sc (.func (.func 139) #[] #[])],.box [bl (ok)],.box [.sc (.func (.func 81) #[] #[])],.box [.sc (.func (.func 82) #[] #[])],.rows v 1 (vs.map str)]) r_ m_:=by
 refine I7 tt_ok [] 16 [.cell 8 45] (5) (by simp) (fn:=Tryz.f141) Tryz.func141 rfl Tryz.call141 ⟨rfl,rfl,by simp⟩ fun K hK=>?_;simp only [a8,aC];simp only [go_sem];refine bY (fun Py=>?_) (fun Py=>?_);·simp only [go_sem];refine cF (by have h:=S9 hG x hm; rw [a8] at h; simp only [aC] at h; exact h) ?_;rintro _ rfl;simp only [go_sem];exact hK _ _ ⟨(a8 x).symm,by unfold vQ; simp_all⟩
 simp only [go_sem];exact hK _ _ ⟨(a8 x).symm,by unfold vQ; simp_all⟩
end
theorem Pz (D:Dc) (vs:List ByteArray) (v:Nat) (ok:Bool) (hG:a6.g=some 1) (t u:Ty) (hu:u=Fp (gQ vs t) t) (e1:Bool) (he:e1=sQ vs ok t) {M:List ba} (hM:F2 M D vs v ok 0 1 2 3 4) (hm:t.mod.size≤1048576:=by assumption):∃ r_ B_,(fun r B=>r = .agg [num u.kind,str u.mod,str u.name,.slice (aQ u.args),.slice (bV u.bd)]∧B=ba.box [bl e1]) r_ B_∧B_.dw=0∧bk ab 140 [.ptr 0 0,.agg [num t.kind,str t.mod,str t.name,.slice (aQ t.args),.slice (bV t.bd)],.ptr 1 0,.ptr 2 0] M r_ (M.set 1 B_):=by
 have e:Fp (gQ vs t) t=t:=by unfold Fp gQ; exact t.eta
 rw [e] at hu;subst hu; subst he;obtain⟨_,_,⟨rfl,rfl⟩,h⟩:=Px D vs v ok hG u hm;have h2:=Yk (ok':=sQ vs ok u) h (by simp [aH,aO,aG,ai]) (by simp [aH,aO,aG,ai]) hM;refine⟨_,_,⟨rfl,rfl⟩,rfl,?_⟩;simpa [jx,ff,m9,aG,ai] using h2
theorem Ln (D:Dc) (vs:List ByteArray) (v:Nat) (ok:Bool) (hG:a6.g=some 1) (loc:List ByteArray) (x:Ex) (uk:Int) (um:ByteArray) (hu:hQ loc x=(uk,um)) (e1:Bool) (he:e1=vQ loc ok x) {M:List ba} (hM:F2 M D vs v ok 0 1 2 3 4) (hm:x.mod.size≤1048576:=by assumption) :
  ∃ r_ B_,(fun r B=>r = .agg [num uk,str um,str x.name,str x.text,num x.num,.slice (aQ x.types),.slice (x.labels.map bO),.slice (cr x.kids)]∧B=ba.box [bl e1]) r_ B_∧B_.dw=0∧bk ab 141 [.ptr 0 0,fH loc,.agg [num x.kind,str x.mod,str x.name,str x.text,num x.num,.slice (aQ x.types),.slice (x.labels.map bO),.slice (cr x.kids)],.ptr 1 0,.ptr 3 0] M r_ (M.set 1 B_):=by injection hu with hu1 r9;subst hu1; subst r9; subst he;obtain⟨_,_,⟨rfl,rfl⟩,h⟩:=Lm D vs v ok hG loc x hm;have h2:=Yk (ok':=vQ loc ok x) h (by simp [aH,aO,a8,aC,az]) (by simp [aH,aO,a8,aC]) hM;refine⟨_,_,⟨rfl,rfl⟩,rfl,?_⟩;simpa [jx,ff,m9,a8,aC,ko] using h2
end
section
theorem rQ {D:Dc} {vs:List ByteArray} {v:Nat} {x y:Ty} {PA PB:Bool} (h:bk ab 87 [.ptr 0 0,cf x] (L5 D vs v PA) (cf y) (L5 D vs v PB)) {M:List ba} (hM:F2 M D vs v PA 0 1 2 3 4):∃ r_ B_,(fun r B=>r = .agg [num y.kind,str y.mod,str y.name,.slice (aQ y.args),.slice (bV y.bd)]∧B=ba.box [bl PB]) r_ B_∧B_.dw=0∧bk ab 87 [.ptr 0 0,.agg [num x.kind,str x.mod,str x.name,.slice (aQ x.args),.slice (bV x.bd)]] M r_ (M.set 1 B_):=by have h2:=Yk h (by simp [aH,aO,aG,ai]) (by simp [aH,aO,aG,ai]) hM;refine⟨_,_,⟨rfl,rfl⟩,rfl,?_⟩;simpa [jx,ff,m9,aG,ai,Yj] using h2
section
attribute [local go_sem] az aq aJ
theorem Ig (D:Dc) (vs:List ByteArray) (v:Nat) (ok:Bool) (hG:a6.g=some 1) (t:Ty) (hmt:t.mod.size≤1048576) (QS:t.args.length≤1048576) (Me:t.bd.length≤1048576) (fK:∀ p∈t.parts,∀ ok,bk ab 87 [.ptr 0 0,cf p] (L5 D vs v ok) (cf (p.res (gQ vs))) (L5 D vs v (p.fold (gQ vs) (sQ vs) ok))):∃ r_ m_,(fun r m=>r=cf (t.res (gQ vs))∧m=[.box [str ⟨#[]⟩,.sc (.slice none 0 0),.slice [aL D],num 0,.ms 4 v 0 vs.length,num 0,.cC (.func 140) [] [.ptr 1 0,.ptr 2 0],.cC (.func 141) [] [.ptr 1 0,.ptr 3 0],.sc (.func (.func 139) #[] #[])],.box [bl (t.fold (gQ vs) (sQ vs) ok)],.box [.sc (.func (.func 81) #[] #[])],.box [.sc (.func (.func 82) #[] #[])],.rows v 1 (vs.map str)]) r_ m_∧bk ab 87 [.ptr 0 0,cf t] ([.box [str ⟨#[]⟩,.sc (.slice none 0 0),.slice [aL D],num 0,.ms 4 v 0 vs.length,num 0,.cC (.func 140) [] [.ptr 1 0,.ptr 2 0],.cC (.func 141) [] [.ptr 1 0,.ptr 3 0],.sc (.func (.func 139) #[] #[])],.box [bl (ok)],.box [.sc (.func (.func 81) #[] #[])],.box [.sc (.func (.func 82) #[] #[])],.rows v 1 (vs.map str)]) r_ m_:=by
 refine I7 tt_ok [1,14,30000] 67 [.cell 4 41] (5) (by simp) (fn:=Tryz.f87) Tryz.func87 rfl Tryz.call87 ⟨rfl,rfl,by simp⟩ fun K hK=>?_;obtain⟨u,hu⟩:∃ u,u=(if t.kind=10∨t.kind=9 then Fp ((gQ vs) t) t else t):=⟨_,rfl⟩;obtain⟨e1,HK⟩:∃ x,x=(if t.kind=10∨t.kind=9 then (sQ vs) ok t else ok):=⟨_,rfl⟩;obtain⟨hul,huf,IA,LJ⟩:=aa9 hu;have Fv:=aa8 hu;have zO:=UB (s:=(sQ vs)) ok hu;rw [← HK] at zO;simp only [aG,ai];simp only [go_sem];refine pq (n:=67) tt_ok [1,14,30000] (fun _:Unit=>[(0,.ptr 0 0),(3,.ptr 5 0),(4,.ptr 6 0)]) (fun _:Unit=>[.box [str ⟨#[]⟩,.sc (.slice none 0 0),.slice [aL D],num 0,.ms 4 v 0 vs.length,num 0,.cC (.func 140) [] [.ptr 1 0,.ptr 2 0],.cC (.func 141) [] [.ptr 1 0,.ptr 3 0],.sc (.func (.func 139) #[] #[])],.box [bl (e1)],.box [.sc (.func (.func 81) #[] #[])],.box [.sc (.func (.func 82) #[] #[])],.rows v 1 (vs.map str),.box [num u.kind,str u.mod,str u.name,.slice (aQ u.args),.slice (bV u.bd)],.box [num 0,str ⟨#[]⟩,str ⟨#[]⟩,.sc (.slice none 0 0),.sc (.slice none 0 0)]]) 7 (fun _=>True) (fun Z1 ee=>?_) ?_;·simp only [go_sem];refine im tt_ok [1,14,30000] [16] 7 [0,1,3,4] (fun vs=>vs=[bl (decide (t.kind=10)||decide (t.kind=9))]) (fun Z2 mc=>?_) ?_;(·simp only [go_sem];refine mw tt_ok ?_;simp only [go_sem];refine bY (fun fj=>?_) (fun fj=>?_);(·simp only [go_sem];refine mc _ (dP (by omega) (by simp only [go_sem]) ?_);simp only [fC,lk,reduceIte,zE];exact congrArg (fun b=>[bl b]) (by rw [fj]; first | rfl | simp));simp only [go_sem];refine mc _ (dP (by omega) (by simp only [go_sem]) ?_);simp only [fC,lk,reduceIte,zE];exact congrArg (fun b=>[bl b]) (by rw [fj]; first | rfl | simp));intro vs hJ;obtain rfl:=hJ;simp only [go_sem];refine bY (fun fJ=>?_) (fun fJ=>?_);(·(have hk:t.kind=10∨t.kind=9:=by simpa using fJ);(have r9:u=Fp ((gQ vs) t) t:=by rw [hu,if_pos hk]);(have CS:e1=(sQ vs) ok t:=by rw [HK,if_pos hk]);simp only [go_sem];refine dT tt_ok bU [⟨.n,0,[],[],[]⟩,⟨.n,0,[],[0],[]⟩,⟨.n,0,[],[0,1],[]⟩,⟨.r,0,[],[0,1,2],[]⟩,⟨.n,0,[],[],[]⟩,⟨.r,0,[],[],[]⟩,⟨.e,1,[],[0,1,2,3,4,5],[]⟩,⟨.w,0,[],[0,1,2,3,4,5,6],[]⟩] 1 (by kernel_rfl) ?_;simp only [go_sem];refine va rfl rfl (Pz D vs v ok hG t u r9 e1 CS ⟨rfl,rfl,rfl,rfl,rfl,by decide⟩) ?_;rintro _ _ ⟨rfl,rfl⟩;simp only [go_sem];(try rw [← r9,← CS]);refine ee _ ⟨(),?_,dj (by omega) (by simp only [go_sem])⟩;exact trivial);(have hk:¬ (t.kind=10∨t.kind=9):=by simpa using fJ);(have r9:u=t:=by rw [hu,if_neg hk]);(have CS:e1=ok:=by rw [HK,if_neg hk]);simp only [go_sem];(try rw [← r9,← CS]);refine ee _ ⟨(),?_,dj (by omega) (by simp only [go_sem])⟩;exact trivial
 intro _ _;simp only [go_sem];refine dT tt_ok bU [⟨.n,0,[],[],[]⟩,⟨.r,0,[],[0],[]⟩,⟨.a,0,[],[0,1],[]⟩,⟨.n,0,[],[],[]⟩,⟨.r,0,[0],[3],[]⟩,⟨.a,1,[],[0,1,2,3,4],[]⟩,⟨.n,0,[],[0,1,2,3,4],[]⟩,⟨.w,2,[],[0,1,2,3,4,5,6],[]⟩,⟨.n,0,[],[0,1,2,3,4,5,6,7],[]⟩,⟨.w,3,[],[0,1,2,3,4,5,6,7,8],[]⟩] 4 (by kernel_rfl) ?_;simp only [go_sem];refine Du ⟨_,jK (aQ u.args) (kl u.args 0) (by rw [aq]; omega)⟩ ?_;simp only [go_sem];refine Du ⟨_,sZ (bV u.bd) (zH u.bd 0) (by rw [aJ]; omega)⟩ ?_;simp only [go_sem];refine sq tt_ok [1,14,30000] ?_;simp only [go_sem];refine fL tt_ok [1,14,30000] (fun a:Nat×List Ty×Bool=>[(0,.ptr 0 0),(3,.ptr 5 0),(4,.ptr 6 0),(33,.ms 7 0 0 u.args.length),(34,num u.args.length),(35,num a.1)]) (fun a:Nat×List Ty×Bool=>[.box [str ⟨#[]⟩,.sc (.slice none 0 0),.slice [aL D],num 0,.ms 4 v 0 vs.length,num 0,.cC (.func 140) [] [.ptr 1 0,.ptr 2 0],.cC (.func 141) [] [.ptr 1 0,.ptr 3 0],.sc (.func (.func 139) #[] #[])],.box [bl (a.2.2)],.box [.sc (.func (.func 81) #[] #[])],.box [.sc (.func (.func 82) #[] #[])],.rows v 1 (vs.map str),.box [num u.kind,str u.mod,str u.name,.ms 7 0 0 u.args.length,.ms 8 0 0 u.bd.length],.box [num 0,str ⟨#[]⟩,str ⟨#[]⟩,.sc (.slice none 0 0),.sc (.slice none 0 0)],.rows 0 5 (aQ a.2.1),.rows 0 7 (bV u.bd),.hole,.hole]) (fun a=>u.args.length-a.1) (fun a=>a.1≤u.args.length∧a.2.1=(u.args.take a.1).map (Ty.res (gQ vs))++u.args.drop a.1∧a.2.2=(u.args.take a.1).foldl (fun a t=>t.fold (gQ vs) (sQ vs) a) e1) ((0,u.args,e1)) 11 (dj (by omega) (by simp only [bD,go_sem] <;> rfl)) (⟨bx _,by simp,rfl⟩) ?_;rintro⟨i,al,ei⟩ ⟨hi,has,lA⟩;try dsimp only at hi has lA
 try dsimp only
 intro Z3 vT;simp only [go_sem];refine bY (fun vK=>?_) (fun vK=>?_);·(have bX:i<u.args.length:=by simpa using vK);rw [vK];obtain⟨x,hx⟩:∃ x,u.args[i]?=some x:=⟨_,ah bX⟩;obtain⟨iJ,dH⟩:=fU has hx;(have eU:((i:Nat):Int)<((u.args.length:Nat):Int):=by omega);have hw:=bB i (by omega);simp only [eU,b8,iJ,aG,ai,hw,setRow,dH,go_sem];refine dT tt_ok bU [⟨.n,0,[],[],[]⟩,⟨.r,0,[],[0],[1]⟩,⟨.n,0,[],[],[]⟩,⟨.n,0,[],[],[]⟩,⟨.r,0,[],[],[]⟩,⟨.e,1,[],[3,4],[]⟩,⟨.r,0,[],[0,1,2,3,4,5],[]⟩,⟨.w,0,[],[0,1,2,3,4,5,6],[]⟩] 1 (by kernel_rfl) ?_;simp only [eU,b8,iJ,aG,ai,hw,setRow,dH,go_sem];refine va rfl rfl (rQ (fK x (IA x (ay hx)) ei) ⟨rfl,rfl,rfl,rfl,rfl,by decide⟩) ?_;rintro _ _ ⟨rfl,rfl⟩;simp only [eU,b8,iJ,aG,ai,hw,setRow,dH,go_sem];refine vT _ ⟨(i+1,al.set i (x.res (gQ vs)),x.fold (gQ vs) (sQ vs) ei),?_,?_,dj (by omega) (by (simp [qI,lk,ea,eV,aH,aI,aO,cV,df,aG,aG,ai]))⟩;(·exact⟨bX,eJ has hx,by rw [ia hx,← lA]⟩);dsimp only; omega
 have jw:¬ i<u.args.length:=by simpa using vK
 have gB:i=u.args.length:=by omega
 have jM:al=u.args.map (Ty.res (gQ vs)):=by rw [has,gB]; simp
 subst jM;obtain⟨ej,zP⟩:∃ y,y=ei:=⟨_,rfl⟩;have zQ:ej=u.args.foldl (fun a t=>t.fold (gQ vs) (sQ vs) a) e1:=by rw [zP,lA,gB,au]
 rw [← zP];clear zP lA;simp only [go_sem];refine sq tt_ok [1,14,30000] ?_;simp only [go_sem];refine fL tt_ok [1,14,30000] (fun a:Nat×List Fd×Bool=>[(0,.ptr 0 0),(3,.ptr 5 0),(4,.ptr 6 0),(49,.ms 8 0 0 u.bd.length),(50,num u.bd.length),(51,num a.1)]) (fun a:Nat×List Fd×Bool=>[.box [str ⟨#[]⟩,.sc (.slice none 0 0),.slice [aL D],num 0,.ms 4 v 0 vs.length,num 0,.cC (.func 140) [] [.ptr 1 0,.ptr 2 0],.cC (.func 141) [] [.ptr 1 0,.ptr 3 0],.sc (.func (.func 139) #[] #[])],.box [bl (a.2.2)],.box [.sc (.func (.func 81) #[] #[])],.box [.sc (.func (.func 82) #[] #[])],.rows v 1 (vs.map str),.box [num u.kind,str u.mod,str u.name,.ms 7 0 0 u.args.length,.ms 8 0 0 u.bd.length],.box [num 0,str ⟨#[]⟩,str ⟨#[]⟩,.sc (.slice none 0 0),.sc (.slice none 0 0)],.rows 0 5 (aQ (u.args.map (Ty.res (gQ vs)))),.rows 0 7 (bV a.2.1),.hole,.hole]) (fun a=>u.bd.length-a.1) (fun a=>a.1≤u.bd.length∧a.2.1=(u.bd.take a.1).map (Fd.res (gQ vs))++u.bd.drop a.1∧a.2.2=(u.bd.take a.1).foldl (fun a f=>f.ty.fold (gQ vs) (sQ vs) a) ej) ((0,u.bd,ej)) 11 (dj (by omega) (by simp only [bD,go_sem] <;> rfl)) (⟨bx _,by simp,rfl⟩) ?_;rintro⟨i,al,ei⟩ ⟨hi,has,lA⟩;try dsimp only at hi has lA
 try dsimp only
 intro Z4 w7;simp only [go_sem];refine bY (fun vU=>?_) (fun vU=>?_);·(have bX:i<u.bd.length:=by simpa using vU);rw [vU];obtain⟨x,hx⟩:∃ x,u.bd[i]?=some x:=⟨_,ah bX⟩;obtain⟨iJ,dH⟩:=fU has hx;(have eU:((i:Nat):Int)<((u.bd.length:Nat):Int):=by omega);have hw:=bB i (by omega);simp only [eU,bI,iJ,aG,ai,hw,setRow,dH,bN,go_sem];refine dT tt_ok bU [⟨.n,0,[],[],[]⟩,⟨.r,0,[],[0],[1]⟩,⟨.n,0,[],[],[]⟩,⟨.n,0,[],[],[]⟩,⟨.n,0,[],[],[]⟩,⟨.r,0,[],[4],[]⟩,⟨.e,1,[],[3,4,5],[]⟩,⟨.r,0,[],[0,1,2,3,4,5,6],[]⟩,⟨.n,0,[],[0,1,2,3,4,5,6,7],[]⟩,⟨.w,0,[],[0,1,2,3,4,5,6,7,8],[]⟩] 1 (by kernel_rfl) ?_;simp only [eU,bI,iJ,aG,ai,hw,setRow,dH,bN,go_sem];refine va rfl rfl (rQ (fK x.ty (LJ x (ay hx)) ei) ⟨rfl,rfl,rfl,rfl,rfl,by decide⟩) ?_;rintro _ _ ⟨rfl,rfl⟩;simp only [eU,bI,iJ,aG,ai,hw,setRow,dH,bN,go_sem];refine w7 _ ⟨(i+1,al.set i (x.res (gQ vs)),x.ty.fold (gQ vs) (sQ vs) ei),?_,?_,dj (by omega) (by (simp [qI,lk,ea,eV,aH,aI,aO,hY,df,bN,aG,ai,Fd.oU,Fd.qS,Fd.xM]))⟩;(·exact⟨bX,eJ has hx,by rw [ia hx,← lA]⟩);dsimp only; omega
 have Xf:¬ i<u.bd.length:=by simpa using vU
 have gB:i=u.bd.length:=by omega
 have jM:al=u.bd.map (Fd.res (gQ vs)):=by rw [has,gB]; simp
 subst jM;have HL:ei=u.bd.foldl (fun a f=>f.ty.fold (gQ vs) (sQ vs) a) ej:=by rw [lA,gB,au]
 rw [zO,← zQ,← HL,Fv] at hK;simp only [go_sem];refine jm (k:=5) (vs':=[num u.kind,str u.mod,str u.name,.slice (aQ (u.args.map (Ty.res (gQ vs)))),.slice (bV (u.bd.map (Fd.res (gQ vs))))]) rfl (by simp [fh,gu,dg,jX,cV,hY,YV]) ?_;refine Ki tt_ok [1,14,30000] ?_;simp only [go_sem];exact hK _ _ ⟨rfl,rfl⟩
end
theorem lV (D:Dc) (vs:List ByteArray) (v:Nat) (hG:a6.g=some 1):∀ (N:Nat) (t:Ty),t.size≤N→N≤1048576→t.wt≤1048576→∀ ok,bk ab 87 [.ptr 0 0,cf t] (L5 D vs v ok) (cf (t.res (gQ vs))) (L5 D vs v (t.fold (gQ vs) (sQ vs) ok)):=by intro N;induction N with | zero=>intro t h; have:=t.size_pos; omega | succ N ih =>intro t hN hb hwt ok;have Ap:=t.fG;(obtain⟨_,_,⟨rfl,rfl⟩,h⟩:=Ig D vs v ok hG t (by have:=t.mod_lt; omega) (by omega) (by omega) fun p hp=>by obtain⟨i,hi⟩:=bL.1 hp;have e1:=cb Ty.size hi;have e2:=t.de;exact ih p (by omega) (by omega) (by have h1:=cb Ty.wt hi; have h2:=t.zb; omega));exact h
end
section
theorem Lo {D:Dc} {vs:List ByteArray} {v:Nat} {x y:Ex} {loc:List ByteArray} {PA PB:Bool} (h:bk ab 88 [.ptr 0 0,fH loc,cx x] (L5 D vs v PA) (cx y) (L5 D vs v PB)) {M:List ba} (hM:F2 M D vs v PA 0 1 2 3 4):∃ r_ B_,(fun r B=>r = .agg [num y.kind,str y.mod,str y.name,str y.text,num y.num,.slice (aQ y.types),.slice (y.labels.map bO),.slice (cr y.kids)]∧B=ba.box [bl PB]) r_ B_∧B_.dw=0∧bk ab 88 [.ptr 0 0,fH loc,.agg [num x.kind,str x.mod,str x.name,str x.text,num x.num,.slice (aQ x.types),.slice (x.labels.map bO),.slice (cr x.kids)]] M r_ (M.set 1 B_):=by have h2:=Yk h (by simp [aH,aO,a8,aC,az]) (by simp [aH,aO,a8,aC]) hM;refine⟨_,_,⟨rfl,rfl⟩,rfl,?_⟩;simpa [jx,ff,m9,a8,aC,ko,Yj] using h2
section
attribute [local go_sem] aq aA ag
attribute [local go_sem ↓] uP uQ
theorem Ih (D:Dc) (vs:List ByteArray) (v:Nat) (ok:Bool) (hG:a6.g=some 1) (loc:List ByteArray) (x:Ex) (hmx:x.mod.size≤1048576) (LH:x.types.length≤1048576) (hll:x.labels.length≤1048576) (Mx:x.kids.length≤1048576) (AL:(jL hQ loc x).1=13→x.kids.length≤x.labels.length+1)
  (hT:∀ t∈x.types,∀ ok,bk ab 87 [.ptr 0 0,cf t] (L5 D vs v ok) (cf (t.res (gQ vs))) (L5 D vs v (t.fold (gQ vs) (sQ vs) ok))) (hL:∀ l∈x.labels,∀ ok,bk ab 87 [.ptr 0 0,cf l.ty] (L5 D vs v ok) (cf (l.ty.res (gQ vs))) (L5 D vs v (l.ty.fold (gQ vs) (sQ vs) ok)))
  (fK:∀ k∈x.kids,∀ loc ok,bk ab 88 [.ptr 0 0,fH loc,cx k] (L5 D vs v ok) (cx (k.res (gQ vs) hQ loc)) (L5 D vs v (k.fold (gQ vs) hQ (sQ vs) vQ loc ok))):∃ r_ m_,(fun r m=>r=cx (x.res (gQ vs) hQ loc)∧m=[.box [str ⟨#[]⟩,.sc (.slice none 0 0),.slice [aL D],num 0,.ms 4 v 0 vs.length,num 0,.cC (.func 140) [] [.ptr 1 0,.ptr 2 0],.cC (.func 141) [] [.ptr 1 0,.ptr 3 0],.sc (.func (.func 139) #[] #[])],.box [bl (x.fold (gQ vs) hQ (sQ vs) vQ loc ok)],.box [.sc (.func (.func 81) #[] #[])],.box [.sc (.func (.func 82) #[] #[])],.rows v 1 (vs.map str)]) r_ m_∧bk ab 88 [.ptr 0 0,fH loc,cx x] ([.box [str ⟨#[]⟩,.sc (.slice none 0 0),.slice [aL D],num 0,.ms 4 v 0 vs.length,num 0,.cC (.func 140) [] [.ptr 1 0,.ptr 2 0],.cC (.func 141) [] [.ptr 1 0,.ptr 3 0],.sc (.func (.func 139) #[] #[])],.box [bl (ok)],.box [.sc (.func (.func 81) #[] #[])],.box [.sc (.func (.func 82) #[] #[])],.rows v 1 (vs.map str)]) r_ m_:=by
 refine I7 tt_ok [1,20,30000] 100 [.cell 6 45] (5) (by simp) (fn:=Tryz.f88) Tryz.func88 rfl Tryz.call88 ⟨rfl,rfl,by simp⟩ fun K hK=>?_;obtain⟨uk,um,hu⟩:∃ uk um,jL hQ loc x=(uk,um):=⟨_,_,rfl⟩;obtain⟨e1,HK⟩:∃ y,y=(if x.kind=3∨x.kind=4 then vQ loc ok x else ok):=⟨_,rfl⟩;rw [hu] at AL;dsimp only at AL;have OA:=Xl (g:=(gQ vs)) hu;have zS:=UD (g:=(gQ vs)) (s:=(sQ vs)) (v:=vQ) ok hu;rw [← HK] at zS;simp only [a8,aC];simp only [az,go_sem];refine pq (n:=100) tt_ok [1,20,30000] (fun _:Unit=>[(0,.ptr 0 0),(1,fH loc),(5,.ptr 5 0),(6,.ptr 6 0)]) (fun _:Unit=>[.box [str ⟨#[]⟩,.sc (.slice none 0 0),.slice [aL D],num 0,.ms 4 v 0 vs.length,num 0,.cC (.func 140) [] [.ptr 1 0,.ptr 2 0],.cC (.func 141) [] [.ptr 1 0,.ptr 3 0],.sc (.func (.func 139) #[] #[])],.box [bl (e1)],.box [.sc (.func (.func 81) #[] #[])],.box [.sc (.func (.func 82) #[] #[])],.rows v 1 (vs.map str),.box [num uk,str um,str x.name,str x.text,num x.num,.slice (aQ x.types),.slice (x.labels.map bO),.slice (cr x.kids)],.box [num 0,str ⟨#[]⟩,str ⟨#[]⟩,str ⟨#[]⟩,num 0,.sc (.slice none 0 0),.sc (.slice none 0 0),.sc (.slice none 0 0)]]) 7 (fun _=>True) (fun Z1 ee=>?_) ?_;·simp only [az,go_sem];refine im tt_ok [1,20,30000] [19] 7 [0,1,2,5,6] (fun vs=>vs=[bl (decide (x.kind=3)||decide (x.kind=4))]) (fun Z2 mc=>?_) ?_;(·simp only [az,go_sem];refine mw tt_ok ?_;simp only [az,go_sem];refine bY (fun fj=>?_) (fun fj=>?_);(·simp only [az,go_sem];refine mc _ (dP (by omega) (by simp only [az,go_sem]) ?_);simp only [fC,lk,reduceIte,zE];exact congrArg (fun b=>[bl b]) (by rw [fj]; first | rfl | simp));simp only [az,go_sem];refine mc _ (dP (by omega) (by simp only [az,go_sem]) ?_);simp only [fC,lk,reduceIte,zE];exact congrArg (fun b=>[bl b]) (by rw [fj]; first | rfl | simp));intro vs hJ;obtain rfl:=hJ;simp only [az,go_sem];refine bY (fun s7=>?_) (fun s7=>?_);(·(have hk:x.kind=3∨x.kind=4:=by simpa using s7);(have r9:hQ loc x=(uk,um):=by rw [← hu]; unfold jL; rw [if_pos hk]);(have CS:e1=vQ loc ok x:=by rw [HK,if_pos hk]);simp only [az,go_sem];refine dT tt_ok bU [⟨.n,0,[],[],[]⟩,⟨.n,0,[],[0],[]⟩,⟨.n,0,[],[0,1],[]⟩,⟨.r,0,[],[0,1,2],[]⟩,⟨.n,0,[],[],[]⟩,⟨.n,0,[],[],[]⟩,⟨.r,0,[],[],[]⟩,⟨.e,1,[],[0,1,2,3,4,5,6],[]⟩,⟨.w,0,[],[0,1,2,3,4,5,6,7],[]⟩] 1 (by kernel_rfl) ?_;simp only [az,go_sem];refine va rfl rfl (Ln D vs v ok hG loc x uk um r9 e1 CS ⟨rfl,rfl,rfl,rfl,rfl,by decide⟩) ?_;rintro _ _ ⟨rfl,rfl⟩;simp only [az,go_sem];(try rw [ji,l9,← CS]);refine ee _ ⟨(),?_,dj (by omega) (by simp only [az,go_sem])⟩;exact trivial);(have hk:¬ (x.kind=3∨x.kind=4):=by simpa using s7);(have r9:(x.kind,x.mod)=(uk,um):=by rw [← hu]; unfold jL; rw [if_neg hk]);have ji:x.kind=uk:=(ana r9).1;have l9:x.mod=um:=(ana r9).2;(have CS:e1=ok:=by rw [HK,if_neg hk]);simp only [az,go_sem];(try rw [ji,l9,← CS]);refine ee _ ⟨(),?_,dj (by omega) (by simp only [az,go_sem])⟩;exact trivial
 intro _ _;simp only [az,go_sem];refine dT tt_ok bU [⟨.n,0,[],[],[]⟩,⟨.r,0,[],[0],[]⟩,⟨.a,0,[],[0,1],[]⟩,⟨.n,0,[],[],[]⟩,⟨.r,0,[0],[3],[]⟩,⟨.a,1,[],[0,1,2,3,4],[]⟩,⟨.n,0,[],[],[]⟩,⟨.r,0,[0,1],[6],[]⟩,⟨.a,2,[],[0,1,2,3,4,5,6,7],[]⟩,⟨.n,0,[],[0,1,2,3,4,6,7],[]⟩,⟨.w,3,[],[0,1,2,3,4,5,6,7,8,9],[]⟩,⟨.n,0,[],[0,1,2,3,4,5,6,7,8,9,10],[]⟩,⟨.w,4,[],[0,1,2,3,4,5,6,7,8,9,10,11],[]⟩,⟨.n,0,[],[0,1,2,3,4,5,6,7,8,9,10,11,12],[]⟩,⟨.w,5,[],[0,1,2,3,4,5,6,7,8,9,10,11,12,13],[]⟩] 6 (by kernel_rfl) ?_;simp only [az,go_sem];refine Du ⟨_,jK (aQ x.types) (kl x.types 0) (by rw [aq]; omega)⟩ ?_;simp only [az,go_sem];refine Du ⟨_,s5 (x.labels.map bO) (zI x.labels 0) (by rw [ag]; omega)⟩ ?_;simp only [az,go_sem];refine Du ⟨_,s6 (cr x.kids) (zJ x.kids 0) (by rw [aA]; omega)⟩ ?_;simp only [az,go_sem];refine sq tt_ok [1,20,30000] ?_;simp only [az,go_sem];refine fL tt_ok [1,20,30000] (fun a:Nat×List Ty×Bool=>[(0,.ptr 0 0),(1,fH loc),(5,.ptr 5 0),(6,.ptr 6 0),(41,.ms 7 0 0 x.types.length),(42,num x.types.length),(43,num a.1)]) (fun a:Nat×List Ty×Bool=>[.box [str ⟨#[]⟩,.sc (.slice none 0 0),.slice [aL D],num 0,.ms 4 v 0 vs.length,num 0,.cC (.func 140) [] [.ptr 1 0,.ptr 2 0],.cC (.func 141) [] [.ptr 1 0,.ptr 3 0],.sc (.func (.func 139) #[] #[])],.box [bl (a.2.2)],.box [.sc (.func (.func 81) #[] #[])],.box [.sc (.func (.func 82) #[] #[])],.rows v 1 (vs.map str),.box [num uk,str um,str x.name,str x.text,num x.num,.ms 7 0 0 x.types.length,.ms 8 0 0 x.labels.length,.ms 9 0 0 x.kids.length],.box [num 0,str ⟨#[]⟩,str ⟨#[]⟩,str ⟨#[]⟩,num 0,.sc (.slice none 0 0),.sc (.slice none 0 0),.sc (.slice none 0 0)],.rows 0 5 (aQ a.2.1),.rows 0 8 ((x.labels).map bO),.rows 0 8 (cr x.kids),.hole,.hole,.hole]) (fun a=>x.types.length-a.1) (fun a=>a.1≤x.types.length∧a.2.1=(x.types.take a.1).map (Ty.res (gQ vs))++x.types.drop a.1∧a.2.2=(x.types.take a.1).foldl (fun a t=>t.fold (gQ vs) (sQ vs) a) e1) ((0,x.types,e1)) 13 (dj (by omega) (by simp only [az,bD,go_sem] <;> rfl)) (⟨bx _,by simp [du],by first | rfl | simp [dB]⟩) ?_;rintro⟨i,al,ei⟩ ⟨hi,has,lA⟩;try dsimp only at hi has lA
 try dsimp only
 intro Z3 vT;simp only [az,go_sem];refine bY (fun qU=>?_) (fun qU=>?_);·(have bX:i<x.types.length:=by simpa using qU);rw [qU];obtain⟨y,hy⟩:∃ y,x.types[i]?=some y:=⟨_,ah bX⟩;obtain⟨iJ,dH⟩:=fU has hy;(have eU:((i:Nat):Int)<((x.types.length:Nat):Int):=by omega);have hw:=bB i (by omega);simp only [az,eU,b8,iJ,aG,ai,hw,setRow,dH,go_sem];refine dT tt_ok bU [⟨.n,0,[],[],[]⟩,⟨.r,0,[],[0],[1]⟩,⟨.n,0,[],[],[]⟩,⟨.n,0,[],[],[]⟩,⟨.r,0,[],[],[]⟩,⟨.e,1,[],[3,4],[]⟩,⟨.r,0,[],[0,1,2,3,4,5],[]⟩,⟨.w,0,[],[0,1,2,3,4,5,6],[]⟩] 1 (by kernel_rfl) ?_;simp only [az,eU,b8,iJ,aG,ai,hw,setRow,dH,go_sem];refine va rfl rfl (rQ (hT y (ay hy) ei) ⟨rfl,rfl,rfl,rfl,rfl,by decide⟩) ?_;rintro _ _ ⟨rfl,rfl⟩;simp only [az,eU,b8,iJ,aG,ai,hw,setRow,dH,go_sem];refine vT _ ⟨(i+1,al.set i (y.res (gQ vs)),y.fold (gQ vs) (sQ vs) ei),?_,?_,dj (by omega) (by (simp [qI,lk,ea,eV,aH,aI,aO,az,cV,df,aG,aG,ai]))⟩;(·exact⟨bX,eJ has hy,by rw [ia hy,← lA]⟩);dsimp only; omega
 have jw:¬ i<x.types.length:=by simpa using qU
 have gB:i=x.types.length:=by omega
 have jM:al=x.types.map (Ty.res (gQ vs)):=by rw [has,gB]; simp
 subst jM;obtain⟨ej,zP⟩:∃ y,y=ei:=⟨_,rfl⟩;have zQ:ej=x.types.foldl (fun a t=>t.fold (gQ vs) (sQ vs) a) e1:=by rw [zP,lA,gB,au]
 rw [← zP];clear zP lA;simp only [az,go_sem];refine sq tt_ok [1,20,30000] ?_;simp only [az,go_sem];refine fL tt_ok [1,20,30000] (fun a:Nat×List Lb×Bool=>[(0,.ptr 0 0),(1,fH loc),(5,.ptr 5 0),(6,.ptr 6 0),(57,.ms 8 0 0 x.labels.length),(58,num x.labels.length),(59,num a.1)]) (fun a:Nat×List Lb×Bool=>[.box [str ⟨#[]⟩,.sc (.slice none 0 0),.slice [aL D],num 0,.ms 4 v 0 vs.length,num 0,.cC (.func 140) [] [.ptr 1 0,.ptr 2 0],.cC (.func 141) [] [.ptr 1 0,.ptr 3 0],.sc (.func (.func 139) #[] #[])],.box [bl (a.2.2)],.box [.sc (.func (.func 81) #[] #[])],.box [.sc (.func (.func 82) #[] #[])],.rows v 1 (vs.map str),.box [num uk,str um,str x.name,str x.text,num x.num,.ms 7 0 0 x.types.length,.ms 8 0 0 x.labels.length,.ms 9 0 0 x.kids.length],.box [num 0,str ⟨#[]⟩,str ⟨#[]⟩,str ⟨#[]⟩,num 0,.sc (.slice none 0 0),.sc (.slice none 0 0),.sc (.slice none 0 0)],.rows 0 5 (aQ (x.types.map (Ty.res (gQ vs)))),.rows 0 8 ((a.2.1).map bO),.rows 0 8 (cr x.kids),.hole,.hole,.hole]) (fun a=>x.labels.length-a.1) (fun a=>a.1≤x.labels.length∧a.2.1=(x.labels.take a.1).map (xN (gQ vs) uk)++x.labels.drop a.1∧a.2.2=(x.labels.take a.1).foldl (fun a l=>if uk=8 then l.ty.fold (gQ vs) (sQ vs) a else a) ej) ((0,x.labels,ej)) 13 (dj (by omega) (by simp only [az,bD,go_sem] <;> rfl)) (⟨bx _,by simp [du],by first | rfl | simp [dB]⟩) ?_;rintro⟨i,al,ei⟩ ⟨hi,has,lA⟩;try dsimp only at hi has lA
 try dsimp only
 intro Z4 w7;simp only [az,go_sem];refine bY (fun CU=>?_) (fun CU=>?_);·(have bX:i<x.labels.length:=by simpa using CU);rw [CU];obtain⟨y,hy⟩:∃ y,x.labels[i]?=some y:=⟨_,ah bX⟩;obtain⟨iJ,dH⟩:=fU has hy;(have eU:((i:Nat):Int)<((x.labels.length:Nat):Int):=by omega);have hw:=bB i (by omega);(rcases Decidable.em (uk=8) with h8 | h8);(·simp only [az,eU,ae,iJ,hw,setRow,dH,bO,ai,aj,ak,go_sem];refine bY (fun s8=>?_) (fun s8=>?_);(·simp only [az,eU,ae,iJ,hw,setRow,dH,bO,ai,aj,ak,go_sem];refine dT tt_ok bU [⟨.n,0,[],[],[]⟩,⟨.r,0,[],[0],[1]⟩,⟨.n,0,[],[],[]⟩,⟨.n,0,[],[],[]⟩,⟨.n,0,[],[],[]⟩,⟨.r,0,[],[4],[]⟩,⟨.n,0,[],[],[]⟩,⟨.r,0,[],[4,5,6],[]⟩,⟨.n,0,[],[4,5,6,7],[]⟩,⟨.r,0,[],[4,5,6,7,8],[]⟩,⟨.e,1,[],[3,4,5,6,7,8,9],[]⟩,⟨.r,0,[],[0,1,2,3,4,5,6,7,8,9,10],[]⟩,⟨.n,0,[],[0,1,2,3,4,5,6,7,8,9,10,11],[]⟩,⟨.w,0,[],[0,1,2,3,4,5,6,7,8,9,10,11,12],[]⟩] 1 (by kernel_rfl) ?_;simp only [az,eU,ae,iJ,hw,setRow,dH,bO,ai,aj,ak,go_sem];refine va rfl rfl (rQ (hL y (ay hy) ei) ⟨rfl,rfl,rfl,rfl,rfl,by decide⟩) ?_;rintro _ _ ⟨rfl,rfl⟩;simp only [az,eU,ae,iJ,hw,setRow,dH,bO,ai,aj,ak,go_sem];refine w7 _ ⟨(i+1,al.set i (y.res (gQ vs)),y.ty.fold (gQ vs) (sQ vs) ei),?_,?_,dj (by omega) (by (simp [qI,lk,ea,eV,aH,aI,aO,az,cV,df,bO,aG,ai,Lb.res]))⟩;(·exact⟨bX,by have h_:=eJ has hy; rwa [show xN (gQ vs) uk y=y.res (gQ vs) from if_pos h8] at h_,by rw [ia hy,← lA,if_pos h8]⟩);dsimp only; omega);(rw [decide_eq_true h8] at s8; cases s8));simp only [az,eU,ae,iJ,hw,setRow,dH,bO,ai,aj,ak,go_sem];refine bY (fun s8=>?_) (fun s8=>?_);(·(rw [decide_eq_false h8] at s8; cases s8));simp only [az,eU,ae,iJ,hw,setRow,dH,bO,ai,aj,ak,go_sem];refine w7 _ ⟨(i+1,al,ei),?_,?_,dj (by omega) (by (simp [qI,lk,ea,eV,aH,aI,aO,az,cV,df,bO,aG,ai]))⟩;(·exact⟨bX,by have h_:=eJ has hy; rwa [show xN (gQ vs) uk y=y from if_neg h8,nu iJ] at h_,by rw [ia hy,← lA,if_neg h8]⟩);dsimp only; omega
 have Xf:¬ i<x.labels.length:=by simpa using CU
 have gB:i=x.labels.length:=by omega
 have jM:al=x.labels.map (xN (gQ vs) uk):=by rw [has,gB]; simp
 subst jM;obtain⟨ek,Xn⟩:∃ y,y=ei:=⟨_,rfl⟩;have HL:ek=x.labels.foldl (fun a l=>if uk=8 then l.ty.fold (gQ vs) (sQ vs) a else a) ej:=by rw [Xn,lA,gB,au]
 rw [← Xn];clear Xn lA;simp only [az,go_sem];refine sq tt_ok [1,20,30000] ?_;simp only [az,go_sem];refine fL tt_ok [1,20,30000] (fun a:Nat×List Ex×Bool=>[(0,.ptr 0 0),(1,fH loc),(5,.ptr 5 0),(6,.ptr 6 0),(80,.ms 9 0 0 x.kids.length),(81,num x.kids.length),(82,num a.1)]) (fun a:Nat×List Ex×Bool=>[.box [str ⟨#[]⟩,.sc (.slice none 0 0),.slice [aL D],num 0,.ms 4 v 0 vs.length,num 0,.cC (.func 140) [] [.ptr 1 0,.ptr 2 0],.cC (.func 141) [] [.ptr 1 0,.ptr 3 0],.sc (.func (.func 139) #[] #[])],.box [bl (a.2.2)],.box [.sc (.func (.func 81) #[] #[])],.box [.sc (.func (.func 82) #[] #[])],.rows v 1 (vs.map str),.box [num uk,str um,str x.name,str x.text,num x.num,.ms 7 0 0 x.types.length,.ms 8 0 0 x.labels.length,.ms 9 0 0 x.kids.length],.box [num 0,str ⟨#[]⟩,str ⟨#[]⟩,str ⟨#[]⟩,num 0,.sc (.slice none 0 0),.sc (.slice none 0 0),.sc (.slice none 0 0)],.rows 0 5 (aQ (x.types.map (Ty.res (gQ vs)))),.rows 0 8 ((x.labels.map (xN (gQ vs) uk)).map bO),.rows 0 8 (cr a.2.1),.hole,.hole,.hole]) (fun a=>x.kids.length-a.1) (fun a=>a.1≤x.kids.length∧a.2.1=du (gQ vs) hQ (nJ uk x.labels x.name x.text x.kids.length loc) 0 (x.kids.take a.1)++x.kids.drop a.1∧a.2.2=dB (gQ vs) hQ (sQ vs) vQ (nJ uk x.labels x.name x.text x.kids.length loc) 0 (x.kids.take a.1) ek) ((0,x.kids,ek)) 13 (dj (by omega) (by simp only [az,bD,go_sem] <;> rfl)) (⟨bx _,by simp [du],by first | rfl | simp [dB]⟩) ?_;rintro⟨i,al,ei⟩ ⟨hi,has,lA⟩;try dsimp only at hi has lA
 try dsimp only
 intro Z5 Dw;simp only [az,go_sem];refine bY (fun CV=>?_) (fun CV=>?_);·(have bX:i<x.kids.length:=by simpa using CV);rw [CV];obtain⟨y,hy⟩:∃ y,x.kids[i]?=some y:=⟨_,ah bX⟩;obtain⟨iJ,dH⟩:=Jn has hy;(have eU:((i:Nat):Int)<((x.kids.length:Nat):Int):=by omega);have hw:=bB i (by omega);simp only [az,eU,dn,iJ,a8,aC,hw,setRow,dH,go_sem];refine dT tt_ok bU [⟨.n,0,[],[],[]⟩,⟨.r,0,[],[0],[1]⟩,⟨.n,0,[],[],[]⟩,⟨.n,0,[],[],[]⟩,⟨.r,0,[],[],[]⟩,⟨.n,0,[],[],[]⟩,⟨.n,0,[],[],[]⟩,⟨.e,1,[],[4,5,6],[]⟩,⟨.r,0,[],[],[1]⟩,⟨.e,1,[],[3,4,5,6,7,8],[]⟩,⟨.r,0,[],[0,1,2,3,4,5,6,7,8,9],[]⟩,⟨.w,0,[],[0,1,2,3,4,5,6,7,8,9,10],[]⟩] 1 (by kernel_rfl) ?_;simp only [az,eU,dn,iJ,a8,aC,hw,setRow,dH,go_sem];refine va rfl rfl (zR uk um x.name x.text x.num (aQ (x.types.map (Ty.res (gQ vs)))) (x.labels.map (xN (gQ vs) uk)) (cr al) loc i x.types.length x.labels.length x.kids.length (by simp) hll Mx bX AL (k0:=1) (a:=7) (b:=8) (c:=9) rfl rfl rfl rfl rfl (by decide)) ?_;rintro _ _ ⟨rfl,rfl⟩;rw [Jm];simp only [az,eU,dn,iJ,a8,aC,hw,setRow,dH,go_sem];refine va rfl rfl (Lo (fK y (ay hy) ((nJ uk x.labels x.name x.text x.kids.length loc) i) ei) ⟨rfl,rfl,rfl,rfl,rfl,by decide⟩) ?_;rintro _ _ ⟨rfl,rfl⟩;simp only [az,eU,dn,iJ,a8,aC,hw,setRow,dH,go_sem];refine Dw _ ⟨(i+1,al.set i (y.res (gQ vs) hQ ((nJ uk x.labels x.name x.text x.kids.length loc) i)),y.fold (gQ vs) hQ (sQ vs) vQ ((nJ uk x.labels x.name x.text x.kids.length loc) i) ei),?_,?_,dj (by omega) (by (simp [qI,lk,ea,eV,aH,aI,aO,az,jJ,df,a8,aG,ai,aC]))⟩;(·exact⟨bX,Fy has hy,by rw [uL hy,← lA]⟩);dsimp only; omega
 have agV:¬ i<x.kids.length:=by simpa using CV
 have gB:i=x.kids.length:=by omega
 have jM:al=du (gQ vs) hQ (nJ uk x.labels x.name x.text x.kids.length loc) 0 x.kids:=by rw [has,gB]; simp
 subst jM;have Xo:ei=dB (gQ vs) hQ (sQ vs) vQ (nJ uk x.labels x.name x.text x.kids.length loc) 0 x.kids ek:=by rw [lA,gB,au]
 rw [zS,← zQ,← HL,← Xo,OA] at hK;simp only [az,go_sem];refine jm (k:=5) (vs':=[num uk,str um,str x.name,str x.text,num x.num,.slice (aQ (x.types.map (Ty.res (gQ vs)))),.slice ((x.labels.map (xN (gQ vs) uk)).map bO),.slice (cr (du (gQ vs) hQ (nJ uk x.labels x.name x.text x.kids.length loc) 0 x.kids))]) rfl (by simp [fh,gu,dg,jX,cV,YV,bE,tke,kn,aA]) ?_;refine Ki tt_ok [1,20,30000] ?_;simp only [az,go_sem];exact hK _ _ ⟨rfl,rfl⟩
end
theorem Ii (D:Dc) (vs:List ByteArray) (v:Nat) (hG:a6.g=some 1):∀ (N:Nat) (x:Ex),x.wt≤N→N≤1048576→uT x→∀ loc ok,bk ab 88 [.ptr 0 0,fH loc,cx x] (L5 D vs v ok) (cx (x.res (gQ vs) hQ loc)) (L5 D vs v (x.fold (gQ vs) hQ (sQ vs) vQ loc ok)):=by
 intro N
 induction N with
 | zero=>intro x h; have:=oV x; omega
 | succ N ih =>
  intro x hN hb gh loc ok
  have hlen:=CW x
  obtain⟨_,_,⟨rfl,rfl⟩,h⟩:=Ih D vs v ok hG loc x (by have:=x.mod_lt; omega) (by omega) (by omega) (by omega) (fun h=>Bt gh (OB (agX loc x) h))
   (fun t ht e=>lV D vs v hG t.size t (aw _) (by have:=t.dE; have:=uS ht; omega) (by have:=uS ht; omega) e) (fun l hl e=>lV D vs v hG l.ty.size l.ty (aw _) (by have:=l.ty.dE; have:=xO hl; omega) (by have:=xO hl; omega) e)
   (fun k hk loc e=>ih k (by have:=CX hk; omega) (by omega) (Fz gh hk) loc e)
  exact h
end
theorem JF {d:Dc} {i:Nat} {y:Pm} (h:d.params[i]?=some y):y.bound.wt≤d.wt:=by have h1:=cb Pm.wt h;have h2:y.wt=1+y.name.size+y.bound.wt:=rfl;have h3:d.wt=1+d.name.size+d.note.size+aZ Pm.wt d.params+d.lower.wt+d.upper.wt+d.type.wt+d.expr.wt+d.mod.size+d.target.size:=rfl;omega
theorem th (l:List Pm) (hl:l.length≤1048576) (M:List ba):∃ r_ m_,(fun r m=>r=V.ms M.length 1 0 l.length∧m=M++[.rows 1 7 (l.map cX)]) r_ m_∧bk ab 21 [.slice (l.map cX)] M r_ m_:=by have h:=HH (l.map cX) (Oq l 0) (by rw [ag]; omega);rw [ag] at h;have h2:=h.bR M (fun j=>M.length+j) 0 rfl rfl rfl (by simp [aH]) rfl (bx _) (fun i B hi=>by simp at hi) (fun i j hi=>by omega) (fun j _=>by omega);exact⟨_,_,⟨rfl,rfl⟩,h2⟩
theorem F3 {G:List ByteArray→Ty→Option ByteArray} {l al:List Pm} {i:Nat} {x:Pm} (has:al=eN G [] (l.take i)++l.drop i) (hx:l[i]?=some x):al.set i { x with bound:=x.bound.res (G ((l.take i).map Pm.name)) }=eN G [] (l.take (i+1))++l.drop (i+1):=by
 have bX:=(ax.1 hx).1;have hl:(eN G [] (l.take i)).length=i:=by rw [jn]; simp; omega
 rw [has,ep _ _ (by omega),hl,c5,cQ bX,eI,Fh hx];simp
theorem JG {G:List ByteArray→Ty→Option ByteArray} {l al:List Pm} {i:Nat} {x:Pm} (has:al=eN G [] (l.take i)++l.drop i) (hx:l[i]?=some x):al[i]?=some x∧al.length=l.length:=by
 have bX:=(ax.1 hx).1;have hl:(eN G [] (l.take i)).length=i:=by rw [jn]; simp; omega
 constructor;·rw [has,aW (by omega),hl,c5,Yx]; simpa using hx
 rw [has,ch,hl]; simp; omega
theorem Ym (X:Rv) (vs:List ByteArray) (v:Nat) (e:Int) (s:ByteArray) {M:List ba} {k3:Nat} (hM:Dv M X vs v e 0 1 2 k3):∃ r_ B_,(fun r B=>r=str (w6 X s)∧B=ba.box [str X.mp,.slice (X.cg.map bQ),.slice (X.decls.map aL),num X.idx,.ms k3 v 0 vs.length,num (sY e (ve X s)),.sc (.func (.func 85) #[] #[]),.sc (.func (.func 86) #[] #[]),.cC (.func 83) [] [.ptr 1 0]]) r_ B_∧B_.dw=0∧bk ab 83 [.ptr 0 0,str s,.ptr 1 0] M r_ (M.set 0 B_):=⟨_,_,⟨rfl,rfl⟩,rfl,Oj X vs v e s hM⟩
theorem rR {X:Rv} {vs:List ByteArray} {v:Nat} {x y:Ty} {e1 e2:Int} (h:bk ab 87 [.ptr 0 0,cf x] (L4 X vs v e1) (cf y) (L4 X vs v e2)) {M:List ba} {k3:Nat} (hM:Dv M X vs v e1 0 1 2 k3):∃ r_ B_,(fun r B=>r = .agg [num y.kind,str y.mod,str y.name,.slice (aQ y.args),.slice (bV y.bd)]∧B=ba.box [str X.mp,.slice (X.cg.map bQ),.slice (X.decls.map aL),num X.idx,.ms k3 v 0 vs.length,num (e2),.sc (.func (.func 85) #[] #[]),.sc (.func (.func 86) #[] #[]),.cC (.func 83) [] [.ptr 1 0]]) r_ B_∧B_.dw=0∧bk ab 87 [.ptr 0 0,.agg [num x.kind,str x.mod,str x.name,.slice (aQ x.args),.slice (bV x.bd)]] M r_ (M.set 0 B_):=by have h2:=QU h (by simp [aH,aO,aG,ai]) (by simp [aH,aO,aG,ai]) hM;refine⟨_,_,⟨rfl,rfl⟩,rfl,?_⟩;simpa [jx,ff,m9,aG,ai,Jk] using h2
theorem Lp {X:Rv} {vs:List ByteArray} {v:Nat} {x y:Ex} {loc:List ByteArray} {e1 e2:Int} (h:bk ab 88 [.ptr 0 0,fH loc,cx x] (L4 X vs v e1) (cx y) (L4 X vs v e2)) {M:List ba} {k3:Nat} (hM:Dv M X vs v e1 0 1 2 k3):∃ r_ m_,(fun r m=>r = .agg [num y.kind,str y.mod,str y.name,str y.text,num y.num,.slice (aQ y.types),.slice (y.labels.map bO),.slice (cr y.kids)]∧m=M.set 0 (ba.box [str X.mp,.slice (X.cg.map bQ),.slice (X.decls.map aL),num X.idx,.ms k3 v 0 vs.length,num (e2),.sc (.func (.func 85) #[] #[]),.sc (.func (.func 86) #[] #[]),.cC (.func 83) [] [.ptr 1 0]])) r_ m_∧bk ab 88 [.ptr 0 0,fH loc,.agg [num x.kind,str x.mod,str x.name,str x.text,num x.num,.slice (aQ x.types),.slice (x.labels.map bO),.slice (cr x.kids)]] M r_ m_:=by have h2:=QU h (by simp [aH,aO,a8,aC,az]) (by simp [aH,aO,a8,aC]) hM;refine⟨_,_,⟨rfl,rfl⟩,?_⟩;simpa [jx,ff,m9,a8,aC,ko,Jk] using h2
theorem PC (X:Rv) (i0:Int) (pv:V) (pZ:∀ n,aH n pv=true) (Yn:Int) (kq:X.decls.length≤1048576) (d:Dc) (pT:d.wt≤1048576) (gh:uT d.expr) (hd:X.decls[X.idx]?=some d):∃ r_ m_,(fun r m=>r = .eC [aL (dW X d),num (ny X d)]∧m=[.box [str X.mp,.slice (X.cg.map bQ),.slice (X.decls.map aL),num X.idx,.slice ((eS d).map str),num (ny X d),.sc (.func (.func 85) #[] #[]),.sc (.func (.func 86) #[] #[]),.cC (.func 83) [] [.ptr 1 0]],.box [.mp 2],.map (iF strVal 0 (cY (cZ X.cg))) (cY (cZ X.cg)).length]) r_ m_∧bk ab 36 [.ptr 0 0,num X.idx] ([.box [str X.mp,.slice (X.cg.map bQ),.slice (X.decls.map aL),num i0,pv,num Yn,.sc (.func (.func 85) #[] #[]),.sc (.func (.func 86) #[] #[]),.cC (.func 83) [] [.ptr 1 0]],.box [.mp 2],.map (iF strVal 0 (cY (cZ X.cg))) (cY (cZ X.cg)).length]) r_ m_:=by
 refine I7 tt_ok [3,14,30000] 97 [.cell 4 47,.tmp 5] (3) (by simp) (fn:=Tryz.f36) Tryz.func36 rfl Tryz.call36 ⟨rfl,rfl,by simp⟩ fun K hK=>?_;have Ap:d.params.length≤1048576:=by have h_:=ca Pm.wt (fun p=>by unfold Pm.wt; omega) d.params; unfold Dc.wt at pT; omega
 obtain⟨dm,Yo⟩:∃ y,y=(if d.kind=2 then w6 X d.mod else d.mod):=⟨_,rfl⟩;obtain⟨e0,Nb⟩:∃ y,y=(if d.kind=2 then ve X d.mod else 0):=⟨_,rfl⟩;have alS:(X.idx:Int)<(X.decls.length:Int):=by have:=(ax.1 hd).1; omega
 simp only [bF,az,↓pZ,ag,aq,aJ,aA,hd,ae,aL,ai,aC,aj,ak,go_sem];refine pq (n:=97) tt_ok [3,14,30000] (fun _:Unit=>[(0,.ptr 0 0),(4,.ptr 3 0),(5,num 0),(6,.ptr 4 0)]) (fun _:Unit=>[.box [str X.mp,.slice (X.cg.map bQ),.slice (X.decls.map aL),num X.idx,.ms 5 0 0 0,num (e0),.sc (.func (.func 85) #[] #[]),.sc (.func (.func 86) #[] #[]),.cC (.func 83) [] [.ptr 1 0]],.box [.mp 2],.map (iF strVal 0 (cY (cZ X.cg))) (cY (cZ X.cg)).length,.box [num 0,str ⟨#[]⟩,bl false,bl false,str ⟨#[]⟩,.sc (.slice none 0 0),num 0,str ⟨#[]⟩,str ⟨#[]⟩,.sc (.slice none 0 0),.sc (.slice none 0 0),num 0,str ⟨#[]⟩,str ⟨#[]⟩,.sc (.slice none 0 0),.sc (.slice none 0 0),num 0,str ⟨#[]⟩,str ⟨#[]⟩,.sc (.slice none 0 0),.sc (.slice none 0 0),num 0,str ⟨#[]⟩,str ⟨#[]⟩,str ⟨#[]⟩,num 0,.sc (.slice none 0 0),.sc (.slice none 0 0),.sc (.slice none 0 0),str ⟨#[]⟩,str ⟨#[]⟩],.box [num d.kind,str d.name,bl d.exported,bl d.deprecated,str d.note,.slice (d.params.map cX),num d.lower.kind,str d.lower.mod,str d.lower.name,.slice (aQ d.lower.args),.slice (bV d.lower.bd),num d.upper.kind,str d.upper.mod,str d.upper.name,.slice (aQ d.upper.args),.slice (bV d.upper.bd),num d.type.kind,str d.type.mod,str d.type.name,.slice (aQ d.type.args),.slice (bV d.type.bd),num d.expr.kind,str d.expr.mod,str d.expr.name,str d.expr.text,num d.expr.num,.slice (aQ d.expr.types),.slice (d.expr.labels.map bO),.slice (cr d.expr.kids),str dm,str d.target],.rows 0 1 ([])]) 6 (fun _=>True) (fun Z1 ee=>?_) ?_;·simp only [bF,az,↓pZ,ag,aq,aJ,aA,hd,ae,aL,ai,aC,aj,ak,go_sem];refine CA 0 4 0 1 rfl rfl ?_;refine Ki tt_ok [3,14,30000] ?_;simp only [bF,az,↓pZ,ag,aq,aJ,aA,hd,ae,aL,ai,aC,aj,ak,go_sem];refine bY (fun jy=>?_) (fun jy=>?_);(·have l9:d.kind=2:=of_decide_eq_true jy;(have Lq:dm=w6 X d.mod:=by rw [Yo,if_pos l9]);(have Lr:e0=sY 0 (ve X d.mod):=by rw [Nb,if_pos l9,Od]);simp only [bF,az,↓pZ,ag,aq,aJ,aA,hd,ae,aL,ai,aC,aj,ak,go_sem];refine dT tt_ok bU [⟨.n,0,[],[],[]⟩,⟨.n,0,[],[0],[]⟩,⟨.n,0,[],[0,1],[]⟩,⟨.r,0,[],[0,1,2],[]⟩,⟨.n,0,[],[],[]⟩,⟨.n,0,[],[],[]⟩,⟨.r,0,[],[5],[]⟩,⟨.e,0,[],[0,1,2,3,4,5,6],[]⟩,⟨.n,0,[],[0,1,2,3,4,5,6,7],[]⟩,⟨.w,0,[],[0,1,2,3,4,5,6,7,8],[]⟩] 1 (by kernel_rfl) ?_;simp only [bF,az,↓pZ,ag,aq,aJ,aA,hd,ae,aL,ai,aC,aj,ak,go_sem];refine va rfl rfl (Ym (k3:=5) X [] 0 0 d.mod ⟨rfl,rfl,rfl,rfl,by decide⟩) ?_;rintro _ _ ⟨rfl,rfl⟩;simp only [bF,az,↓pZ,ag,aq,aJ,aA,hd,ae,aL,ai,aC,aj,ak,go_sem];(try rw [← Lq,← Lr]);refine ee _ ⟨(),?_,dj (by omega) (by simp only [bF,az,↓pZ,ag,aq,aJ,aA,hd,ae,aL,ai,aC,aj,ak,go_sem])⟩;exact trivial);have l9:¬ d.kind=2:=of_decide_eq_false jy;(have Lq:dm=d.mod:=by rw [Yo,if_neg l9]);(have Lr:e0=0:=by rw [Nb,if_neg l9]);subst Lr;subst Lq;simp only [bF,az,↓pZ,ag,aq,aJ,aA,hd,ae,aL,ai,aC,aj,ak,go_sem];(try rw [← Lq,← Lr]);refine ee _ ⟨(),?_,dj (by omega) (by simp only [bF,az,↓pZ,ag,aq,aJ,aA,hd,ae,aL,ai,aC,aj,ak,go_sem])⟩;exact trivial
 intro _ _;simp only [bF,az,↓pZ,ag,aq,aJ,aA,hd,ae,aL,ai,aC,aj,ak,go_sem];refine cW (th d.params Ap _) ?_;rintro _ _ ⟨rfl,rfl⟩;try simp only [dO,aD,aM,zA]
 simp only [bF,az,↓pZ,ag,aq,aJ,aA,hd,ae,aL,ai,aC,aj,ak,go_sem];refine sq tt_ok [3,14,30000] ?_;simp only [bF,az,↓pZ,ag,aq,aJ,aA,hd,ae,aL,ai,aC,aj,ak,go_sem];refine fL tt_ok [3,14,30000] (fun a:Nat×List Pm×Int=>[(0,.ptr 0 0),(4,.ptr 3 0),(5,num 0),(6,.ptr 4 0),(44,.ms 6 1 0 d.params.length),(45,num d.params.length),(46,num a.1)]) (fun a:Nat×List Pm×Int=>[.box [str X.mp,.slice (X.cg.map bQ),.slice (X.decls.map aL),num X.idx,.ms 5 a.1 0 a.1,num (a.2.2),.sc (.func (.func 85) #[] #[]),.sc (.func (.func 86) #[] #[]),.cC (.func 83) [] [.ptr 1 0]],.box [.mp 2],.map (iF strVal 0 (cY (cZ X.cg))) (cY (cZ X.cg)).length,.box [num 0,str ⟨#[]⟩,bl false,bl false,str ⟨#[]⟩,.sc (.slice none 0 0),num 0,str ⟨#[]⟩,str ⟨#[]⟩,.sc (.slice none 0 0),.sc (.slice none 0 0),num 0,str ⟨#[]⟩,str ⟨#[]⟩,.sc (.slice none 0 0),.sc (.slice none 0 0),num 0,str ⟨#[]⟩,str ⟨#[]⟩,.sc (.slice none 0 0),.sc (.slice none 0 0),num 0,str ⟨#[]⟩,str ⟨#[]⟩,str ⟨#[]⟩,num 0,.sc (.slice none 0 0),.sc (.slice none 0 0),.sc (.slice none 0 0),str ⟨#[]⟩,str ⟨#[]⟩],.box [num d.kind,str d.name,bl d.exported,bl d.deprecated,str d.note,.ms 6 1 0 d.params.length,num d.lower.kind,str d.lower.mod,str d.lower.name,.slice (aQ d.lower.args),.slice (bV d.lower.bd),num d.upper.kind,str d.upper.mod,str d.upper.name,.slice (aQ d.upper.args),.slice (bV d.upper.bd),num d.type.kind,str d.type.mod,str d.type.name,.slice (aQ d.type.args),.slice (bV d.type.bd),num d.expr.kind,str d.expr.mod,str d.expr.name,str d.expr.text,num d.expr.num,.slice (aQ d.expr.types),.slice (d.expr.labels.map bO),.slice (cr d.expr.kids),str dm,str d.target],.rows a.1 1 (((d.params.take a.1).map Pm.name).map str),.rows 1 7 (a.2.1.map cX)]) (fun a=>d.params.length-a.1) (fun a=>a.1≤d.params.length∧a.2.1=eN (gR X) [] (d.params.take a.1)++d.params.drop a.1∧a.2.2=eA (gR X) (sR X) [] (d.params.take a.1) e0) ((0,d.params,e0)) 7 (dj (by omega) (by simp only [bF,az,↓pZ,ag,aq,aJ,aA,hd,ae,aL,ai,aC,aj,ak,mQ,dY,aM,bD,go_sem] <;> rfl)) (⟨bx _,by simp [eN],by first | rfl | simp [eA]⟩) ?_;rintro⟨i,al,ei⟩ ⟨hi,has,lA⟩;try dsimp only at hi has lA
 try dsimp only
 intro Z2 mc;simp only [bF,az,↓pZ,ag,aq,aJ,aA,hd,ae,aL,ai,aC,aj,ak,go_sem];refine bY (fun Di=>?_) (fun Di=>?_);·(have bX:i<d.params.length:=by simpa using Di);rw [Di];obtain⟨y,hy⟩:∃ y,d.params[i]?=some y:=⟨_,ah bX⟩;obtain⟨iJ,dH⟩:=JG has hy;(have eU:((i:Nat):Int)<((d.params.length:Nat):Int):=by omega);have hw:=bB i (by omega);(have tq:d.params.take (i+1)=d.params.take i++[y]:=by rw [bC,hy]; rfl);(have ke:((d.params.take i).map Pm.name).length=i:=by rw [ag,dz]; omega);(have sd:i+1≤34359738368:=by omega);(have rV:(((d.params.take i).map Pm.name).map str).length=i:=by rw [ag]; exact ke);have wX:dx [V.sc (Value.string y.name)] 0 1=true:=rfl;(have Dj:(d.params.take i).length=i:=by rw [dz]; omega);simp only [bF,az,↓pZ,eU,Dj,ae,iJ,hw,setRow,dH,sd,rV,wX,cX,ai,aj,ak,ag,aq,aJ,aA,hd,ae,aL,ai,aC,aj,ak,go_sem];refine dT tt_ok bU [⟨.n,0,[],[],[]⟩,⟨.r,0,[],[0],[0]⟩,⟨.n,0,[],[],[]⟩,⟨.n,0,[],[],[]⟩,⟨.n,0,[],[],[]⟩,⟨.r,0,[],[4],[]⟩,⟨.e,0,[],[3,4,5],[]⟩,⟨.r,0,[],[0,1,2,3,4,5,6],[]⟩,⟨.n,0,[],[0,1,2,3,4,5,6,7],[]⟩,⟨.w,0,[],[0,1,2,3,4,5,6,7,8],[]⟩] 1 (by kernel_rfl) ?_;simp only [bF,az,↓pZ,eU,Dj,ae,iJ,hw,setRow,dH,sd,rV,wX,cX,ai,aj,ak,ag,aq,aJ,aA,hd,ae,aL,ai,aC,aj,ak,go_sem];refine va rfl rfl (rR (k3:=5) (lU X ((d.params.take i).map Pm.name) i kq (by rw [ke]; omega) y.bound.size y.bound (aw _) (by have:=y.bound.dE; have:=JF hy; omega) ei) ⟨by first | rfl | (rw [ke]; rfl),rfl,rfl,rfl,by decide⟩) ?_;rintro _ _ ⟨rfl,rfl⟩;simp only [bF,az,↓pZ,eU,Dj,ae,iJ,hw,setRow,dH,sd,rV,wX,cX,ai,aj,ak,ag,aq,aJ,aA,hd,ae,aL,ai,aC,aj,ak,go_sem];refine dT tt_ok bU [⟨.n,0,[],[],[]⟩,⟨.n,0,[],[],[]⟩,⟨.n,0,[],[1],[]⟩,⟨.n,0,[],[1,2],[]⟩,⟨.r,0,[],[1,2,3],[]⟩,⟨.n,0,[],[],[]⟩,⟨.r,0,[],[5],[]⟩,⟨.n,0,[],[5,6],[]⟩,⟨.w,0,[],[1,2,3,4,5,6,7],[]⟩,⟨.n,0,[],[0,1,2,3,4,5,6,7,8],[]⟩,⟨.n,0,[],[0,1,2,3,4,5,6,7,8,9],[]⟩,⟨.w,1,[],[0,1,2,3,4,5,6,7,8,9,10],[]⟩] 2 (by kernel_rfl) ?_;simp only [bF,az,↓pZ,eU,Dj,ae,iJ,hw,setRow,dH,sd,rV,wX,cX,ai,aj,ak,ag,aq,aJ,aA,hd,ae,aL,ai,aC,aj,ak,go_sem];refine mc _ ⟨(i+1,al.set i { y with bound:=y.bound.res ((gR X) ((d.params.take i).map Pm.name)) },y.bound.fold ((gR X) ((d.params.take i).map Pm.name)) ((sR X) ((d.params.take i).map Pm.name)) ei),?_,?_,dj (by omega) (by (simp [qI,lk,ea,eV,aH,aI,aO,tq,df,cX,aG,ai]; exact⟨fun a b c h=>nz _ _ a b c h,am9 (by omega)⟩))⟩;(·exact⟨bX,F3 has hy,by rw [uN hy,← lA]⟩);dsimp only; omega
 have jw:¬ i<d.params.length:=by simpa using Di
 have gB:i=d.params.length:=by omega
 have jM:al=eN (gR X) [] d.params:=by rw [has,gB]; simp
 subst jM;obtain⟨ej,zP⟩:∃ y,y=ei:=⟨_,rfl⟩;have zQ:ej=eA (gR X) (sR X) [] d.params e0:=by rw [zP,lA,gB,au]
 rw [← zP,gB,au];clear zP lA;have hvd:(d.params.map Pm.name)=(eS d):=rfl;have ke:(eS d).length=d.params.length:=ag _;rw [hvd];obtain⟨el,hel⟩:∃ y,y=d.lower.fold ((gR X) (eS d)) ((sR X) (eS d)) ej:=⟨_,rfl⟩;obtain⟨eu,LA⟩:∃ y,y=d.upper.fold ((gR X) (eS d)) ((sR X) (eS d)) el:=⟨_,rfl⟩;obtain⟨et,het⟩:∃ y,y=d.type.fold ((gR X) (eS d)) ((sR X) (eS d)) eu:=⟨_,rfl⟩;obtain⟨ex,hex⟩:∃ y,y=d.expr.fold ((gR X) (eS d)) (hR X) ((sR X) (eS d)) (vR X) [] et:=⟨_,rfl⟩;simp only [bF,az,↓pZ,ke,ag,aq,aJ,aA,hd,ae,aL,ai,aC,aj,ak,go_sem];refine dT tt_ok bU [⟨.n,0,[],[],[]⟩,⟨.n,0,[],[],[]⟩,⟨.r,0,[],[1],[]⟩,⟨.e,0,[],[0,1,2],[]⟩,⟨.n,0,[],[],[]⟩,⟨.n,0,[],[],[]⟩,⟨.r,0,[],[5],[0]⟩,⟨.e,0,[],[0,1,2,3,4,5,6],[]⟩,⟨.n,0,[],[],[]⟩,⟨.n,0,[],[],[]⟩,⟨.r,0,[],[9],[0]⟩,⟨.e,0,[],[0,1,2,3,4,5,6,7,8,9,10],[]⟩,⟨.n,0,[],[0,1,2,3,5,6,9,10],[]⟩,⟨.w,0,[],[0,1,2,3,4,5,6,7,8,9,10,11,12],[]⟩,⟨.n,0,[],[0,1,2,3,4,5,6,7,8,9,10,11,12,13],[]⟩,⟨.w,1,[],[0,1,2,3,4,5,6,7,8,9,10,11,12,13,14],[]⟩,⟨.n,0,[],[0,1,2,3,4,5,6,7,8,9,10,11,12,13,14,15],[]⟩,⟨.w,2,[],[0,1,2,3,4,5,6,7,8,9,10,11,12,13,14,15,16],[]⟩] 3 (by kernel_rfl) ?_;simp only [bF,az,↓pZ,ke,ag,aq,aJ,aA,hd,ae,aL,ai,aC,aj,ak,go_sem];refine va rfl rfl (rR (k3:=5) (lU X (eS d) d.params.length kq (by rw [ke]; exact Ap) d.lower.size d.lower (aw _) (by have:=d.lower.dE; have:=pT; unfold Dc.wt at this; omega) ej) ⟨by first | rfl | (rw [ke]; rfl),rfl,rfl,rfl,by decide⟩) ?_;rintro _ _ ⟨rfl,rfl⟩;rw [← hel];simp only [bF,az,↓pZ,ke,ag,aq,aJ,aA,hd,ae,aL,ai,aC,aj,ak,go_sem];refine va rfl rfl (rR (k3:=5) (lU X (eS d) d.params.length kq (by rw [ke]; exact Ap) d.upper.size d.upper (aw _) (by have:=d.upper.dE; have:=pT; unfold Dc.wt at this; omega) el) ⟨by first | rfl | (rw [ke]; rfl),rfl,rfl,rfl,by decide⟩) ?_;rintro _ _ ⟨rfl,rfl⟩;rw [← LA];simp only [bF,az,↓pZ,ke,ag,aq,aJ,aA,hd,ae,aL,ai,aC,aj,ak,go_sem];refine va rfl rfl (rR (k3:=5) (lU X (eS d) d.params.length kq (by rw [ke]; exact Ap) d.type.size d.type (aw _) (by have:=d.type.dE; have:=pT; unfold Dc.wt at this; omega) eu) ⟨by first | rfl | (rw [ke]; rfl),rfl,rfl,rfl,by decide⟩) ?_;rintro _ _ ⟨rfl,rfl⟩;rw [← het];simp only [bF,az,↓pZ,ke,ag,aq,aJ,aA,hd,ae,aL,ai,aC,aj,ak,go_sem];refine cW (Lp (loc:=[]) (k3:=5) (HQ X (eS d) d.params.length kq (by rw [ke]; exact Ap) d.expr.wt d.expr (aw _) (by have:=pT; unfold Dc.wt at this; omega) gh [] et) ⟨by first | rfl | (rw [ke]; rfl),rfl,rfl,rfl,by decide⟩) ?_;rintro _ _ ⟨rfl,rfl⟩;rw [← hex];simp only [bF,az,↓pZ,ke,ag,aq,aJ,aA,hd,ae,aL,ai,aC,aj,ak,go_sem];refine jm (k:=4) (vs':=[num d.kind,str d.name,bl d.exported,bl d.deprecated,str d.note,.slice ((eN (gR X) [] d.params).map cX),num (d.lower.res ((gR X) (eS d))).kind,str (d.lower.res ((gR X) (eS d))).mod,str (d.lower.res ((gR X) (eS d))).name,.slice (aQ (d.lower.res ((gR X) (eS d))).args),.slice (bV (d.lower.res ((gR X) (eS d))).bd),num (d.upper.res ((gR X) (eS d))).kind,str (d.upper.res ((gR X) (eS d))).mod,str (d.upper.res ((gR X) (eS d))).name,.slice (aQ (d.upper.res ((gR X) (eS d))).args),.slice (bV (d.upper.res ((gR X) (eS d))).bd),num (d.type.res ((gR X) (eS d))).kind,str (d.type.res ((gR X) (eS d))).mod,str (d.type.res ((gR X) (eS d))).name,.slice (aQ (d.type.res ((gR X) (eS d))).args),.slice (bV (d.type.res ((gR X) (eS d))).bd),num (d.expr.res ((gR X) (eS d)) (hR X) []).kind,str (d.expr.res ((gR X) (eS d)) (hR X) []).mod,str (d.expr.res ((gR X) (eS d)) (hR X) []).name,str (d.expr.res ((gR X) (eS d)) (hR X) []).text,num (d.expr.res ((gR X) (eS d)) (hR X) []).num,.slice (aQ (d.expr.res ((gR X) (eS d)) (hR X) []).types),.slice ((d.expr.res ((gR X) (eS d)) (hR X) []).labels.map bO),.slice (cr (d.expr.res ((gR X) (eS d)) (hR X) []).kids),str dm,str d.target]) rfl (by simp [fh,gu,dg,jX,bE,jn]) ?_;(simp only [go_sem]);refine yP (k:=0) (v':=.slice ((eS d).map str)) 4 rfl rfl (by simp [lk,gu,dg,jX,bE,ke]) ?_;refine aaD tt_ok [3,14,30000] bU [⟨.r,0,[],[],[]⟩,⟨.n,0,[],[],[]⟩,⟨.n,0,[],[1],[]⟩,⟨.n,0,[],[1,2],[]⟩,⟨.r,0,[],[1,2,3],[3]⟩,⟨.e,3,[],[0],[]⟩,⟨.n,0,[],[0,1,2,3,4,5],[]⟩] 0 (by kernel_rfl) ?_;simp only [bF,az,↓pZ,ke,ag,aq,aJ,aA,hd,ae,aL,ai,aC,aj,ak,go_sem];have mz:ny X d=ex:=by unfold ny; rw [← Nb,← zQ,← hel,← LA,← het,← hex]
 refine hK _ _ ⟨?_,?_⟩;·rw [mz]; unfold dW; rw [← Yo]; rfl
 rw [mz]
end Go.Proofs.YtnboooapeopjoaaGreatDoor
end
