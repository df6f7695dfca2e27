import Derived.Test.YtfbbfmcggbapoaaGreatDoorL2
import Derived.Shelf.Small.Wraps
import Derived.Shelf.Strings.Search3
import Derived.Shelf.Strings.Split
open Array renaming toArray_toList->cJ
open Bool renaming and_eq_true->aG,and_false->aO,and_true->aJ,eq_iff_iff->jA,false_eq_true->bw
open ByteArray renaming data_append->awf,ext->avL,size_append->avM
open Go.Proofs.Tryz renaming prog->ak
open Int renaming cast_ofNat_Int->bQ,le_refl->cn,lt_of_lt_of_le->awC,toNat_natCast->gx
open List renaming all_append->mO,all_cons->cI,all_eq_true->ba,all_nil->ew,any_eq_true->u1,append_assoc->ay,cons_append->al,drop_drop->av2,drop_succ_cons->aa0,ext_getElem?->eh,flatMap_append->qq,flatMap_cons->ag,foldl_append->avQ,foldl_cons->kZ,getElem?_append_left->bz,getElem?_append_right->bm,getElem?_cons_zero->aI,getElem?_drop->av9,getElem?_eq_getElem->bf,getElem?_eq_none->ep,getElem?_eq_none_iff->awR,getElem?_eq_some_iff->az,getElem?_map->ae,getElem?_set_ne->cT,getElem?_set_self->fi,getElem?_take_of_lt->hH,headD_cons->a7,length_append->ab,length_cons->af,length_drop->eL,length_map->aC,length_nil->ah,length_singleton->avO,map_append->fa,map_congr_left->AF,map_cons->bo,map_map->avP,map_nil->dR,mem_append->ey,mem_cons_of_mem->bZ,mem_cons_self->cP,mem_iff_getElem?->br,mem_map->dS,mem_of_getElem?->aw,mem_or_eq_of_mem_set->awS,mem_range->api,mem_singleton->ei,nil_append->aq,replicate_succ->aV,replicate_zero->aW,set_append_right->eR,set_cons_zero->kP,take_add_one->cg,take_append_drop->ji,take_left->rW,take_length->aE,take_of_length_le->b8
open Nat renaming add_comm->VQ,add_sub_cancel->aeY,add_sub_cancel_left->eC,add_zero->fI,le_antisymm->avN,le_of_ble_eq_true->gP,le_of_not_lt->akf,le_refl->aA,le_succ_of_le->awv,lt_or_ge->bn,not_lt_zero->bR,sub_add_cancel->awD,sub_self->dW,zero_add->dc,zero_le->aY
open Option renaming getD_some->fS,isNone_none->aeX,map_eq_some_iff->bp,map_some->bU
open Prod renaming ext->avZ
open UInt8 renaming toNat_inj->avR
set_option linter.all false
set_option maxRecDepth 100000
set_option maxHeartbeats 4000000
section
namespace Go.Proofs.YtfbbfmcggbapoaaGreatDoor
section
open Go.RowKit Go.Lib Go.Shelf
def Jd:Go.Shelf.Ren:=⟨fun|103=>273|210=>286|206=>298|n=>n,fun|9=>9|4=>4|24=>254|3=>3|n=>n,fun|n=>n⟩
theorem Xq:Go.Proofs.Lays.n103 ak Jd := {
 mixed:=kr
 f103:=Tryz.func273.trans (yJ some kr)
 f206:=Tryz.func298.trans (yJ some kr)
 f210:=Tryz.func286.trans (yJ some kr)
 t3:=Tryz.underlying3
 a3:=Tryz.isAgg3
 z3:=Tryz.sizeOf3
 v3:=Tryz.zeroValue3
 t4:=Tryz.underlying4
 a4:=Tryz.isAgg4
 z4:=Tryz.sizeOf4
 v4:=Tryz.zeroValue4
 t9:=Tryz.underlying9
 a9:=Tryz.isAgg9
 z9:=Tryz.sizeOf9
 v9:=Tryz.zeroValue9
 t24:=Tryz.underlying254
 a24:=Tryz.isAgg254
 z24:=Tryz.sizeOf254
 v24:=Tryz.zeroValue254 }
theorem strings_CutPrefix (s p:g6) (w:World) :
  Calls ak 273 #[.string s,.string p] w fun e w'=>e = .returned (.tuple #[.string ⟨(Lib.trimPrefix s.data.toList p.data.toList).toArray⟩,.bool (Lib.hasPrefix s.data.toList p.data.toList)])/\w'=w:=Any.strings_CutPrefix Xq s p w
def Je:Go.Shelf.Ren:=⟨fun|144=>247|143=>274|219=>287|217=>299|225=>300|224=>301|267=>302|266=>306|314=>307|n=>n,fun|9=>9|4=>4|3=>3|5=>5|46=>209|146=>276|51=>268|n=>n,fun|1=>0|n=>n⟩
theorem Xr:Go.Proofs.Lays.n144 ak Je := {
 mixed:=kr
 f143:=Tryz.func274.trans (yJ some kr)
 f144:=Tryz.func247.trans (yJ some kr)
 f217:=Tryz.func299.trans (yJ some kr)
 f219:=Tryz.func287.trans (yJ some kr)
 f224:=Tryz.func301.trans (yJ some kr)
 f225:=Tryz.func300.trans (yJ some kr)
 f266:=Tryz.func306.trans (yJ some kr)
 f267:=Tryz.func302.trans (yJ some kr)
 f314:=Tryz.func307.trans (yJ some kr)
 t3:=Tryz.underlying3
 a3:=Tryz.isAgg3
 z3:=Tryz.sizeOf3
 v3:=Tryz.zeroValue3
 t4:=Tryz.underlying4
 a4:=Tryz.isAgg4
 z4:=Tryz.sizeOf4
 v4:=Tryz.zeroValue4
 t5:=Tryz.underlying5
 a5:=Tryz.isAgg5
 z5:=Tryz.sizeOf5
 v5:=Tryz.zeroValue5
 t9:=Tryz.underlying9
 a9:=Tryz.isAgg9
 z9:=Tryz.sizeOf9
 v9:=Tryz.zeroValue9
 t46:=Tryz.underlying209
 a46:=Tryz.isAgg209
 z46:=Tryz.sizeOf209
 v46:=Tryz.zeroValue209
 t51:=Tryz.underlying268
 a51:=Tryz.isAgg268
 z51:=Tryz.sizeOf268
 v51:=Tryz.zeroValue268
 t146:=Tryz.underlying276
 a146:=Tryz.isAgg276
 z146:=Tryz.sizeOf276
 v146:=Tryz.zeroValue276
 g1:=kr }
theorem strings_Contains (s sub:g6) (m:Int) (w:World) (hs:s.size<4294967281) (hm:w.cell? ⟨0,0,none⟩=some (.int .i64 m)) :
  Calls ak 247 #[.string s,.string sub] w fun e w'=>e = .returned (.bool (Lib.contains s.data.toList sub.data.toList))/\w'=w:=Any.strings_Contains Xr s sub m w hs hm
def Jf:Go.Shelf.Ren:=⟨fun|146=>242|221=>272|268=>284|138=>285|143=>274|195=>295|197=>296|218=>297|219=>287|260=>305|217=>299|225=>300|224=>301|267=>302|266=>306|314=>307|n=>n,fun|9=>9|31=>119|3=>3|4=>4|0=>0|105=>272|21=>21|5=>5|46=>209|119=>280|139=>283|138=>282|146=>276|51=>268|n=>n,fun|1=>0|3=>4|4=>5|n=>n⟩
theorem Xs:Go.Proofs.Lays.n146 ak Jf := {
 mixed:=kr
 f138:=Tryz.func285.trans (yJ some kr)
 f143:=Tryz.func274.trans (yJ some kr)
 f146:=Tryz.func242.trans (yJ some kr)
 f195:=Tryz.func295.trans (yJ some kr)
 f197:=Tryz.func296.trans (yJ some kr)
 f217:=Tryz.func299.trans (yJ some kr)
 f218:=Tryz.func297.trans (yJ some kr)
 f219:=Tryz.func287.trans (yJ some kr)
 f221:=Tryz.func272.trans (yJ some kr)
 f224:=Tryz.func301.trans (yJ some kr)
 f225:=Tryz.func300.trans (yJ some kr)
 f260:=Tryz.func305.trans (yJ some kr)
 f266:=Tryz.func306.trans (yJ some kr)
 f267:=Tryz.func302.trans (yJ some kr)
 f268:=Tryz.func284.trans (yJ some kr)
 f314:=Tryz.func307.trans (yJ some kr)
 t0:=Tryz.underlying0
 a0:=Tryz.isAgg0
 z0:=Tryz.sizeOf0
 v0:=Tryz.zeroValue0
 t3:=Tryz.underlying3
 a3:=Tryz.isAgg3
 z3:=Tryz.sizeOf3
 v3:=Tryz.zeroValue3
 t4:=Tryz.underlying4
 a4:=Tryz.isAgg4
 z4:=Tryz.sizeOf4
 v4:=Tryz.zeroValue4
 t5:=Tryz.underlying5
 a5:=Tryz.isAgg5
 z5:=Tryz.sizeOf5
 v5:=Tryz.zeroValue5
 t9:=Tryz.underlying9
 a9:=Tryz.isAgg9
 z9:=Tryz.sizeOf9
 v9:=Tryz.zeroValue9
 t21:=Tryz.underlying21
 a21:=Tryz.isAgg21
 z21:=Tryz.sizeOf21
 v21:=Tryz.zeroValue21
 t31:=Tryz.underlying119
 a31:=Tryz.isAgg119
 z31:=Tryz.sizeOf119
 v31:=Tryz.zeroValue119
 t46:=Tryz.underlying209
 a46:=Tryz.isAgg209
 z46:=Tryz.sizeOf209
 v46:=Tryz.zeroValue209
 t51:=Tryz.underlying268
 a51:=Tryz.isAgg268
 z51:=Tryz.sizeOf268
 v51:=Tryz.zeroValue268
 t105:=Tryz.underlying272
 a105:=Tryz.isAgg272
 z105:=Tryz.sizeOf272
 v105:=Tryz.zeroValue272
 t119:=Tryz.underlying280
 a119:=Tryz.isAgg280
 z119:=Tryz.sizeOf280
 t138:=Tryz.underlying282
 a138:=Tryz.isAgg282
 z138:=Tryz.sizeOf282
 v138:=Tryz.zeroValue282
 t139:=Tryz.underlying283
 a139:=Tryz.isAgg283
 z139:=Tryz.sizeOf283
 v139:=Tryz.zeroValue283
 t146:=Tryz.underlying276
 a146:=Tryz.isAgg276
 z146:=Tryz.sizeOf276
 v146:=Tryz.zeroValue276
 g1:=kr
 g3:=kr
 g4:=kr }
theorem strings_Split (s sep:g6) (m:Int) (w:World) (hs:s.size<4294967281) (hm:w.cell? ⟨0,0,none⟩=some (.int .i64 m)) (h1:1<=sep.size) :
  Calls ak 242 #[.string s,.string sep] w fun e w' =>
   e = .returned (.slice (some ⟨w.heap.size,0,none⟩) (Lib.countB s sep+1) (Lib.countB s sep+1))/\w'=w.alloc (.cells ((Lib.splitB sep 0 (Lib.countB s sep) s).map Value.string).toArray 9):=Any.strings_Split Xs kr s sep m w hs hm h1
end
end Go.Proofs.YtfbbfmcggbapoaaGreatDoor
end
section
namespace Go.Eng
variable [bJ]
open Go.RowKit (Below)
theorem dz.of_same {P:g7} {f:FuncId} {l:List Value} {v:Value} (hc:∀ (xs:Array Value) (w:World),(callFunc f xs).run P w = .ok (.enter f xs) w) (hG:bJ.g=some 0)
  (h:∀ w:World,w.cell? ⟨0,0,none⟩=some (.int .i64 bJ.n)->Calls P f l.toArray w fun e w'=>e = .returned v/\w'=w):dz P f (l.map V.sc) (j6 v):=by
 refine⟨hc,fun F hg w xs hF hx=>?_⟩;have sA:xs=l.toArray:=by rw [<- cJ (xs:=xs)];congr 1;refine eh fun i=>?_;cases hi:l[i]? with|none =>have h1:=hx.1;rw [aC] at h1;rw [ep (by have:=awR.1 hi;omega)]|some a =>obtain⟨y,hy,hr⟩:=hx.get (i:=i) (v:=.sc a) (by rw [ae,hi];rfl);rw [hy,fL hr]
 rw [sA];refine (h w (hF _ _ (hg.n 0 hG))).mono ?_;rintro e w' ⟨rfl,rfl⟩;exact⟨F,_,rfl,fun _ _ h=>h,hF,fun _ _ h=>.inl h,⟨hg,lx _ _⟩,Below.refl _ _⟩
end Go.Eng
namespace Go.Proofs.YtfbbfmcggbapoaaGreatDoor
open Go.Eng
open Go.RowKit (Below)
variable [bJ]
theorem tF (hG:bJ.g=some 0) (s t:g6) (hs:s.size<4294967281):dz ak 247 [str s,str t] (bl (Lib.contains s.data.toList t.data.toList)) :=
 dz.of_same (l:=[.string s,.string t]) Tryz.call247 hG fun w hw=>strings_Contains s t bJ.n w hs hw
theorem PN (hG:bJ.g=some 0) (s t:g6):dz ak 273 [str s,str t] (.fZ [str ⟨(Lib.trimPrefix s.data.toList t.data.toList).toArray⟩,bl (Lib.hasPrefix s.data.toList t.data.toList)]) :=
 dz.of_same (l:=[.string s,.string t]) Tryz.call273 hG fun w _=>strings_CutPrefix s t w
def pieces (s:g6):List g6:=Lib.splitB ⟨#[47]⟩ 0 (Lib.countB s ⟨#[47]⟩) s
theorem lB (s:g6):(pieces s).length=Lib.countB s ⟨#[47]⟩+1:=Lib.splitB_all ⟨#[47]⟩ (by decide) 0 _ s rfl
theorem S4 (hG:bJ.g=some 0) (s:g6) (hs:s.size<4294967281):dz ak 242 [str s,str ⟨#[47]⟩] (.slice ((pieces s).map str)):=by
 refine⟨Tryz.call242,fun F hg w xs hF hx=>?_⟩;obtain⟨x,ys,sA,hr,Co⟩:=hx.of_cons;obtain⟨y,zs,hys,H7,hz⟩:=Co.of_cons;have Rr:=hz.of_nil;subst Rr;have h1:=fL hr;have h2:=fL H7;subst h1;subst h2;subst hys;obtain rfl:xs = #[.string s,.string ⟨#[47]⟩]:=by rw [<- cJ (xs:=xs),sA]
 refine (strings_Split s ⟨#[47]⟩ bJ.n w hs (hF _ _ (hg.n 0 hG)) (by decide)).mono ?_;rintro e w' ⟨rfl,rfl⟩;have hold:∀ ad y,F ad=some y->ad.block≠w.heap.size:=fun ad y h e=>by have:=World.block_lt_of_cell? w ad (hF ad y h);omega
 have qc:∀ o,(w.alloc (.cells ((pieces s).map Value.string).toArray 9)).cell? ⟨w.heap.size,o,none⟩=((pieces s).map Value.string)[o]?:=fun o=>by unfold World.cell? World.alloc;simp
 let F':Addr->Option Value:=fun ad=>if ad.block=w.heap.size then (w.alloc (.cells ((pieces s).map Value.string).toArray 9)).cell? ad else F ad;have hFF:∀ ad y,F ad=some y->F' ad=some y:=fun ad y h=>by show (if _ then _ else _)=_;rw [g5 (hold ad y h)];exact h
 have Ib:Gl F':=hg.mono hFF;refine⟨F',_,rfl,hFF,fun ad y h=>?_,fun ad y h=>?_,⟨Ib,?_⟩,(Below.refl _ _).alloc (aA _) _⟩;·by_cases hb:ad.block=w.heap.size;(·rw [show F' ad=_ from gH hb] at h;exact h);rw [show F' ad=_ from g5 hb] at h;have h3:=hF ad y h;rw [<- h3];have bH:=World.block_lt_of_cell? w ad h3;unfold World.cell?;rw [Below.heap_alloc w _ _ bH]
 ·by_cases hb:ad.block=w.heap.size;(·exact .inr (by omega));rw [show F' ad=_ from g5 hb] at h;exact .inl h
 have hl:((pieces s).map str).length=Lib.countB s ⟨#[47]⟩+1:=by rw [aC,lB]
 have:=df.slice ⟨F',fun _ _=>none,Ib⟩ ((pieces s).map str) (some ⟨w.heap.size,0,none⟩) (Lib.countB s ⟨#[47]⟩+1) 1 ⟨w.heap.size,0,none⟩ (fun i _=>(((pieces s).map Value.string)[i]?).getD undef) (fun _=>rfl) (by rw [hl];exact aA _)
  (fun i row hi=>by rw [ae,bp] at hi;obtain⟨u,-,rfl⟩:=hi;rfl)
  (fun i row j c hi hj=>by
   rw [ae,bp] at hi
   obtain⟨u,hu,rfl⟩:=hi
   match j,hj with
   | 0,hj =>
    show F' _=_
    rw [add_lit,show F' _=_ from gH rfl,qc]
    simp [hu]
   | j+1,hj=>simp [V.cells] at hj)
  (fun i row j c hi hj=>by
   rw [ae,bp] at hi
   obtain⟨u,hu,rfl⟩:=hi
   simp [hu,Value.oneCell'])
  (fun i row j c hi hj=>by
   rw [ae,bp] at hi
   obtain⟨u,hu,rfl⟩:=hi
   match j,hj with
   | 0,hj =>
    cases hj
    simp only [ae,hu,bU,fS]
    exact .sc _ _
   | j+1,hj=>simp [V.cells] at hj)
 rw [hl] at this;exact this
end Go.Proofs.YtfbbfmcggbapoaaGreatDoor
end
section
namespace Go.Proofs.YtfbbfmcggbapoaaGreatDoor
open Go.Eng
variable [bJ]
open Nat renaming reduceAdd -> zA, reduceLT -> zB, reduceLeDiff -> zC, reduceMul -> zD, reduceEqDiff -> zE, reduceSub -> zF
def vj:g6:=⟨#[32,97,110,100,32,97,110,121,32,97,115,32,98,111,111,108,32,100,101,112,114,101,99,97,116,101,100,32,101,108,115,101,32,101,120,112,111,114,116,32,102,97,108,115,101,32,102,110,32,102,111,108,100,32,102,114,111,109,32,105,102,32,105,109,112,111,114,116,32,105,110,32,105,110,116,32,108,101,110,103,116,104,32,108,101,116,32,108,105,115,116,32,109,97,116,99,104,32,109,111,100,117,108,101,32,110,111,110,101,32,110,111,116,32,111,114,32,116,101,120,116,32,116,104,101,110,32,116,114,117,101,32,116,121,112,101,32,117,115,101,32]⟩
def kwB (s:g6):Bool:=Lib.contains vj.data.toList (⟨#[32]⟩++s++⟨#[32]⟩:g6).data.toList
def dC (s:g6):Bool:=decide (1<=s.size)&&decide (s.size<=32)&&GD (eT s 0)&&mC uV s && !kwB s
def uW (s:g6):Bool:=dC s&&mC DX s
def mY (s:g6):g6:=⟨(Lib.trimPrefix s.data.toList [118]).toArray⟩
def tG (s:g6):Bool:=Lib.hasPrefix s.data.toList [118]
def jC (t:g6):Nat->Int
 | 0=>0
 | k+1=>10*jC t k+(eT t k-48)
def tH (t:g6):Bool:=decide (1<=t.size)&&decide (t.size<=3) && !(decide (1<t.size)&&decide (eT t 0=48))&&mC lh t
def gC (s:g6):Bool:=tG s&&tH (mY s)
def pb (s:g6):Int:=jC (mY s) (mY s).size
theorem Cp {p:Int->Bool} {s:g6} (h:mC p s=true) {i:Nat} {c:UInt8} (hc:s[i]?=some c):p c.toNat=true:=ba.1 h c (aw (tD hc))
theorem vX {t:g6} (h:mC lh t=true):∀ k,k<=t.size->0<=jC t k/\jC t k<10 ^ k
 | 0,_=>⟨cn _,by simp [jC]⟩
 | k+1,hk=>by
  obtain⟨h1,h2⟩:=vX h k (by omega)
  obtain⟨c,hc⟩:=er (s:=t) (i:=k) (by omega)
  have h3:=Cp h hc
  unfold lh at h3
  simp only [aG,decide_eq_true_eq] at h3
  rw [jC,ff hc,Int.pow_succ]
  omega
theorem S5 {t:g6} (h:mC lh t=true) (h3:t.size<=3) {k:Nat} (hk:k<=t.size):0<=jC t k/\jC t k<1000:=by
 obtain⟨h1,h2⟩:=vX h k hk;refine⟨h1,awC h2 ?_⟩;have:k=0\/k=1\/k=2\/k=3:=by omega
 rcases this with rfl|rfl|rfl|rfl <;> decide
theorem LY (hG:bJ.g=some 0) (s:g6) (hs:s.size<=1000000):Cn 240 [str s] (bl (kwB s)):=by refine cM [] 7 [.tmp 2] Tryz.func240 Tryz.call240 fun K hK=>?_;have sa1:=fun x y=>wU ak 9 x y ⟨#[32]⟩ s (by rw [show (⟨#[32]⟩:g6).size=1 from rfl,show IntKind.i64.max=9223372036854775807 from rfl];omega);have sa2:=fun x y=>wU ak 9 x y (⟨#[32]⟩++s) ⟨#[32]⟩ (by rw [avM,show (⟨#[32]⟩:g6).size=1 from rfl,show IntKind.i64.max=9223372036854775807 from rfl];omega);simp only [sa1,sa2,go_sem];refine cL (⟨_,rfl,tF hG _ _ (by decide)⟩) ?_;simp only [sa1,sa2,go_sem];exact hK _ rfl
theorem jv (hG:bJ.g=some 0) (s:g6):Cn 176 [str s] (bl (dC s)):=by
 refine cM [] 24 [.tmp 2] Tryz.func176 Tryz.call176 fun K hK=>?_;have rJ:ak.underlying 9=some .string:=kr;have sl:=zY;simp only [sl,go_sem];apply bE <;> intro Cq;·have h1:=AW rfl Cq;obtain⟨Jg,kG⟩:=er (s:=s) (i:=(0:Int).toNat) (by omega);have dO:=eM (P:=ak) s rJ .i64 (0) (by omega) (c:=Jg) kG;have lC:eT s 0=Jg.toNat:=ff kG;simp only [dO,sl,go_sem];apply bE <;> intro Jh <;> simp only [dO,sl,go_sem];(·refine cL (Ck _) ?_;repeat' (simp only [dO,sl,go_sem];first|apply bE <;> intro hg|refine cL (Cm 238 uV NI s (by have:=qB Jh;omega)) ?_|refine cL (LY hG s (by have:=qB Jh;omega)) ?_|(exact hK _ (yJ bl (by simp_all [dC] <;> (intros;omega))))));exact hK _ (yJ bl (by simp_all [dC] <;> (intros;omega)))
 have h1:=xv rfl Cq;simp only [sl,go_sem];exact hK _ (yJ bl (by simp_all [dC] <;> (intros;omega)))
theorem LZ (hG:bJ.g=some 0) (s:g6):Cn 243 [str s] (.fZ [num (if gC s=true then pb s else 0),bl (gC s)]):=by
 refine cM [] 53 [.tmp 2,.tmp 3] Tryz.func243 Tryz.call243 fun K hK=>?_;have rJ:ak.underlying 9=some .string:=kr;have sl:=zY;have hT5:ak.underlying 5=some (.int .u8):=kr;have hT3:ak.underlying 3=some (.int .i64):=kr;have cv:=fun (k:IntKind) (n:Int)=>Nc (P:=ak) (src:=5) (dst:=3) hT5 hT3 k n;simp only [sl,cv,go_sem];refine cL (⟨_,rfl,PN hG s ⟨#[118]⟩⟩) ?_;obtain⟨t,ht⟩:=gy (mY s);obtain⟨hv,hhv⟩:=gy (tG s);have e1:(⟨(Lib.trimPrefix s.data.toList [118]).toArray⟩:g6)=t:=ht.symm;have e2:Lib.hasPrefix s.data.toList [118]=hv:=hhv.symm;have KL:gC s=(hv&&tH t):=by rw [hhv,ht];rfl
 simp only [e1,e2];simp only [sl,cv,go_sem];apply bE <;> intro Cr
 ·have lH:gC s=false:=by rw [KL];simp_all [tH] <;> (intros;omega)
  simp only [sl,cv,go_sem];refine hK _ ?_
  first
   | (rw [lH];rfl)
   | (rw [iq];subst fP;unfold pb;rw [<- ht];rfl)
 simp only [sl,cv,go_sem];apply bE <;> intro ZH
 ·have h1:t.size=0:=xv (e:=⟨#[]⟩) rfl (by rw [ZH];rfl);have lH:gC s=false:=by rw [KL];simp_all [tH] <;> (intros;omega)
  simp only [sl,cv,go_sem];refine hK _ ?_
  first
   | (rw [lH];rfl)
   | (rw [iq];subst fP;unfold pb;rw [<- ht];rfl)
 have h1:1<=t.size:=AW (e:=⟨#[]⟩) rfl (by rw [ZH];rfl);obtain⟨Jg,kG⟩:=er (s:=t) (i:=(0:Int).toNat) (by omega);have dO:=eM (P:=ak) t rJ .i64 (0) (by omega) (c:=Jg) kG;have lC:eT t 0=Jg.toNat:=ff kG;simp only [dO,sl,cv,go_sem];apply bE <;> intro S6
 ·have lH:gC s=false:=by rw [KL];simp_all [tH] <;> (intros;omega)
  simp only [dO,sl,cv,go_sem];refine hK _ ?_
  first
   | (rw [lH];rfl)
   | (rw [iq];subst fP;unfold pb;rw [<- ht];rfl)
 simp only [dO,sl,cv,go_sem];apply bE <;> intro amA <;> simp only [dO,sl,cv,go_sem]
 ·apply bE <;> intro amB
  ·have lH:gC s=false:=by rw [KL];simp_all [tH] <;> (intros;omega)
   simp only [dO,sl,cv,go_sem];refine hK _ ?_
   first
    | (rw [lH];rfl)
    | (rw [iq];subst fP;unfold pb;rw [<- ht];rfl)
  simp only [dO,sl,cv,go_sem];refine cL (Cm 245 lh xw t (by have:=k9 S6;omega)) ?_;simp only [dO,sl,cv,go_sem];apply bE <;> intro PO
  ·have lH:gC s=false:=by rw [KL];simp_all [tH] <;> (intros;omega)
   simp only [dO,sl,cv,go_sem];refine hK _ ?_
   first
    | (rw [lH];rfl)
    | (rw [iq];subst fP;unfold pb;rw [<- ht];rfl)
  have iq:gC s=true:=by rw [KL];simp_all [tH] <;> (intros;omega)
  have PQ:tH t=true:=by rw [KL] at iq;simp at iq;exact iq.2
  have Ji:mC lh t=true:=by unfold tH at PQ;simp only [aG] at PQ;exact PQ.2
  have h3:t.size<=3:=by unfold tH at PQ;simp only [aG,decide_eq_true_eq] at PQ;exact PQ.1.1.2
  simp only [dO,sl,cv,go_sem];refine di tt_ok [] [40,5] 0 [0,2,3,37,39] (fun vs=>((t.size:Int)-Go.Eng.intOf (vs.headD .undef)).toNat) (fun vs=>∃ i:Nat,vs=[num i,num (jC t i)]/\i<=t.size) (by omega) (by simp only [dO,sl,cv,go_sem]) (⟨0,rfl,aY _⟩) fun vs hI Z1 dm=>?_;obtain⟨i,rfl,hi⟩:=hI;simp only [dO,sl,cv,go_sem];apply bE <;> intro GG;·have bH:=jq GG;have hw:=bj i (by omega);obtain⟨c,su⟩:=er (s:=t) (i:=i) bH;have ic:=eM (P:=ak) t rJ .i64 (i:Int) (by omega) (c:=c) (show t[((i:Nat):Int).toNat]?=some c from su);have Q8:=Cp Ji su;unfold lh at Q8;simp only [aG,decide_eq_true_eq] at Q8;obtain⟨hd0,Wt⟩:=S5 Ji h3 hi;(have hu:IntKind.u8.wrap ((c.toNat:Int)-48)=(c.toNat:Int)-48:=by have h:=c.toNat_lt;simp only [IntKind.wrap,IntKind.bits,IntKind.signed];simp;omega);have Cs:IntKind.i64.wrap ((c.toNat:Int)-48)=(c.toNat:Int)-48:=IntWalk.i64_in _ (by omega);have Ct:IntKind.i64.wrap (10*jC t i)=10*jC t i:=IntWalk.i64_in _ (by omega);(have vk:IntKind.i64.wrap (10*jC t i+((c.toNat:Int)-48))=jC t (i+1):=by rw [jC,ff su];exact IntWalk.i64_in _ (by omega));simp only [dO,hw,ic,hu,Cs,Ct,vk,sl,cv,go_sem];refine dm _ (fN (by omega) (by simp only [dO,hw,ic,hu,Cs,Ct,vk,sl,cv,go_sem]) ?_ ?_) <;> simp only [eO,lk,reduceIte,zE];(·exact⟨i+1,rfl,bH⟩);simp only [Go.Eng.intOf,a7];omega
  have fP:i=t.size:=avN hi (akf (by simpa using GG));simp only [dO,sl,cv,go_sem];refine hK _ ?_
  first
   | (rw [lH];rfl)
   | (rw [iq];subst fP;unfold pb;rw [<- ht];rfl)
 refine cL (Cm 245 lh xw t (by have:=k9 S6;omega)) ?_;simp only [dO,sl,cv,go_sem];apply bE <;> intro PO
 ·have lH:gC s=false:=by rw [KL];simp_all [tH] <;> (intros;omega)
  simp only [dO,sl,cv,go_sem];refine hK _ ?_
  first
   | (rw [lH];rfl)
   | (rw [iq];subst fP;unfold pb;rw [<- ht];rfl)
 have iq:gC s=true:=by rw [KL];simp_all [tH] <;> (intros;omega)
 have PQ:tH t=true:=by rw [KL] at iq;simp at iq;exact iq.2
 have Ji:mC lh t=true:=by unfold tH at PQ;simp only [aG] at PQ;exact PQ.2
 have h3:t.size<=3:=by unfold tH at PQ;simp only [aG,decide_eq_true_eq] at PQ;exact PQ.1.1.2
 simp only [dO,sl,cv,go_sem];refine di tt_ok [] [40,5] 0 [0,2,3,37,39] (fun vs=>((t.size:Int)-Go.Eng.intOf (vs.headD .undef)).toNat) (fun vs=>∃ i:Nat,vs=[num i,num (jC t i)]/\i<=t.size) (by omega) (by simp only [dO,sl,cv,go_sem]) (⟨0,rfl,aY _⟩) fun vs hI Z2 lR=>?_;obtain⟨i,rfl,hi⟩:=hI;simp only [dO,sl,cv,go_sem];apply bE <;> intro GG;·have bH:=jq GG;have hw:=bj i (by omega);obtain⟨c,su⟩:=er (s:=t) (i:=i) bH;have ic:=eM (P:=ak) t rJ .i64 (i:Int) (by omega) (c:=c) (show t[((i:Nat):Int).toNat]?=some c from su);have Q8:=Cp Ji su;unfold lh at Q8;simp only [aG,decide_eq_true_eq] at Q8;obtain⟨hd0,Wt⟩:=S5 Ji h3 hi;(have hu:IntKind.u8.wrap ((c.toNat:Int)-48)=(c.toNat:Int)-48:=by have h:=c.toNat_lt;simp only [IntKind.wrap,IntKind.bits,IntKind.signed];simp;omega);have Cs:IntKind.i64.wrap ((c.toNat:Int)-48)=(c.toNat:Int)-48:=IntWalk.i64_in _ (by omega);have Ct:IntKind.i64.wrap (10*jC t i)=10*jC t i:=IntWalk.i64_in _ (by omega);(have vk:IntKind.i64.wrap (10*jC t i+((c.toNat:Int)-48))=jC t (i+1):=by rw [jC,ff su];exact IntWalk.i64_in _ (by omega));simp only [dO,hw,ic,hu,Cs,Ct,vk,sl,cv,go_sem];refine lR _ (fN (by omega) (by simp only [dO,hw,ic,hu,Cs,Ct,vk,sl,cv,go_sem]) ?_ ?_) <;> simp only [eO,lk,reduceIte,zE];(·exact⟨i+1,rfl,bH⟩);simp only [Go.Eng.intOf,a7];omega
 have fP:i=t.size:=avN hi (akf (by simpa using GG));simp only [dO,sl,cv,go_sem];refine hK _ ?_
 first
  | (rw [lH];rfl)
  | (rw [iq];subst fP;unfold pb;rw [<- ht];rfl)
section
def EI (s:g6):g6:=(pieces s).getLast?.getD ⟨#[]⟩
def dH (s:g6):Bool:=gC (EI s)&&decide (s.size<=64)&&decide (2<=(pieces s).length)&&(pieces s).all uW
def kH (s:g6):Int:=if dH s=true then pb (EI s) else 0
def kc (s:g6):Int:=if dH s=true then 0 else 4
theorem EJ (s:g6):(pieces s).length<=s.size+1:=by rw [lB];have:=Lib.countB_le ⟨#[47]⟩ (by decide) s.size s (aA _);omega
theorem Jj {s z:g6} (h:(pieces s)[(pieces s).length-1]?=some z):EI s=z:=by unfold EI;rw [List.getLast?_eq_getElem?,h];rfl
theorem S7 {α:Type} {q:α->Bool} {l:List α} (h:∀ j<l.length,∀ x,l[j]?=some x->q x=true):l.all q=true:=by rw [ba];intro x hx;obtain⟨j,hj⟩:=br.1 hx;exact h j (az.1 hj).1 x hj
theorem L0 {α:Type} {q:α->Bool} {l:List α} {i:Nat} {x:α} (h:l[i]?=some x) (hq:q x=false):l.all q=false:=by cases ha:l.all q with|false=>rfl|true=>have:=ba.1 ha x (aw h);rw [hq] at this;cases this
section
attribute [local go_sem] aC ae
theorem S8 (hG:bJ.g=some 0) (s:g6) (hs:s.size<=1048576):Cn 179 [str s] (.fZ [num (kH s),num (kc s)]):=by
 refine cM [] 49 [.tmp 2,.tmp 3] Tryz.func179 Tryz.call179 fun K hK=>?_;have sl:=zY;simp only [sl,go_sem];refine cL (⟨_,rfl,S4 hG s (by omega)⟩) ?_;obtain⟨P,hP⟩:=gy (pieces s);have hPl:=EJ s;have hP1:=lB s;rw [<- hP];rw [<- hP] at hPl hP1;obtain⟨z,hz⟩:=gB P (P.length-1) (by omega);have wE:EI s=z:=Jj (by rw [<- hP];exact hz);have jk:IntKind.i64.wrap ((P.length:Int)-1)=((P.length-1:Nat):Int):=Ci _ _ (by omega) (by omega);simp only [hz,jk,sl,go_sem];refine cL (LZ hG z) ?_;simp only [hz,jk,sl,go_sem];apply bE <;> intro ap2
 ·have lH:dH s=false:=by unfold dH;rw [wE,<- hP];simp_all <;> (intros;omega)
  simp only [hz,jk,sl,go_sem];refine hK _ ?_
  first
   | (unfold kH kc;rw [lH];rfl)
   | (unfold kH kc;rw [iq,wE];simp_all;done)
   | (unfold kH kc;rw [iq,wE];simp_all;rfl)
 simp only [hz,jk,sl,go_sem];apply bE <;> intro ap3
 ·have lH:dH s=false:=by unfold dH;rw [wE,<- hP];simp_all <;> (intros;omega)
  simp only [hz,jk,sl,go_sem];refine hK _ ?_
  first
   | (unfold kH kc;rw [lH];rfl)
   | (unfold kH kc;rw [iq,wE];simp_all;done)
   | (unfold kH kc;rw [iq,wE];simp_all;rfl)
 simp only [hz,jk,sl,go_sem];apply bE <;> intro Xt
 ·have lH:dH s=false:=by unfold dH;rw [wE,<- hP];simp_all <;> (intros;omega)
  simp only [hz,jk,sl,go_sem];refine hK _ ?_
  first
   | (unfold kH kc;rw [lH];rfl)
   | (unfold kH kc;rw [iq,wE];simp_all;done)
   | (unfold kH kc;rw [iq,wE];simp_all;rfl)
 simp only [hz,jk,sl,go_sem];refine di tt_ok [] [35] 0 [5,32,33,34] (fun vs=>((P.length:Int)-Go.Eng.intOf (vs.headD .undef)).toNat) (fun vs=>∃ i:Nat,vs=[num i]/\i<=P.length/\∀ j<i,∀ x,P[j]?=some x->uW x=true) (by omega) (by simp only [hz,jk,sl,go_sem]) (⟨0,rfl,aY _,fun j hj=>absurd hj (bR j)⟩) fun vs hI Z1 dm=>?_;obtain⟨i,rfl,hi,cZ⟩:=hI;simp only [hz,jk,sl,go_sem];apply bE <;> intro rK
 ·have bH:=jq rK;have hw:=bj i (by omega);obtain⟨x,hx⟩:=gA bH;simp only [hz,jk,hw,hx,sl,go_sem];refine cL (jv hG x) ?_;simp only [hz,jk,hw,hx,sl,go_sem];apply bE <;> intro ahb
  ·have lH:dH s=false:=by have ha:P.all uW=false:=L0 hx (by unfold uW;simp_all);unfold dH;rw [<- hP,ha];simp
   simp only [hz,jk,hw,hx,sl,go_sem];refine hK _ ?_
   first
    | (unfold kH kc;rw [lH];rfl)
    | (unfold kH kc;rw [iq,wE];simp_all;done)
    | (unfold kH kc;rw [iq,wE];simp_all;rfl)
  have EK:dC x=true:=by simpa using ahb
  simp only [hz,jk,hw,hx,sl,go_sem];refine cL (Cm 244 DX ag4 x (by have h:=EK;unfold dC at h;simp only [aG,decide_eq_true_eq] at h;omega)) ?_;simp only [hz,jk,hw,hx,sl,go_sem];apply bE <;> intro DY
  ·have lH:dH s=false:=by have ha:P.all uW=false:=L0 hx (by unfold uW;simp_all);unfold dH;rw [<- hP,ha];simp
   simp only [hz,jk,hw,hx,sl,go_sem];refine hK _ ?_
   first
    | (unfold kH kc;rw [lH];rfl)
    | (unfold kH kc;rw [iq,wE];simp_all;done)
    | (unfold kH kc;rw [iq,wE];simp_all;rfl)
  simp only [hz,jk,hw,hx,sl,go_sem];refine dm _ (fN (by omega) (by simp only [hz,jk,hw,hx,sl,go_sem]) ?_ ?_) <;> simp only [eO,lk,reduceIte,zE];·refine⟨i+1,rfl,bH,fun j hj=>?_⟩;(rcases bn j i with h|h);(·exact cZ j h);(obtain rfl:j=i:=by omega);intro y hy;rw [hx] at hy;cases hy;unfold uW;simp_all
  simp only [Go.Eng.intOf,a7];omega
 have fP:=ki rK;have iq:dH s=true:=by have ha:P.all uW=true:=S7 fun j hj=>cZ j (by omega);unfold dH;rw [wE,<- hP,ha];simp_all <;> omega
 simp only [hz,jk,sl,go_sem];refine hK _ ?_
 first
  | (unfold kH kc;rw [lH];rfl)
  | (unfold kH kc;rw [iq,wE];simp_all;done)
  | (unfold kH kc;rw [iq,wE];simp_all;rfl)
end
theorem oD (hG:bJ.g=some 0) (s:g6) (hs:s.size<=1048576):Cn 90 [str s] (bl (dH s)):=by refine cM [] 12 [.tmp 2] Tryz.func90 Tryz.call90 fun K hK=>?_;simp only [go_sem];refine cL (S8 hG s hs) ?_;simp only [go_sem];exact hK _ (yJ bl (by unfold kc;by_cases h:dH s=true <;> simp [h]))
end
end Go.Proofs.YtfbbfmcggbapoaaGreatDoor
end
section
namespace Go.Proofs.YtfbbfmcggbapoaaGreatDoor
open Go.Eng
def kwL:List (List UInt8):=[[97,110,100],[97,110,121],[97,115],[98,111,111,108],[100,101,112,114,101,99,97,116,101,100],[101,108,115,101],[101,120,112,111,114,116],[102,97,108,115,101],[102,110],[102,111,108,100],[102,114,111,109],[105,102],[105,109,112,111,114,116],[105,110],[105,110,116],[108,101,110,103,116,104],[108,101,116],[108,105,115,116],[109,97,116,99,104],[109,111,100,117,108,101],[110,111,110,101],[110,111,116],[111,114],[116,101,120,116],[116,104,101,110],[116,114,117,101],[116,121,112,101],[117,115,101]]
def kws:List g6:=kwL.map fun l=>⟨l.toArray⟩
theorem Xu:kwL.all (fun k=>Lib.contains vj.data.toList (32 :: k++[32]))=true:=kr
def tw (l:List UInt8):List UInt8:=l.takeWhile (· != 32)
theorem ahd:(List.range 200).all (fun i=>!((vj.data.toList.drop i).head?==some 32)||((vj.data.toList.drop (i+1)).isEmpty||kwL.contains (tw (vj.data.toList.drop (i+1)))))=true:=kr
theorem acV {k r:List UInt8} (h:∀ b∈k,b≠32):tw (k++32 :: r)=k:=by induction k with|nil=>rfl|cons b k ih =>(have hb:(b != 32)=true:=by simpa using h b (cP ..));show List.takeWhile _ (b :: (k++32 :: r))=_;rw [List.takeWhile_cons,hb];simp only [if_true];exact yJ (b :: ·) (ih fun c hc=>h c (bZ _ hc))
theorem Xv:Nat.ble vj.data.toList.length 200=true:=kr
theorem Xw (s:g6) (h:mC uV s=true):kwB s=kws.any fun k=>decide (k=s):=by
 have lH:∀ b∈gu s,b≠32:=fun b hb e=>by have h1:=ba.1 h b hb;rw [e] at h1;revert h1;decide
 have hd:(⟨#[32]⟩++s++⟨#[32]⟩:g6).data.toList=32 :: gu s++[32]:=by rw [awf,awf];simp [gu]
 have hm:s∈kws↔gu s∈kwL:=by unfold kws;rw [dS];refine⟨fun ⟨l,hl,e⟩=>by rw [<- e];simpa [gu] using hl,fun h=>⟨_,h,?_⟩⟩;obtain⟨⟨l⟩⟩:=s;rfl
 have WE:(kws.any fun k=>decide (k=s))=true↔gu s∈kwL:=by rw [u1,<- hm];exact⟨fun ⟨k,hk,e⟩=>by rw [<- qB e];exact hk,fun h=>⟨s,h,by simp⟩⟩
 rw [jA,WE];unfold kwB;rw [hd];constructor;·intro hc;unfold Lib.contains at hc;rw [decide_eq_true_eq] at hc;(rcases Lib.index_spec vj.data.toList (32 :: gu s++[32]) with ⟨h1,_⟩|⟨i,h1,h2,h3,_⟩);(·omega);unfold Lib.occAt at h3;rw [List.isPrefixOf_iff_prefix] at h3;obtain⟨r,hr⟩:=h3;(have hi:i<200:=by have hl:=yJ List.length hr;have:=gP Xv;simp only [ab,af,eL] at hl;omega);have h4:=ba.1 ahd i (api.2 hi);(have e1:vj.data.toList.drop (i+1)=gu s++32 :: r:=by (have:vj.data.toList.drop (i+1)=(vj.data.toList.drop i).drop 1:=by rw [av2]);rw [this,<- hr];simp);rw [<- hr,e1,acV lH] at h4;simpa using h4
 intro hc;exact ba.1 Xu _ hc
theorem Cu (s:g6):dC s=(decide (1<=s.size)&&decide (s.size<=32)&&GD (eT s 0)&&mC uV s && !(kws.any fun k=>decide (k=s))):=by unfold dC;cases h:mC uV s with|false=>simp|true=>rw [Xw s h]
def lI (o:List g6) (c:UInt8):List g6:=if c=47 then o++[⟨#[]⟩] else o.set (o.length-1) ((o[o.length-1]?).getD ⟨#[]⟩++⟨#[c]⟩)
def lJ (l:List UInt8):List g6:=l.foldl lI [⟨#[]⟩]
def xx (cur:List UInt8):List (List UInt8)->List (List UInt8)
 | []=>[cur]
 | h :: t=>(cur++h) :: t
def PR (l:List UInt8):g6:=⟨l.toArray⟩
theorem DZ (r:List UInt8):Lib.split (47 :: r) [47]=[] :: Lib.split r [47]:=by
 have ic:Lib.index (47 :: r) [47]=0:=by rw [Lib.index];simp [List.isPrefixOf]
 unfold Lib.split;rw [Lib.count_cons_eq,VQ,Lib.splitK,ic];simp
theorem D0 (b:UInt8) (r:List UInt8) (h:b≠47):Lib.split (b :: r) [47]=xx [b] (Lib.split r [47]):=by
 have hp:([47]:List UInt8).isPrefixOf (b :: r)=false:=by simp [List.isPrefixOf,Ne.symm h]
 have ic:Lib.index (b :: r) [47]=if Lib.index r [47] == -1 then -1 else Lib.index r [47]+1:=by rw [Lib.index,hp];simp
 unfold Lib.split;rw [Lib.count_cons_ne b 47 r h];cases hk:Lib.count r [47] with|zero=>rfl|succ k =>rw [Lib.splitK,Lib.splitK,ic];by_cases hm:Lib.index r [47] = -1;(·rw [hm];rfl);have fP:=Lib.index_ge r [47];obtain⟨j,hj⟩:∃ j:Nat,Lib.index r [47]=j:=⟨(Lib.index r [47]).toNat,by omega⟩;(have h1:((j:Int) == -1)=false:=by rw [beq_eq_false_iff_ne];omega);(have h2:((j:Int)+1 == -1)=false:=by rw [beq_eq_false_iff_ne];omega);(have h3:((j:Int)+1).toNat=j+1:=by omega);rw [hj,h1];simp only [bw,if_false,h2,h3,gx,xx,af,ah,fI];rw [show j+1+(0+1)=(j+(0+1))+1 by omega,aa0];rfl
theorem Xx (a b:List UInt8):PR a++PR b=PR (a++b):=by apply avL;rw [awf];simp [PR]
theorem GH:∀ (l:List UInt8) (pre:List g6) (cur:List UInt8),l.foldl lI (pre++[PR cur])=pre++(xx cur (Lib.split l [47])).map PR
 | [],pre,cur=>by
  have:Lib.split [] [47]=[[]]:=rfl
  rw [this];simp [xx]
 | b :: r,pre,cur=>by
  rw [kZ]
  by_cases h:b=47
  ·subst h
   have hs:lI (pre++[PR cur]) 47=(pre++[PR cur])++[PR []]:=by simp [lI,PR]
   rw [hs,GH r,DZ]
   have:xx [] (Lib.split r [47])=Lib.split r [47]:=by
    cases hq:Lib.split r [47] with
    | nil=>exfalso;unfold Lib.split at hq;cases hk:Lib.count r [47] <;> rw [hk] at hq <;> rw [Lib.splitK] at hq <;> first|cases hq|(split at hq <;> cases hq)
    | cons a t=>rfl
   rw [this]
   simp [xx]
  have hs:lI (pre++[PR cur]) b=pre++[PR (cur++[b])]:=by
   unfold lI
   rw [g5 h,ab,avO,aeY]
   rw [bm (aA _),dW]
   simp only [aI,fS]
   rw [eR _ _ (aA _),dW,kP]
   exact yJ (fun z=>pre++[z]) (Xx cur [b])
  rw [hs,GH r,D0 b r h]
  cases hq:Lib.split r [47] with
  | nil=>simp [xx]
  | cons a t=>simp [xx]
theorem PS (s:g6):PR s.data.toList=s:=by obtain⟨⟨l⟩⟩:=s;rfl
theorem tI (s:g6):lJ (gu s)=pieces s:=by
 have h:=GH (gu s) [] [];have h2:xx [] (Lib.split (gu s) [47])=Lib.split (gu s) [47]:=by cases hq:Lib.split (gu s) [47] with|nil=>(exfalso;unfold Lib.split at hq;cases hk:Lib.count (gu s) [47] <;> rw [hk] at hq <;> rw [Lib.splitK] at hq <;> first|cases hq|(split at hq <;> cases hq))|cons a t=>rfl
 rw [h2,aq] at h;have h3:=Lib.splitB_data ⟨#[47]⟩ 0 (Lib.countB s ⟨#[47]⟩) s;have h4:(pieces s).map (fun x=>x.data.toList)=Lib.split (gu s) [47]:=h3;rw [show lJ (gu s)=_ from h,<- h4,avP];conv=>rhs;rw [<- List.map_id (pieces s)]
 exact AF fun x _=>PS x
theorem xy (l:List UInt8) (c:UInt8):lJ (l++[c])=lI (lJ l) c:=by unfold lJ;rw [avQ];rfl
theorem yP (s:g6):tG s=(decide (1<=s.size)&&decide (eT s 0=118)):=by obtain⟨⟨l⟩⟩:=s;cases l with|nil=>rfl|cons b l =>have hb:eT ⟨⟨b :: l⟩⟩ 0=(b.toNat:Int):=rfl;have hs:(⟨⟨b :: l⟩⟩:g6).size=l.length+1:=rfl;rw [hb,hs];show ((118:UInt8)==b&&([]:List UInt8).isPrefixOf l)=_;simp only [List.isPrefixOf_nil_left,aJ];rw [jA];simp only [beq_iff_eq,aG,decide_eq_true_eq];constructor;(·rintro rfl;exact⟨by omega,rfl⟩);rintro⟨-,h⟩;apply avR.1;(have:b.toNat=118:=by omega);rw [this];rfl
theorem vY {s:g6} (h:tG s=true) (k:Nat):(mY s)[k]?=s[k+1]?:=by
 have hd:(mY s).data.toList=s.data.toList.drop 1:=by show Lib.trimPrefix s.data.toList [118]=_;unfold Lib.trimPrefix;rw [gH (show Lib.hasPrefix s.data.toList [118]=true from h)];rfl
 have g:∀ (t:g6) (j:Nat),t[j]?=t.data.toList[j]?:=fun t j=>by obtain⟨⟨l⟩⟩:=t;by_cases hj:j<l.length;(·rw [getElem?_pos (⟨⟨l⟩⟩:g6) j (by exact hj)];show some _=l[j]?;rw [bf hj];rfl);rw [getElem?_neg (⟨⟨l⟩⟩:g6) j (by exact hj)];show none=l[j]?;rw [ep (by omega)]
 rw [g,g,hd,av9,VQ]
theorem tJ {s:g6} (h:tG s=true):(mY s).size=s.size-1:=by
 have hd:(mY s).data.toList=s.data.toList.drop 1:=by show Lib.trimPrefix s.data.toList [118]=_;unfold Lib.trimPrefix;rw [gH (show Lib.hasPrefix s.data.toList [118]=true from h)];rfl
 rw [Lib.size_eq,hd,eL,<- Lib.size_eq]
theorem PT {s:g6} (h:tG s=true) (k:Nat):eT (mY s) k=eT s (k+1):=by unfold eT;rw [vY h]
def At (s:g6):Bool:=!(decide (s.size<2)||decide (4<s.size) || !decide (eT s 0=118)||(decide (eT s 1=48)&&decide (2<s.size)))
theorem oU (s:g6):gC s=(At s&&mC lh (mY s)):=by unfold gC At;cases hv:tG s with|false =>rw [yP] at hv;by_cases h1:s.size<2 <;> simp_all <;> (intros;omega)|true =>have h1:=tJ hv;have h2:=PT hv 0;rw [yP] at hv;simp only [aG,decide_eq_true_eq] at hv;unfold tH;rw [h1,h2];cases mC lh (mY s);(·simp);rw [jA];simp [hv.2];omega
end Go.Proofs.YtfbbfmcggbapoaaGreatDoor
end
section
namespace Go.Proofs.YtfbbfmcggbapoaaGreatDoor
open Go.Eng
variable [bJ]
open Nat renaming reduceAdd -> zA, reduceLT -> zB, reduceLeDiff -> zC, reduceMul -> zD, reduceEqDiff -> zE, reduceSub -> zF
section
theorem GI  : Cn 159 [] (.slice (kws.map str)):=by refine cM [] 2 [.tmp 0] Tryz.func159 Tryz.call159 fun K hK=>?_;simp only [go_sem];exact hK _ rfl
section
attribute [local go_sem] aC
theorem Cv (l:List g6) (s:g6) (hl:l.length<=1048576):Cn 158 [.slice (l.map str),str s] (bl (l.any fun k=>decide (k=s))):=by
 refine cM [] 18 [.tmp 4] Tryz.func158 Tryz.call158 fun K hK=>?_;simp only [go_sem];refine di tt_ok [] [5] 0 [0,1] (fun vs=>((l.length:Int)-Go.Eng.intOf (vs.headD .undef)).toNat) (fun vs=>∃ i:Nat,vs=[num i]/\i<=l.length/\∀ j<i,∀ x,l[j]?=some x->decide (x=s)=false) (by omega) (by simp only [go_sem]) (⟨0,rfl,aY _,fun j hj=>absurd hj (bR j)⟩) fun vs hI Z1 dm=>?_;obtain⟨i,rfl,hi,cZ⟩:=hI;simp only [go_sem];apply bE <;> intro kj;·have bH:=jq kj;have hw:=bj i (by omega);obtain⟨x,hx⟩:=gA bH;simp only [hw,ae,hx,go_sem];apply bE <;> intro oq;(·have cj:true=l.any fun k=>decide (k=s):=(ka hx (by simpa [cY] using oq)).symm;simp only [hw,ae,hx,go_sem];exact hK _ (yJ bl cj));simp only [hw,ae,hx,go_sem];refine dm _ (fN (by omega) (by simp only [hw,ae,hx,go_sem]) ?_ ?_) <;> simp only [eO,lk,reduceIte,zE];(·refine⟨i+1,rfl,bH,fun j hj=>?_⟩;(rcases bn j i with h|h);(·exact cZ j h);(obtain rfl:j=i:=by omega);intro y hy;rw [hx] at hy;cases hy;simpa [cY] using oq);simp only [Go.Eng.intOf,a7];omega
 have fP:=ki kj;have cj:false=l.any fun k=>decide (k=s):=(any_none fun j hj=>cZ j (by omega)).symm;simp only [go_sem];exact hK _ (yJ bl cj)
end
theorem je (s:g6):Cn 160 [str s] (bl (dC s)):=by
 refine cM [] 26 [.tmp 2] Tryz.func160 Tryz.call160 fun K hK=>?_;have rJ:ak.underlying 9=some .string:=kr;have sl:=zY;simp only [sl,go_sem];apply bE <;> intro z8 <;> simp only [sl,go_sem];·apply bE <;> intro Jk;(·obtain⟨v0,kG⟩:=er (s:=s) (i:=0) (by have:=qB z8;omega);have dO:=eM (P:=ak) s rJ .i64 (0:Int) (by omega) (c:=v0) (show s[((0:Nat):Int).toNat]?=some v0 from kG);have lC:eT s 0=v0.toNat:=ff kG;simp only [dO,sl,go_sem];refine cL (yN _) ?_;repeat' (simp only [dO,sl,go_sem];first|apply bE <;> intro hg|refine cL (Jb s (by have:=qB Jk;omega)) ?_|refine cL (GI) ?_|refine cL (Cv kws s (by decide)) ?_|(exact hK _ (yJ bl (by rw [Cu];simp_all <;> (intros;omega))))));simp only [sl,go_sem];exact hK _ (yJ bl (by rw [Cu];simp_all <;> (intros;omega)))
 exact hK _ (yJ bl (by rw [Cu];simp_all <;> (intros;omega)))
theorem Jl (s:g6) (hs:s.size<=1048576):Cn 230 [str s] (bl (uW s)):=by
 refine cM [] 24 [.tmp 2] Tryz.func230 Tryz.call230 fun K hK=>?_;have rJ:ak.underlying 9=some .string:=kr;have sl:=zY;simp only [sl,go_sem];refine di tt_ok [] [3] 0 [0] (fun vs=>((s.size:Int)-Go.Eng.intOf (vs.headD .undef)).toNat) (fun vs=>∃ i:Nat,vs=[num i]/\i<=s.size/\∀ j<i,∀ b,s[j]?=some b->DX b.toNat=true) (by omega) (by simp only [sl,go_sem]) (⟨0,rfl,aY _,fun j hj=>absurd hj (bR j)⟩) fun vs hI Z1 dm=>?_;obtain⟨i,rfl,hi,lH⟩:=hI;simp only [sl,go_sem];apply bE <;> intro NJ;·have bH:=jq NJ;have hw:=bj i (by omega);obtain⟨c,su⟩:=er (s:=s) (i:=i) bH;have ic:=eM (P:=ak) s rJ .i64 (i:Int) (by omega) (c:=c) (show s[((i:Nat):Int).toNat]?=some c from su);simp only [hw,ic,sl,go_sem];refine cL (yN _) ?_;simp only [hw,ic,sl,go_sem];apply bE <;> intro ap4 <;> simp only [hw,ic,sl,go_sem];(·refine cL (ux _) ?_;simp only [hw,ic,sl,go_sem];apply bE <;> intro yQ;(·(have cj:false=uW s:=by unfold uW;rw [oT (p:=DX) su (by unfold DX;simp_all),aO]);simp only [hw,ic,sl,go_sem];exact hK _ (yJ bl cj));simp only [hw,ic,sl,go_sem];refine dm _ (fN (by omega) (by simp only [hw,ic,sl,go_sem]) ?_ ?_) <;> simp only [eO,lk,reduceIte,zE];(·refine⟨i+1,rfl,bH,fun j hj b hb=>?_⟩;(rcases bn j i with h|h);(·exact lH j h b hb);(obtain rfl:j=i:=by omega);rw [su] at hb;cases hb;unfold DX;simp_all);simp only [Go.Eng.intOf,a7];omega);refine dm _ (fN (by omega) (by simp only [hw,ic,sl,go_sem]) ?_ ?_) <;> simp only [eO,lk,reduceIte,zE];(·refine⟨i+1,rfl,bH,fun j hj b hb=>?_⟩;(rcases bn j i with h|h);(·exact lH j h b hb);(obtain rfl:j=i:=by omega);rw [su] at hb;cases hb;unfold DX;simp_all);simp only [Go.Eng.intOf,a7];omega
 have fP:=ki NJ;have cZ:mC DX s=true:=qL fun j hj b hb=>lH j (by omega) b hb;have cj:dC s=uW s:=by unfold uW;rw [cZ,aJ]
 simp only [sl,go_sem];refine cL (je s) ?_;simp only [sl,go_sem];exact hK _ (yJ bl cj)
end
theorem Jm (t:g6):∀ k,(∀ j<k,lh (eT t j)=true)->0<=jC t k/\jC t k<10 ^ k
 | 0,_=>⟨cn _,by simp [jC]⟩
 | k+1,h=>by
  obtain⟨h1,h2⟩:=Jm t k fun j hj=>h j (by omega)
  have h3:=h k (by omega)
  unfold lh at h3
  simp only [aG,decide_eq_true_eq] at h3
  rw [jC,Int.pow_succ]
  omega
theorem EL {t:g6} {k:Nat} (hk:k<=3) (h:∀ j<k,lh (eT t j)=true):0<=jC t k/\jC t k<1000:=by
 obtain⟨h1,h2⟩:=Jm t k h;refine⟨h1,awC h2 ?_⟩;have:k=0\/k=1\/k=2\/k=3:=by omega
 rcases this with rfl|rfl|rfl|rfl <;> decide
theorem L1 {s:g6} (h:At s=true):tG s=true/\2<=s.size/\s.size<=4:=by unfold At at h;rw [yP];by_cases h1:s.size<2 <;> by_cases h2:4<s.size <;> simp_all <;> omega
theorem S9 {o:List g6} {z:g6} {c:UInt8} (h:o[o.length-1]?=some z) (hc:c≠47):lI o c=o.set (o.length-1) (z++⟨#[c]⟩):=by unfold lI;rw [g5 hc,h];rfl
theorem EM {s:g6} {i:Nat} {c:UInt8} (h:s[i]?=some c):(gu s).take (i+1)=(gu s).take i++[c]:=by unfold gu;rw [cg,tD h];rfl
theorem Jn (s:g6):Cn 231 [str s] (num (if gC s=true then pb s else -1)):=by
 refine cM [] 48 [.tmp 2] Tryz.func231 Tryz.call231 fun K hK=>?_;have rJ:ak.underlying 9=some .string:=kr;have sl:=zY;have hT5:ak.underlying 5=some (.int .u8):=kr;have hT3:ak.underlying 3=some (.int .i64):=kr;have cv:=fun (k:IntKind) (n:Int)=>Nc (P:=ak) (src:=5) (dst:=3) hT5 hT3 k n;simp only [sl,cv,go_sem];apply bE <;> intro z8;·(have lH:gC s=false:=by rw [oU];unfold At;simp_all <;> (intros;omega));(have cj : -1=if gC s=true then pb s else -1:=by rw [lH];rfl);simp only [sl,cv,go_sem];exact hK _ (yJ num cj)
 simp only [sl,cv,go_sem];apply bE <;> intro Jk;·(have lH:gC s=false:=by rw [oU];unfold At;simp_all <;> (intros;omega));(have cj : -1=if gC s=true then pb s else -1:=by rw [lH];rfl);simp only [sl,cv,go_sem];exact hK _ (yJ num cj)
 have sn:2<=s.size:=by simp_all <;> omega
 obtain⟨v0,kG⟩:=er (s:=s) (i:=0) (by omega);have dO:=eM (P:=ak) s rJ .i64 (0:Int) (by omega) (c:=v0) (show s[((0:Nat):Int).toNat]?=some v0 from kG);have lC:eT s 0=v0.toNat:=ff kG;simp only [dO,sl,cv,go_sem];apply bE <;> intro Ta;·(have lH:gC s=false:=by rw [oU];unfold At;simp_all <;> (intros;omega));(have cj : -1=if gC s=true then pb s else -1:=by rw [lH];rfl);simp only [dO,sl,cv,go_sem];exact hK _ (yJ num cj)
 obtain⟨v1,Aa⟩:=er (s:=s) (i:=1) (by omega);have jZ:=eM (P:=ak) s rJ .i64 (1:Int) (by omega) (c:=v1) (show s[((1:Nat):Int).toNat]?=some v1 from Aa);have j8:eT s 1=v1.toNat:=ff Aa;simp only [dO,jZ,sl,cv,go_sem];apply bE <;> intro amD;·simp only [dO,jZ,sl,cv,go_sem];apply bE <;> intro pc;(·(have lH:gC s=false:=by rw [oU];unfold At;simp_all <;> (intros;omega));(have cj : -1=if gC s=true then pb s else -1:=by rw [lH];rfl);simp only [dO,jZ,sl,cv,go_sem];exact hK _ (yJ num cj));(have hvh:At s=true:=by unfold At;simp_all <;> (intros;omega));obtain⟨hv,sn,hs4⟩:=L1 hvh;obtain⟨t,ht⟩:=gy (mY s);(have htz:t.size=s.size-1:=by rw [ht];exact tJ hv);(have KL:gC s=mC lh t:=by rw [oU,hvh,ht];rfl);simp only [dO,jZ,sl,cv,go_sem];refine di tt_ok [] [4,3] 0 [0,27] (fun vs=>((s.size:Int)-Go.Eng.intOf (vs.headD .undef)).toNat) (fun vs=>∃ i:Nat,vs=[num i,num (jC t (i-1))]/\1<=i/\i<=s.size/\∀ j<i-1,lh (eT t j)=true) (by omega) (by simp only [dO,jZ,sl,cv,go_sem]) (⟨1,rfl,aA _,by omega,fun j hj=>absurd hj (bR j)⟩) fun vs hI Z1 dm=>?_;obtain⟨i,rfl,u9,hi,lH⟩:=hI;simp only [dO,jZ,sl,cv,go_sem];apply bE <;> intro Au;(·have bH:=jq Au;have hw:=bj i (by omega);obtain⟨c,su⟩:=er (s:=s) (i:=i) bH;have ic:=eM (P:=ak) s rJ .i64 (i:Int) (by omega) (c:=c) (show s[((i:Nat):Int).toNat]?=some c from su);(have hct:t[i-1]?=some c:=by rw [ht,vY hv,awD u9];exact su);have hbt:eT t (i-1)=c.toNat:=ff hct;simp only [dO,jZ,hw,ic,sl,cv,go_sem];refine cL (ux _) ?_;simp only [dO,jZ,hw,ic,sl,cv,go_sem];apply bE <;> intro ot;(·(have hdf:lh (c.toNat:Int)=false:=by simpa using ot);(have LS:gC s=false:=by rw [KL];exact oT hct hdf);(have cj : -1=if gC s=true then pb s else -1:=by rw [LS];rfl);simp only [dO,jZ,hw,ic,sl,cv,go_sem];exact hK _ (yJ num cj));(have Q8:lh (c.toNat:Int)=true:=by simpa using ot);have Tb:=Q8;unfold lh at Tb;simp only [aG,decide_eq_true_eq] at Tb;obtain⟨hd0,Wt⟩:=EL (t:=t) (k:=i-1) (by omega) lH;(have hu:IntKind.u8.wrap ((c.toNat:Int)-48)=(c.toNat:Int)-48:=by have h:=c.toNat_lt;simp only [IntKind.wrap,IntKind.bits,IntKind.signed];simp;omega);have Cs:IntKind.i64.wrap ((c.toNat:Int)-48)=(c.toNat:Int)-48:=IntWalk.i64_in _ (by omega);have Ct:IntKind.i64.wrap (10*jC t (i-1))=10*jC t (i-1):=IntWalk.i64_in _ (by omega);(have vk:IntKind.i64.wrap (10*jC t (i-1)+((c.toNat:Int)-48))=jC t i:=by (conv=>rhs;rw [show i=i-1+1 by omega,jC,hbt]);exact IntWalk.i64_in _ (by omega));simp only [dO,jZ,hw,ic,hu,Cs,Ct,vk,sl,cv,go_sem];refine dm _ (fN (by omega) (by simp only [dO,jZ,hw,ic,hu,Cs,Ct,vk,sl,cv,go_sem]) ?_ ?_) <;> simp only [eO,lk,reduceIte,zE];(·refine⟨i+1,by rw [aeY],by omega,bH,fun j hj=>?_⟩;rw [aeY] at hj;(rcases bn j (i-1) with h|h);(·exact lH j h);(obtain rfl:j=i-1:=by omega);rw [hbt];simpa using ot);simp only [Go.Eng.intOf,a7];omega);have fP:i=s.size:=avN hi (akf (by simpa using Au));(have Ji:mC lh t=true:=qL fun j hj b hb=>by have h:=lH j (by omega);rwa [ff hb] at h);(have cj:jC t (i-1)=if gC s=true then pb s else -1:=by rw [KL,Ji,gH rfl];unfold pb;rw [<- ht,htz,fP]);simp only [dO,jZ,sl,cv,go_sem];exact hK _ (yJ num cj)
 have hvh:At s=true:=by unfold At;simp_all <;> (intros;omega)
 obtain⟨hv,sn,hs4⟩:=L1 hvh;obtain⟨t,ht⟩:=gy (mY s);have htz:t.size=s.size-1:=by rw [ht];exact tJ hv
 have KL:gC s=mC lh t:=by rw [oU,hvh,ht];rfl
 simp only [dO,jZ,sl,cv,go_sem];refine di tt_ok [] [4,3] 0 [0,27] (fun vs=>((s.size:Int)-Go.Eng.intOf (vs.headD .undef)).toNat) (fun vs=>∃ i:Nat,vs=[num i,num (jC t (i-1))]/\1<=i/\i<=s.size/\∀ j<i-1,lh (eT t j)=true) (by omega) (by simp only [dO,jZ,sl,cv,go_sem]) (⟨1,rfl,aA _,by omega,fun j hj=>absurd hj (bR j)⟩) fun vs hI Z2 lR=>?_;obtain⟨i,rfl,u9,hi,lH⟩:=hI;simp only [dO,jZ,sl,cv,go_sem];apply bE <;> intro Au;·have bH:=jq Au;have hw:=bj i (by omega);obtain⟨c,su⟩:=er (s:=s) (i:=i) bH;have ic:=eM (P:=ak) s rJ .i64 (i:Int) (by omega) (c:=c) (show s[((i:Nat):Int).toNat]?=some c from su);(have hct:t[i-1]?=some c:=by rw [ht,vY hv,awD u9];exact su);have hbt:eT t (i-1)=c.toNat:=ff hct;simp only [dO,jZ,hw,ic,sl,cv,go_sem];refine cL (ux _) ?_;simp only [dO,jZ,hw,ic,sl,cv,go_sem];apply bE <;> intro ot;(·(have hdf:lh (c.toNat:Int)=false:=by simpa using ot);(have LS:gC s=false:=by rw [KL];exact oT hct hdf);(have cj : -1=if gC s=true then pb s else -1:=by rw [LS];rfl);simp only [dO,jZ,hw,ic,sl,cv,go_sem];exact hK _ (yJ num cj));(have Q8:lh (c.toNat:Int)=true:=by simpa using ot);have Tb:=Q8;unfold lh at Tb;simp only [aG,decide_eq_true_eq] at Tb;obtain⟨hd0,Wt⟩:=EL (t:=t) (k:=i-1) (by omega) lH;(have hu:IntKind.u8.wrap ((c.toNat:Int)-48)=(c.toNat:Int)-48:=by have h:=c.toNat_lt;simp only [IntKind.wrap,IntKind.bits,IntKind.signed];simp;omega);have Cs:IntKind.i64.wrap ((c.toNat:Int)-48)=(c.toNat:Int)-48:=IntWalk.i64_in _ (by omega);have Ct:IntKind.i64.wrap (10*jC t (i-1))=10*jC t (i-1):=IntWalk.i64_in _ (by omega);(have vk:IntKind.i64.wrap (10*jC t (i-1)+((c.toNat:Int)-48))=jC t i:=by (conv=>rhs;rw [show i=i-1+1 by omega,jC,hbt]);exact IntWalk.i64_in _ (by omega));simp only [dO,jZ,hw,ic,hu,Cs,Ct,vk,sl,cv,go_sem];refine lR _ (fN (by omega) (by simp only [dO,jZ,hw,ic,hu,Cs,Ct,vk,sl,cv,go_sem]) ?_ ?_) <;> simp only [eO,lk,reduceIte,zE];(·refine⟨i+1,by rw [aeY],by omega,bH,fun j hj=>?_⟩;rw [aeY] at hj;(rcases bn j (i-1) with h|h);(·exact lH j h);(obtain rfl:j=i-1:=by omega);rw [hbt];simpa using ot);simp only [Go.Eng.intOf,a7];omega
 have fP:i=s.size:=avN hi (akf (by simpa using Au));have Ji:mC lh t=true:=qL fun j hj b hb=>by have h:=lH j (by omega);rwa [ff hb] at h
 have cj:jC t (i-1)=if gC s=true then pb s else -1:=by rw [KL,Ji,gH rfl];unfold pb;rw [<- ht,htz,fP]
 simp only [dO,jZ,sl,cv,go_sem];exact hK _ (yJ num cj)
section
theorem Xy (c:UInt8):strOfNums [(c.toNat:Int)]=⟨#[c]⟩:=by unfold strOfNums;simp
theorem PU {s:g6} {i:Nat} {c:UInt8} {xs:List g6} {y:g6} (hc:s[i]?=some c) (hx:lJ ((gu s).take i)=xs++[y]) (h:(c.toNat:Int)=47):lJ ((gu s).take (i+1))=(xs++[y])++[⟨#[]⟩]:=by have e:c=47:=avR.1 (by rw [show (47:UInt8).toNat=47 from rfl];omega);rw [EM hc,xy,hx,e];rfl
theorem Tc {s:g6} {i:Nat} {c:UInt8} {xs:List g6} {y:g6} (hc:s[i]?=some c) (hx:lJ ((gu s).take i)=xs++[y]) (h:¬ (c.toNat:Int)=47):lJ ((gu s).take (i+1))=xs++[y++⟨#[c]⟩]:=by have e:c≠47:=fun e=>h (by rw [e];rfl);rw [EM hc,xy,hx,S9 (z:=y) (by simp) e];simp
theorem Td {s:g6} (h:dH s=true):∃ j:Nat,j<s.size/\s[j]?=some 47:=by
 unfold dH at h;simp only [aG,decide_eq_true_eq] at h;obtain⟨⟨-,h2⟩,-⟩:=h;rw [lB] at h2;have hc:Lib.countB s ⟨#[47]⟩=s.data.toList.count 47:=by unfold Lib.countB;exact Lib.count_one 47 s.data.toList
 have hm:(47:UInt8)∈s.data.toList:=List.count_pos_iff.1 (by omega);obtain⟨j,hj⟩:=br.1 hm;have DG:j<s.size:=by have:=(az.1 hj).1;simpa using this
 obtain⟨c,su⟩:=er DG;have:=tD su;rw [hj] at this;cases this;exact⟨j,DG,su⟩
theorem L2 (s:g6):0<(pieces s).length:=by rw [lB];omega
theorem L3 {s z:g6} (h:z∈pieces s):z.size<=s.size:=by
 have key:∀ (l:List UInt8) (o:List g6) (n:Nat),(∀ x∈o,x.size<=n)->∀ x∈l.foldl lI o,x.size<=n+l.length:=by intro l;induction l with|nil=>intro o n h x hx;simpa using h x hx|cons b l ih =>intro o n h x hx;rw [kZ] at hx;have:=ih (lI o b) (n+1) (fun y hy=>by unfold lI at hy;split at hy;(·(rcases ey.1 hy with hy|hy);(·exact awv (h y hy));rw [ei.1 hy];exact aY _);(rcases awS hy with hy|hy);(·exact awv (h y hy));rw [hy,avM];have hs:(⟨#[b]⟩:g6).size=1:=rfl;(have:((o[o.length-1]?).getD ⟨#[]⟩).size<=n:=by cases hq:o[o.length-1]? with|none=>exact aY _|some q=>exact h q (aw hq));omega) x hx;rw [af];omega
 rw [<- tI] at h;have:=key (gu s) [⟨#[]⟩] 0 (fun x hx=>by rw [ei.1 hx];exact aY _) z h;rw [dc] at this;exact this
theorem NK {z:g6} (h:gC z=true):0<=pb z:=by rw [oU] at h;simp only [aG] at h;obtain⟨-,-,h4⟩:=L1 h.1;exact (vX h.2 _ (aA _)).1
theorem Te (s:g6) (hs:s.size<=1048576):Cn 229 [str s] (.slice ((pieces s).map str)):=by
 refine cM [] 37 [.tmp 2] Tryz.func229 Tryz.call229 fun K hK=>?_;have rJ:ak.underlying 9=some .string:=kr;have sl:=zY;have Q9:=fun (n:Int)=>HT (P:=ak) (mem:=[]) (s:=125) (d:=9) (e:=5) (rows:=[.sc (.int .u8 n)]) (ns:=[n]) kr kr rJ rfl;have Cw:∀ c:Int,(strOfNums [c]).size=1:=fun c=>rfl;simp only [sl,Q9,go_sem];refine ij tt_ok [] (fun a:Nat×Nat×List g6×g6=>[(0,str s),(3,.ms 0 a.2.1 0 (a.2.1+1)),(4,num a.1)]) (fun a:Nat×Nat×List g6×g6=>[.rows a.2.1 1 ((a.2.2.1++[a.2.2.2]).map str)]) (fun a=>s.size-a.1) (fun a=>a.1<=s.size/\a.2.2.1.length=a.2.1/\a.2.1<=a.1/\a.2.2.2.size<=a.1/\(∀ x∈a.2.2.1,x.size<=s.size)/\lJ ((gu s).take a.1)=a.2.2.1++[a.2.2.2]) ((0,0,[],⟨#[]⟩)) 1 (da (by omega) (by simp only [sl,Q9,bo,dR,aq,bQ,go_sem] <;> rfl)) (⟨aY _,rfl,aA _,aA _,(fun x hx=>by cases hx),rfl⟩) ?_;rintro⟨i,k,xs,y⟩ ⟨hi,H5,hki,hyi,cZ,Xz⟩;try dsimp only at hi H5 hki hyi cZ Xz
 try dsimp only
 intro Z1 dm;simp only [sl,Q9,go_sem];apply bE <;> intro kj;·have bH:=jq kj;have hw:=bj i (by omega);obtain⟨c,su⟩:=er (s:=s) (i:=i) bH;have ic:=eM (P:=ak) s rJ .i64 (i:Int) (by omega) (c:=c) (show s[((i:Nat):Int).toNat]?=some c from su);have jk:IntKind.i64.wrap (((k+1:Nat):Int)-1)=((k:Nat):Int):=Ci _ k (by omega) (by omega);(have gW:((k:Nat):Int)<((k+1:Nat):Int):=by omega);(have hgy:(xs++[y])[k]?=some y:=by rw [bm (by omega),H5,dW];rfl);(have uy:k+1+1<=34359738368:=by omega);have hsa:=fun a b=>wU ak 9 a b y (strOfNums [(c.toNat:Int)]) (by rw [Cw,show IntKind.i64.max=9223372036854775807 from rfl];omega);simp only [hw,ic,jk,gW,uy,H5,ae,hgy,hsa,aC,ab,af,ah,dc,sl,Q9,go_sem];apply bE <;> intro mc;(·let nv:Nat×Nat×List g6×g6:=(i+1,k+1,xs++[y],⟨#[]⟩);(have r9:∀ x∈nv.2.2.1,x.size<=s.size:=fun x hx=>by (rcases ey.1 hx with h|h);(·exact cZ x h);rw [ei.1 h];omega);have Tf:lJ ((gu s).take nv.1)=nv.2.2.1++[nv.2.2.2]:=PU su Xz (by simpa using mc);simp only [hw,ic,jk,gW,uy,H5,ae,hgy,hsa,aC,ab,af,ah,dc,sl,Q9,go_sem];refine dm _ ⟨nv,?_,?_,da (by omega) (by (simp [nv,Gt,lk,tz,xq,aQ,a6,fa];first|done|(rw [eR _ _ (by rw [aC];omega),aC,H5,dW];rfl)))⟩;(·refine⟨bH,?_,?_,?_,?_⟩;(·dsimp only [nv];first|exact H5|(rw [ab,H5];rfl));(·dsimp only [nv];omega);(·dsimp only [nv];first|exact aY _|(rw [avM,Cw];omega));exact⟨r9,Tf⟩);dsimp only [nv];omega);let nv:Nat×Nat×List g6×g6:=(i+1,k,xs,y++strOfNums [(c.toNat:Int)]);have r9:∀ x∈nv.2.2.1,x.size<=s.size:=cZ;(have Tf:lJ ((gu s).take nv.1)=nv.2.2.1++[nv.2.2.2]:=by show _=xs++[y++strOfNums [(c.toNat:Int)]];rw [Xy];exact Tc su Xz (by simpa using mc));simp only [hw,ic,jk,gW,uy,H5,ae,hgy,hsa,aC,ab,af,ah,dc,sl,Q9,go_sem];refine lr [pN,pN,pN,pN,pN,pN,pN,pN,pR,pR,pN,pN,pN,pN,pN,pN,pR,⟨.w,0,[],[],[]⟩] 1 ?_;simp only [hw,ic,jk,gW,uy,H5,ae,hgy,hsa,aC,ab,af,ah,dc,sl,Q9,go_sem];refine dm _ ⟨nv,?_,?_,da (by omega) (by (simp [nv,Gt,lk,tz,xq,aQ,a6,fa];first|done|(rw [eR _ _ (by rw [aC];omega),aC,H5,dW];rfl)))⟩;(·refine⟨bH,?_,?_,?_,?_⟩;(·dsimp only [nv];first|exact H5|(rw [ab,H5];rfl));(·dsimp only [nv];omega);(·dsimp only [nv];first|exact aY _|(rw [avM,Cw];omega));exact⟨r9,Tf⟩);dsimp only [nv];omega
 have fP:=ki kj;have L4:pieces s=xs++[y]:=by rw [<- tI,<- Xz,b8];exact akf fP
 simp only [sl,Q9,go_sem];exact SO (by simp [H5]) (hK _ (by rw [L4]))
section
attribute [local go_sem] aC ae
theorem PV (s:g6) (hs:s.size<=1048576):Cn 165 [str s] (.fZ [num (kH s),num (kc s)]):=by
 refine cM [] 39 [.tmp 2,.tmp 3] Tryz.func165 Tryz.call165 fun K hK=>?_;have sl:=zY;simp only [sl,go_sem];apply bE <;> intro kj
 ·have lH:dH s=false:=by unfold dH;simp_all <;> (intros;omega)
  simp only [sl,go_sem];refine hK _ ?_
  first
   | (unfold kH kc;rw [lH];rfl)
   | (unfold kH kc;rw [iq,wE];simp_all;done)
   | (unfold kH kc;rw [iq,wE];simp_all;rfl)
 simp only [sl,go_sem];refine cL (Te s (by omega)) ?_;obtain⟨P,hP⟩:=gy (pieces s);have hPl:=EJ s;have hP1:=L2 s;have hPz:∀ x∈P,x.size<=s.size:=fun x hx=>L3 (hP ▸ hx);rw [<- hP];rw [<- hP] at hPl hP1;obtain⟨z,hz⟩:=gB P (P.length-1) (by omega);have wE:EI s=z:=Jj (by rw [<- hP];exact hz);have jk:IntKind.i64.wrap ((P.length:Int)-1)=((P.length-1:Nat):Int):=Ci _ _ (by omega) (by omega);simp only [hz,jk,sl,go_sem];refine di tt_ok [] [5] 0 [4,9] (fun vs=>((P.length:Int)-Go.Eng.intOf (vs.headD .undef)).toNat) (fun vs=>∃ i:Nat,vs=[num i]/\i<=P.length/\∀ j<i,∀ x,P[j]?=some x->uW x=true) (by omega) (by simp only [hz,jk,sl,go_sem]) (⟨0,rfl,aY _,fun j hj=>absurd hj (bR j)⟩) fun vs hI Z1 dm=>?_;obtain⟨i,rfl,hi,cZ⟩:=hI;simp only [hz,jk,sl,go_sem];apply bE <;> intro mc
 ·have bH:=jq mc;have hw:=bj i (by omega);obtain⟨x,hx⟩:=gA bH;simp only [hz,jk,hw,hx,sl,go_sem];refine cL (Jl x (by have:=hPz x (aw hx);omega)) ?_;simp only [hz,jk,hw,hx,sl,go_sem];apply bE <;> intro PW
  ·have lH:dH s=false:=by have ha:P.all uW=false:=L0 hx (by simpa using PW);unfold dH;rw [<- hP,ha];simp
   simp only [hz,jk,hw,hx,sl,go_sem];refine hK _ ?_
   first
    | (unfold kH kc;rw [lH];rfl)
    | (unfold kH kc;rw [iq,wE];simp_all;done)
    | (unfold kH kc;rw [iq,wE];simp_all;rfl)
  simp only [hz,jk,hw,hx,sl,go_sem];refine dm _ (fN (by omega) (by simp only [hz,jk,hw,hx,sl,go_sem]) ?_ ?_) <;> simp only [eO,lk,reduceIte,zE];·refine⟨i+1,rfl,bH,fun j hj=>?_⟩;(rcases bn j i with h|h);(·exact cZ j h);(obtain rfl:j=i:=by omega);intro y hy;rw [hx] at hy;cases hy;simpa using PW
  simp only [Go.Eng.intOf,a7];omega
 have fP:=ki mc;have ha:P.all uW=true:=S7 fun j hj=>cZ j (by omega);simp only [hz,jk,sl,go_sem];refine cL (Jn z) ?_;simp only [hz,jk,sl,go_sem];apply bE <;> intro amF
 ·have lH:dH s=false:=by unfold dH;rw [wE,<- hP];by_cases hv:gC z=true;(·have:=NK hv;simp_all;omega);simp [hv]
  simp only [hz,jk,sl,go_sem];refine hK _ ?_
  first
   | (unfold kH kc;rw [lH];rfl)
   | (unfold kH kc;rw [iq,wE];simp_all;done)
   | (unfold kH kc;rw [iq,wE];simp_all;rfl)
 simp only [hz,jk,sl,go_sem];apply bE <;> intro PO
 ·have lH:dH s=false:=by unfold dH;rw [wE,<- hP];by_cases hv:gC z=true;(·have:=NK hv;simp_all;omega);simp [hv]
  simp only [hz,jk,sl,go_sem];refine hK _ ?_
  first
   | (unfold kH kc;rw [lH];rfl)
   | (unfold kH kc;rw [iq,wE];simp_all;done)
   | (unfold kH kc;rw [iq,wE];simp_all;rfl)
 have hvz:gC z=true:=by by_cases hv:gC z=true;(·exact hv);exfalso;simp_all
 have iq:dH s=true:=by unfold dH;rw [wE,<- hP,ha,hvz];simp_all;omega
 simp only [hz,jk,sl,go_sem];refine hK _ ?_
 first
  | (unfold kH kc;rw [lH];rfl)
  | (unfold kH kc;rw [iq,wE];simp_all;done)
  | (unfold kH kc;rw [iq,wE];simp_all;rfl)
end
theorem wa (s:g6) (hs:s.size<=1048576):Cn 78 [str s] (bl (dH s)):=by refine cM [] 12 [.tmp 2] Tryz.func78 Tryz.call78 fun K hK=>?_;simp only [go_sem];refine cL (PV s hs) ?_;simp only [go_sem];exact hK _ (yJ bl (by unfold kc;by_cases h:dH s=true <;> simp [h]))
end
def yR (s:g6):Bool:=iv s||decide (s.size=2)&&decide (eT s 0=35)&&decide (48<=eT s 1)&&decide (eT s 1<=55)
def jI (s:g6):Bool:=decide (s=⟨#[]⟩)
def lD (s:g6):Bool:=jI s||dC s||dH s
theorem qM (s:g6):Cn 174 [str s] (bl (iv s)):=by
 refine cM [] 19 [.tmp 2] Tryz.func174 Tryz.call174 fun K hK=>?_;have rJ:ak.underlying 9=some .string:=kr;have sl:=zY;simp only [sl,go_sem];apply bE <;> intro Cq;·have h1:=AW rfl Cq;obtain⟨Jg,kG⟩:=er (s:=s) (i:=(0:Int).toNat) (by omega);have dO:=eM (P:=ak) s rJ .i64 (0) (by omega) (c:=Jg) kG;have lC:eT s 0=Jg.toNat:=ff kG;simp only [dO,sl,go_sem];apply bE <;> intro Jh <;> simp only [dO,sl,go_sem];(·refine cL (Cl _) ?_;repeat' (simp only [dO,sl,go_sem];first|apply bE <;> intro hg|refine cL (Cm 238 uV NI s (by have:=qB Jh;omega)) ?_|(exact hK _ (yJ bl (by simp_all [iv] <;> (intros;omega))))));exact hK _ (yJ bl (by simp_all [iv] <;> (intros;omega)))
 have h1:=xv rfl Cq;simp only [sl,go_sem];exact hK _ (yJ bl (by simp_all [iv] <;> (intros;omega)))
theorem mZ (s:g6):Cn 161 [str s] (bl (iv s)):=by
 refine cM [] 20 [.tmp 2] Tryz.func161 Tryz.call161 fun K hK=>?_;have rJ:ak.underlying 9=some .string:=kr;have sl:=zY;simp only [sl,go_sem];apply bE <;> intro z8;·(have h1:1<=s.size:=by have:=qB z8;omega);obtain⟨Jg,kG⟩:=er (s:=s) (i:=(0:Int).toNat) (by omega);have dO:=eM (P:=ak) s rJ .i64 (0) (by omega) (c:=Jg) kG;have lC:eT s 0=Jg.toNat:=ff kG;simp only [dO,sl,go_sem];apply bE <;> intro Jk <;> simp only [dO,sl,go_sem];(·refine cL (z7 _) ?_;repeat' (simp only [dO,sl,go_sem];first|apply bE <;> intro hg|refine cL (Jb s (by have:=qB Jk;omega)) ?_|(exact hK _ (yJ bl (by simp_all [iv] <;> (intros;omega))))));exact hK _ (yJ bl (by simp_all [iv] <;> (intros;omega)))
 have h1:s.size=0:=by have:=k9 z8;omega
 simp only [sl,go_sem];exact hK _ (yJ bl (by simp_all [iv] <;> (intros;omega)))
theorem Jo (s:g6):Cn 172 [str s] (bl (yR s)):=by
 refine cM [] 25 [.tmp 2] Tryz.func172 Tryz.call172 fun K hK=>?_;have rJ:ak.underlying 9=some .string:=kr;have sl:=zY;simp only [sl,go_sem];refine cL (qM s) ?_;simp only [sl,go_sem];apply bE <;> intro Cq <;> simp only [sl,go_sem];·exact hK _ (yJ bl (by simp_all [yR] <;> (intros;omega)))
 apply bE <;> intro Jp;·(have uz:s.size=2:=by have:=qB Jp;omega);obtain⟨Jg,kG⟩:=er (s:=s) (i:=(0:Int).toNat) (by omega);have dO:=eM (P:=ak) s rJ .i64 (0) (by omega) (c:=Jg) kG;obtain⟨cv1,Aa⟩:=er (s:=s) (i:=(1:Int).toNat) (by omega);have jZ:=eM (P:=ak) s rJ .i64 (1) (by omega) (c:=cv1) Aa;have lC:eT s 0=Jg.toNat:=ff kG;have j8:eT s 1=cv1.toNat:=ff Aa;repeat' (simp only [dO,jZ,sl,go_sem];first|apply bE <;> intro hg|(exact hK _ (yJ bl (by simp_all [yR] <;> (intros;omega)))))
 have uz:s.size≠2:=by have:=k9 Jp;omega
 simp only [sl,go_sem];exact hK _ (yJ bl (by simp_all [yR] <;> (intros;omega)))
theorem GJ (s:g6):Cn 225 [str s] (bl (yR s)):=by
 refine cM [] 25 [.tmp 2] Tryz.func225 Tryz.call225 fun K hK=>?_;have rJ:ak.underlying 9=some .string:=kr;have sl:=zY;simp only [sl,go_sem];refine cL (mZ s) ?_;simp only [sl,go_sem];apply bE <;> intro Cq <;> simp only [sl,go_sem];·exact hK _ (yJ bl (by simp_all [yR] <;> (intros;omega)))
 apply bE <;> intro Jp;·(have uz:s.size=2:=by have:=qB Jp;omega);obtain⟨Jg,kG⟩:=er (s:=s) (i:=(0:Int).toNat) (by omega);have dO:=eM (P:=ak) s rJ .i64 (0) (by omega) (c:=Jg) kG;obtain⟨cv1,Aa⟩:=er (s:=s) (i:=(1:Int).toNat) (by omega);have jZ:=eM (P:=ak) s rJ .i64 (1) (by omega) (c:=cv1) Aa;have lC:eT s 0=Jg.toNat:=ff kG;have j8:eT s 1=cv1.toNat:=ff Aa;repeat' (simp only [dO,jZ,sl,go_sem];first|apply bE <;> intro hg|(exact hK _ (yJ bl (by simp_all [yR] <;> (intros;omega)))))
 have uz:s.size≠2:=by have:=k9 Jp;omega
 simp only [sl,go_sem];exact hK _ (yJ bl (by simp_all [yR] <;> (intros;omega)))
theorem yS (hG:bJ.g=some 0) (s:g6) (hs:s.size<=1048576):Cn 173 [str s] (bl (lD s)):=by refine cM [] 13 [.tmp 2] Tryz.func173 Tryz.call173 fun K hK=>?_;repeat' (simp only [cY,go_sem];first|apply bE <;> intro hg|refine cL (jv hG s) ?_|refine cL (oD hG s hs) ?_|(exact hK _ (yJ bl (by simp_all [lD,jI]))))
theorem wb (s:g6) (hs:s.size<=1048576):Cn 226 [str s] (bl (lD s)):=by refine cM [] 13 [.tmp 2] Tryz.func226 Tryz.call226 fun K hK=>?_;repeat' (simp only [cY,go_sem];first|apply bE <;> intro hg|refine cL (je s) ?_|refine cL (wa s hs) ?_|(exact hK _ (yJ bl (by simp_all [lD,jI]))))
mutual
inductive Ty where
 | mk (kind:Int) (mod name:g6) (args:List Ty) (bT:List Fd)
inductive Fd where
 | mk (name:g6) (ty:Ty) (opt:Bool)
end
structure Lb where
 name:g6
 var:g6
 ty:Ty
 opt:Bool
inductive Ex where
 | mk (kind:Int) (mod name text:g6) (num:Int) (types:List Ty) (labels:List Lb) (kids:List Ex)
structure Pm where
 name:g6
 cQ:Int
 bound:Ty
structure Im where
 path:g6
 alias:g6
structure Dc where
 kind:Int
 name:g6
 exported:Bool
 deprecated:Bool
 note:g6
 params:List Pm
 lower:Ty
 upper:Ty
 type:Ty
 expr:Ex
 mod:g6
 target:g6
structure Md where
 path:g6
 imports:List Im
 decls:List Dc
mutual
def cA:Ty->V
 | .mk k m n ts fs=>.agg [.sc (.int .i64 k),.sc (.string m),.sc (.string n),.slice (cV ts),.slice (jw fs)]
def cV:List Ty->List V
 | []=>[]
 | t :: r=>cA t :: cV r
def gZ:Fd->V
 | .mk n (.mk k m n' ts fs) o=>.agg [.sc (.string n),.sc (.int .i64 k),.sc (.string m),.sc (.string n'),.slice (cV ts),.slice (jw fs),.sc (.bool o)]
def jw:List Fd->List V
 | []=>[]
 | f :: r=>gZ f :: jw r
end
def Fd.ty:Fd->Ty|.mk _ t _=>t
def Fd.name:Fd->g6|.mk n _ _=>n
def Fd.opt:Fd->Bool|.mk _ _ o=>o
def Ty.bT:Ty->List Fd|.mk _ _ _ _ fs=>fs
def Ty.args:Ty->List Ty|.mk _ _ _ ts _=>ts
def Ty.kind:Ty->Int|.mk k _ _ _ _=>k
def Ty.mod:Ty->g6|.mk _ m _ _ _=>m
def Ty.name:Ty->g6|.mk _ _ n _ _=>n
def Ty.parts (t:Ty):List Ty:=t.args++t.bT.map Fd.ty
def au (t:Ty):List V:=[.sc (.int .i64 t.kind),.sc (.string t.mod),.sc (.string t.name),.slice (cV t.args),.slice (jw t.bT)]
theorem aF (t:Ty):cA t = .agg (au t):=by obtain⟨k,m,n,ts,fs⟩:=t;rfl
theorem ax (ts:List Ty):cV ts=ts.map cA:=by induction ts with|nil=>rfl|cons t r ih=>simp [cV,ih]
theorem aB (ts:List Fd):jw ts=ts.map gZ:=by induction ts with|nil=>rfl|cons t r ih=>simp [jw,ih]
theorem bL (f:Fd):gZ f = .agg ([str f.name]++au f.ty++[bl f.opt]):=by obtain⟨n',⟨k,m,n,ts,fs⟩,o⟩:=f;rfl
def cr (l:Lb):V:=.agg ([str l.name,str l.var]++au l.ty++[bl l.opt])
mutual
def ca:Ex->V
 | .mk k m n t i ts ls ks=>.agg [.sc (.int .i64 k),.sc (.string m),.sc (.string n),.sc (.string t),.sc (.int .i64 i),.slice (cV ts),.slice (ls.map cr),.slice (oV ks)]
def oV:List Ex->List V
 | []=>[]
 | e :: r=>ca e :: oV r
end
def Ex.kind:Ex->Int|.mk k _ _ _ _ _ _ _=>k
def Ex.mod:Ex->g6|.mk _ m _ _ _ _ _ _=>m
def Ex.name:Ex->g6|.mk _ _ n _ _ _ _ _=>n
def Ex.text:Ex->g6|.mk _ _ _ t _ _ _ _=>t
def Ex.num:Ex->Int|.mk _ _ _ _ i _ _ _=>i
def Ex.types:Ex->List Ty|.mk _ _ _ _ _ ts _ _=>ts
def Ex.labels:Ex->List Lb|.mk _ _ _ _ _ _ ls _=>ls
def Ex.kids:Ex->List Ex|.mk _ _ _ _ _ _ _ ks=>ks
theorem aM (ts:List Ex):oV ts=ts.map ca:=by induction ts with|nil=>rfl|cons t r ih=>simp [oV,ih]
def aH (e:Ex):List V:=[.sc (.int .i64 e.kind),.sc (.string e.mod),.sc (.string e.name),.sc (.string e.text),.sc (.int .i64 e.num),.slice (cV e.types),.slice (e.labels.map cr),.slice (oV e.kids)]
theorem aS (e:Ex):ca e = .agg (aH e):=by obtain⟨k,m,n,t,i,ts,ls,ks⟩:=e;rfl
def cH (p:Pm):V:=.agg ([str p.name,num p.cQ]++au p.bound)
def eI (i:Im):V:=.agg [str i.path,str i.alias]
def ct (d:Dc):V:=.agg ([num d.kind,str d.name,bl d.exported,bl d.deprecated,str d.note,.slice (d.params.map cH)]++au d.lower++au d.upper++au d.type++aH d.expr++[str d.mod,str d.target])
def jJ (m:Md):V:=.agg [str m.path,.slice (m.imports.map eI),.slice (m.decls.map ct)]
theorem PX (t:Ty):(cA t).cells.length=5:=by rw [aF];rfl
theorem uA (e:Ex):(ca e).cells.length=8:=by rw [aS];rfl
theorem xz (ts:List Ty) (n:Nat):iM (cV ts) n 5=true:=by
 rw [ax];unfold iM;split;·rename_i h;simp at h;obtain⟨t,-,rfl⟩:=h;simp [PX]
 rfl
theorem bc (ts:List Ty):(cV ts).length=ts.length:=by simp [ax]
theorem dr (ts:List Fd):(jw ts).length=ts.length:=by simp [aB]
theorem cD (ts:List Ex):(oV ts).length=ts.length:=by simp [aM]
theorem cK (ts:List Ty) (i:Nat):(cV ts)[i]?=ts[i]?.map cA:=by simp [ax]
theorem bP (ts:List Fd) (i:Nat):(jw ts)[i]?=ts[i]?.map gZ:=by simp [aB]
theorem ft (ts:List Ex) (i:Nat):(oV ts)[i]?=ts[i]?.map ca:=by simp [aM]
mutual
def Ty.size:Ty->Nat
 | .mk _ _ _ ts fs=>1+xD ts+xE fs
def xD:List Ty->Nat
 | []=>0
 | t :: r=>t.size+xD r
def Fd.size:Fd->Nat
 | .mk _ (.mk _ _ _ ts fs) _=>1+xD ts+xE fs
def xE:List Fd->Nat
 | []=>0
 | f :: r=>f.size+xE r
end
theorem Fd.XA (f:Fd):f.size=f.ty.size:=by obtain⟨n',⟨k,m,n,ts,fs⟩,o⟩:=f;rfl
theorem Jq (ts:List Ty):xD ts=aU Ty.size ts:=by induction ts with|nil=>rfl|cons t r ih=>simp [xD,aU,ih]
theorem Jr (ts:List Fd):xE ts=aU (fun f=>f.ty.size) ts:=by induction ts with|nil=>rfl|cons t r ih=>simp [xE,aU,ih,Fd.XA]
theorem Ty.eA (t:Ty):t.size=1+aU Ty.size t.parts:=by obtain⟨k,m,n,ts,fs⟩:=t;simp only [Ty.size,Ty.parts,Ty.args,Ty.bT,fO,ju,Jq,Jr];omega
theorem Ty.size_pos (t:Ty):0<t.size:=by rw [Ty.eA];omega
theorem Ty.gI (t:Ty):t.args.length+t.bT.length<t.size:=by have:=bB Ty.size Ty.size_pos t.parts;rw [Ty.eA];simp only [Ty.parts,ab,aC] at this;simp only [Ty.parts];omega
abbrev tM (t:Ty):List V:=[num t.kind,str t.mod,str t.name,.slice (t.args.map cA),.slice (t.bT.map gZ)]
abbrev xM (x:Ex):List V:=[num x.kind,str x.mod,str x.name,str x.text,num x.num,.slice (x.types.map cA),.slice (x.labels.map cr),.slice (x.kids.map ca)]
abbrev dM (d:Dc):List V:=[num d.kind,str d.name,bl d.exported,bl d.deprecated,str d.note,.slice (d.params.map cH),num d.lower.kind,str d.lower.mod,str d.lower.name,.slice (d.lower.args.map cA),.slice (d.lower.bT.map gZ),num d.upper.kind,str d.upper.mod,str d.upper.name,.slice (d.upper.args.map cA),.slice (d.upper.bT.map gZ),num d.type.kind,str d.type.mod,str d.type.name,.slice (d.type.args.map cA),.slice (d.type.bT.map gZ),num d.expr.kind,str d.expr.mod,str d.expr.name,str d.expr.text,num d.expr.num,.slice (d.expr.types.map cA),.slice (d.expr.labels.map cr),.slice (d.expr.kids.map ca),str d.mod,str d.target]
attribute [go_sem] tM xM dM
theorem xF (t:Ty) (hl:t.args.length+t.bT.length<=34359738368):dz ak 82 [cA t] (.slice (cV t.parts)):=by
 obtain⟨k,m,n,ts,fs⟩:=t;simp only [Ty.args,Ty.bT] at hl;have oc:ts.length<=34359738368:=by omega
 refine jt Tryz.func82 Tryz.call82 ?_;simp only [dD,dj,Tryz.ntmps82,af,ah,zA,zF,aV,aW];refine bY fun K hK=>?_;simp only [cA,go_sem];refine hK _ ?_;refine bY fun K hK=>?_;simp only [xz,bc,oc,go_sem];refine hK _ ?_;refine bS ?_;refine bY fun K hK=>?_;simp only [go_sem];refine hK _ ?_;refine cz (dY (fun N st=>∃ (i ej:Nat) (acc:List Ty),N=fs.length-i/\i<=fs.length/\acc=ts++(fs.take i).map Fd.ty /\ st = { fr:=[cA (.mk k m n ts fs),.ptr 0 0,.undef,.ms 1 ej 0 acc.length,.sc (.int .i64 i)]++List.replicate 21 .undef,mem:=[.box (cA (.mk k m n ts fs)).cells,.rows ej 5 (cV acc)] }) fs.length ?_ ?_);·exact⟨2,[true,true,false,true,true],by omega,by simp only [cp,aQ,bC,a6,zB,lP],by simp only [cp,aQ,bC,a6,zB,lP],0,1,ts,by omega,by omega,by simp,rfl⟩
 rintro N st ⟨i,ej,acc,rfl,hi,lS,rfl⟩;have EN:acc.length<=34359738367\/i=fs.length:=by rw [lS];simp;omega
 simp only [dD,aV,aW,cA,V.cells];refine bS ?_;by_cases bH:i<fs.length;·have hd:=kD bH;(have L5:acc.length<=34359738367:=by omega);refine bY fun K hK=>?_;simp only [dr,hd,go_sem];refine hK _ ?_;refine bD rfl (cR ?_);refine bS (cz ?_);obtain⟨f,hf⟩:=gA bH;(have eW:(fs.take (i+1)).map Fd.ty=(fs.take i).map Fd.ty++[f.ty]:=by rw [cg,hf];simp);obtain⟨fnm,⟨fk,fm,fn,fts,ffs⟩,fo⟩:=f;refine jR fun K hK=>?_;simp only [bP,hf,gZ,bc,L5,go_sem];refine hK _ ?_;refine jR fun K hK=>?_;simp only [go_sem];refine hK _ ?_;refine⟨fs.length-(i+1),by omega,2,[true,true,false,true,true],by omega,by simp only [cp,aQ,bC,a6,zB,lP],by simp only [cp,aQ,bC,a6,zB,lP],i+1,ej+1,acc++[.mk fk fm fn fts ffs],rfl,bH,by rw [lS,eW];simp [Fd.ty],?_⟩;have hw:IntKind.i64.wrap ((i:Int)+1)=((i+1:Nat):Int):=bj i (by omega);rw [hw];simp [rp,cp,ax,cA]
 have hd:=kE bH;refine bY fun K hK=>?_;simp only [dr,hd,go_sem];refine hK _ ?_;refine bD rfl (fA ?_);have jx:i=fs.length:=by omega
 subst jx;show fc _ _ _ _ _ _;refine bY fun K hK=>?_;simp only [go_sem];refine hK _ ?_;refine cy ⟨.inl rfl,?_⟩;rw [aE] at lS;have hr:cV (Ty.mk k m n ts fs).parts=cV acc:=by rw [lS];rfl
 rw [hr];simp [rm,so,vM,Tryz.f82,K0,mT,fE,bc];rw [<- bc];simp
theorem nK:∀ (N:Nat) (t:Ty),t.size<=N->N<=1048576->dz ak 31 [cA t] (num t.size):=by intro N;induction N with|zero=>intro t h;have:=t.size_pos;omega|succ N ih =>intro t hN hb;have Cx:=t.gI;have nL:=t.eA;have L6:=bB Ty.size Ty.size_pos t.parts;have hp:=xF t (by omega);refine jt Tryz.func31 Tryz.call31 ?_;simp only [dD,dj,Tryz.ntmps31,af,ah,zA,zF,aV,aW];rw [aF] at hp ⊢;simp only [au] at hp ⊢;refine bY fun K hK=>?_;simp only [go_sem];refine hK _ ?_;refine bY fun K hK=>?_;simp only [go_sem];refine hK _ ?_;refine bY fun K hK=>?_;simp only [go_sem];refine .inl ⟨_,_,by simp only [go_sem,aE],hp,?_⟩;(try simp only [go_sem]);refine hK _ ?_;refine bS ?_;refine bY fun K hK=>?_;simp only [go_sem];refine hK _ ?_;obtain⟨ps,Cy⟩:∃ ps,ps=t.parts:=⟨_,rfl⟩;rw [<- Cy] at nL L6 ⊢;refine cz (dY (fun N st=>∃ (i:Nat),N=ps.length-i/\i<=ps.length /\ st = { fr:=[.undef,.undef,.undef,num ((1+aU Ty.size (ps.take i):Nat)),.slice (cV ps),num i]++List.replicate 16 .undef,mem:=[] }) ps.length ?_ ?_);(·exact⟨0,[false,false,false,true,true,true],by omega,by simp only [cp,aQ,bC,a6,zB,lP],by simp only [cp,aQ,bC,a6,zB,lP],0,by omega,by omega,rfl⟩);rintro N st ⟨i,rfl,hi,rfl⟩;simp only [dD,aV,aW];refine bS ?_;by_cases bH:i<ps.length;(·have hd:=kD bH;refine bY fun K hK=>?_;simp only [bc,hd,go_sem];refine hK _ ?_;refine bD rfl (cR ?_);refine bS (cz ?_);obtain⟨u,hu⟩:=gA bH;have hus:=bX Ty.size hu;have yn:=fX Ty.size hu;have Lp:=gG Ty.size ps (i+1);have kq:=ih u (by omega) (by omega);rw [aF] at kq;simp only [au] at kq;refine jR fun K hK=>?_;simp only [cK,hu,aF,au,go_sem];refine .inl ⟨_,_,by simp only [go_sem,aE],kq,?_⟩;(try simp only [go_sem]);refine hK _ ?_;(have hw:IntKind.i64.wrap (((1+aU Ty.size (ps.take i):Nat):Int)+(u.size:Int))=((1+aU Ty.size (ps.take (i+1)):Nat):Int):=by rw [gf _ _ (by omega)];congr 1;omega);rw [hw];refine jR fun K hK=>?_;simp only [go_sem];refine hK _ ?_;have iR:=bj i (by omega);rw [iR];exact⟨ps.length-(i+1),by omega,0,[false,false,false,true,true,true],by omega,by simp only [cp,aQ,bC,a6,zB,lP],by simp only [cp,aQ,bC,a6,zB,lP],i+1,rfl,bH,by simp [rp,cp]⟩);have hd:=kE bH;refine bY fun K hK=>?_;simp only [bc,hd,go_sem];refine hK _ ?_;refine bD rfl (fA ?_);(have jx:i=ps.length:=by omega);subst jx;show fc _ _ _ _ _ _;refine bY fun K hK=>?_;simp only [go_sem];refine hK _ ?_;refine cy ⟨.inl rfl,?_⟩;(try rw [aE]);rw [<- nL];simp [rm,so,vM,Tryz.f31,K0,mT,fE,qy]
theorem Cz (rows:List V) (h1:iM rows 0 5=true) (hl:rows.length<=34359738368):bK ak 234 [.slice rows] [] (.ms 0 1 0 rows.length) [.rows 1 5 rows]:=by refine oO tt_ok (fn:=Tryz.f234) 1 (by simp) Tryz.func234 rfl Tryz.call234 ?_;simp only [dD,dj,Tryz.ntmps234,af,ah,zA,zF,aV,aW];refine bY fun K hK=>?_;simp only [go_sem];refine hK _ ?_;refine bS ?_;refine bY fun K hK=>?_;simp only [go_sem];intro b hb;refine hK _ ?_;cases b with|true =>((have h0:rows=[]:=by cases rows with|nil=>rfl|cons a r=>have:=hb (by simp);cases this);subst h0;refine bD rfl ?_;refine bY fun K hK=>?_;simp only [go_sem];refine hK _ ?_;refine Pv 2 1 5 rfl ?_;exact cy ⟨.inl rfl,rfl,rfl,rfl,rfl⟩)|false =>refine bD rfl (cR ?_);show fc _ _ _ _ _ _;refine bY fun K hK=>?_;simp only [h1,hl,go_sem];refine hK _ ?_;refine cy ⟨.inl rfl,?_⟩;simp [qh,so,vM,Tryz.f234,aQ,a6,bC]
theorem yU (t:Ty) (hl:t.args.length+t.bT.length<=34359738368):dz ak 168 [cA t] (.slice (cV t.parts)):=by
 obtain⟨k,m,n,ts,fs⟩:=t;simp only [Ty.args,Ty.bT] at hl;have oc:ts.length<=34359738368:=by omega
 refine jt Tryz.func168 Tryz.call168 ?_;simp only [dD,dj,Tryz.ntmps168,af,ah,zA,zF,aV,aW];refine bY fun K hK=>?_;simp only [cA,go_sem];refine hK _ ?_;refine bY fun K hK=>?_;simp only [cA,go_sem];refine .inr <| .inl ⟨_,_,bK.live (by simp only [cA,bc,go_sem,aE]) (Cz (cV ts) (xz ts 0) (by rw [bc];exact oc)) rfl _,?_⟩
 try simp only [cA,bc,go_sem]
 refine hK _ ?_;refine bS ?_;refine bY fun K hK=>?_;simp only [dr,go_sem];refine hK _ ?_;refine cz (dY (fun N st=>∃ (i ej:Nat) (acc:List Ty),N=fs.length-i/\i<=fs.length/\acc=ts++(fs.take i).map Fd.ty /\ st = { fr:=[.undef,.ptr 0 0,.undef,.ms 1 ej 0 acc.length,.undef,.undef,.undef,.undef,.undef,.undef,.slice (jw fs),num fs.length,num i]++List.replicate 10 .undef,mem:=[.box (cA (.mk k m n ts fs)).cells,.rows ej 5 (cV acc)] }) fs.length ?_ ?_);·exact⟨2,[false,true,false,true,false,false,false,false,false,false,true,true,true],by omega,by simp only [cp,aQ,bC,a6,zB,lP],by simp only [cp,aQ,bC,a6,zB,lP],0,1,ts,by omega,by omega,by simp,rfl⟩
 rintro N st ⟨i,ej,acc,rfl,hi,lS,rfl⟩;have EN:acc.length<=34359738367\/i=fs.length:=by rw [lS];simp;omega
 simp only [dD,aV,aW,cA,V.cells];by_cases bH:i<fs.length;·have hd:=kD bH;(have L5:acc.length<=34359738367:=by omega);refine bY fun K hK=>?_;simp only [dr,hd,go_sem];refine hK _ ?_;refine bS (bD rfl (cR ?_));refine bS (cz ?_);obtain⟨f,hf⟩:=gA bH;(have eW:(fs.take (i+1)).map Fd.ty=(fs.take i).map Fd.ty++[f.ty]:=by rw [cg,hf];simp);obtain⟨fnm,⟨fk,fm,fn,fts,ffs⟩,fo⟩:=f;refine bY fun K hK=>?_;simp only [bP,hf,gZ,go_sem];refine hK _ ?_;refine jR fun K hK=>?_;simp only [bc,L5,go_sem];refine hK _ ?_;refine jR fun K hK=>?_;simp only [go_sem];refine hK _ ?_;have hw:=bj i (by omega);rw [hw];refine⟨fs.length-(i+1),by omega,2,[false,true,false,true,false,false,false,false,false,false,true,true,true],by omega,by simp only [cp,aQ,bC,a6,zB,lP],by simp only [cp,aQ,bC,a6,zB,lP],i+1,ej+1,acc++[.mk fk fm fn fts ffs],rfl,bH,by rw [lS,eW];simp [Fd.ty],?_⟩;simp [rp,cp,ax,cA]
 have hd:=kE bH;refine bY fun K hK=>?_;simp only [dr,hd,go_sem];refine hK _ ?_;refine bS (bD rfl (fA ?_));have jx:i=fs.length:=by omega
 subst jx;show fc _ _ _ _ _ _;refine bY fun K hK=>?_;simp only [go_sem];refine hK _ ?_;refine cy ⟨.inl rfl,?_⟩;rw [aE] at lS;have hr:cV (Ty.mk k m n ts fs).parts=cV acc:=by rw [lS];rfl
 rw [hr];simp [rm,so,vM,Tryz.f168,K0,mT,fE,bc];rw [<- bc];simp
mutual
def Ty.depth:Ty->Nat
 | .mk _ _ _ ts fs=>1+max (tK ts) (tL fs)
def tK:List Ty->Nat
 | []=>0
 | t :: r=>max t.depth (tK r)
def Fd.depth:Fd->Nat
 | .mk _ (.mk _ _ _ ts fs) _=>1+max (tK ts) (tL fs)
def tL:List Fd->Nat
 | []=>0
 | f :: r=>max f.depth (tL r)
end
theorem Fd.Tg (f:Fd):f.depth=f.ty.depth:=by obtain⟨n',⟨k,m,n,ts,fs⟩,o⟩:=f;rfl
def gK {α:Type} (g:α->Nat):List α->Nat
 | []=>0
 | a :: r=>max (g a) (gK g r)
theorem xG {α:Type} (g:α->Nat) (a b:List α):gK g (a++b)=max (gK g a) (gK g b):=by induction a with|nil=>simp [gK]|cons x r ih=>simp [gK,ih,Nat.max_assoc]
theorem PY {α β:Type} (g:β->Nat) (h:α->β) (a:List α):gK g (a.map h)=gK (fun x=>g (h x)) a:=by induction a with|nil=>rfl|cons x r ih=>simp [gK,ih]
theorem GK (ts:List Ty):tK ts=gK Ty.depth ts:=by induction ts with|nil=>rfl|cons t r ih=>simp [tK,gK,ih]
theorem GL (ts:List Fd):tL ts=gK (fun f=>f.ty.depth) ts:=by induction ts with|nil=>rfl|cons t r ih=>simp [tL,gK,ih,Fd.Tg]
theorem Ty.tN (t:Ty):t.depth=1+gK Ty.depth t.parts:=by obtain⟨k,m,n,ts,fs⟩:=t;simp only [Ty.depth,Ty.parts,Ty.args,Ty.bT,xG,PY,GK,GL]
theorem lK {α:Type} (g:α->Nat) {l:List α} {i:Nat} {a:α} (h:l[i]?=some a):gK g (l.take (i+1))=max (gK g (l.take i)) (g a):=by rw [cg,h,xG];simp [gK]
theorem CA {α:Type} (g:α->Nat) {B:Nat}:∀ {l:List α},(∀ (i:Nat) (a:α),l[i]?=some a->g a<=B)->gK g l<=B
 | [],_=>by simp [gK]
 | a :: r,h=>by
  have h1:=h 0 a rfl
  have h2:=CA g (l:=r) (B:=B) fun i b hb=>h (i+1) b (by simpa using hb)
  simp only [gK];omega
theorem Ty.vm:∀ (N:Nat) (t:Ty),t.size<=N->t.depth<=t.size:=by intro N;induction N with|zero=>intro t h;have:=t.size_pos;omega|succ N ih =>intro t hN;rw [Ty.tN,Ty.eA];have h1:=t.eA;(have:=CA Ty.depth (l:=t.parts) (B:=aU Ty.size t.parts) fun i a ha=>by have:=bX Ty.size ha;have:=ih a (by omega);omega);omega
theorem AY (a b:Nat):(if ((a:Int)<(b:Int)) then ((b:Nat):Int) else (a:Int))=((max a b:Nat):Int):=by split <;> omega
theorem PZ:∀ (N:Nat) (t:Ty),t.size<=N->N<=1048576->dz ak 75 [cA t] (num t.depth):=by intro N;induction N with|zero=>intro t h;have:=t.size_pos;omega|succ N ih =>intro t hN hb;have Cx:=t.gI;have nL:=t.eA;have XB:=Ty.vm _ t (aA _);have hdp:=t.tN;have L6:=bB Ty.size Ty.size_pos t.parts;have hp:=xF t (by omega);refine jt Tryz.func75 Tryz.call75 ?_;simp only [dD,dj,Tryz.ntmps75,af,ah,zA,zF,aV,aW];rw [aF] at hp ⊢;simp only [au] at hp ⊢;refine bY fun K hK=>?_;simp only [go_sem];refine hK _ ?_;refine bY fun K hK=>?_;simp only [go_sem];refine hK _ ?_;refine bY fun K hK=>?_;simp only [go_sem];refine .inl ⟨_,_,by simp only [go_sem,aE],hp,?_⟩;(try simp only [go_sem]);refine hK _ ?_;refine bS ?_;refine bY fun K hK=>?_;simp only [go_sem];refine hK _ ?_;obtain⟨ps,Cy⟩:∃ ps,ps=t.parts:=⟨_,rfl⟩;rw [<- Cy] at nL L6 hdp ⊢;refine cz (dY (fun N st=>∃ (i:Nat),N=ps.length-i/\i<=ps.length /\ st = { fr:=[.undef,.undef,.undef,num ((gK Ty.depth (ps.take i):Nat)),.slice (cV ps),num i]++List.replicate 17 .undef,mem:=[] }) ps.length ?_ ?_);(·exact⟨0,[false,false,false,true,true,true],by omega,by simp only [cp,aQ,bC,a6,zB,lP],by simp only [cp,aQ,bC,a6,zB,lP],0,by omega,by omega,rfl⟩);rintro N st ⟨i,rfl,hi,rfl⟩;simp only [dD,aV,aW];refine bS ?_;by_cases bH:i<ps.length;(·have hd:=kD bH;refine bY fun K hK=>?_;simp only [bc,hd,go_sem];refine hK _ ?_;refine bD rfl (cR ?_);refine bS (cz ?_);obtain⟨u,hu⟩:=gA bH;have hus:=bX Ty.size hu;have yn:=lK Ty.depth hu;have kq:=ih u (by omega) (by omega);rw [aF] at kq;simp only [au] at kq;refine jR fun K hK=>?_;simp only [cK,hu,aF,au,go_sem];refine .inl ⟨_,_,by simp only [go_sem,aE],kq,?_⟩;(try simp only [go_sem]);refine hK _ ?_;rw [AY,<- yn];refine jR fun K hK=>?_;simp only [go_sem];refine hK _ ?_;have iR:=bj i (by omega);rw [iR];exact⟨ps.length-(i+1),by omega,0,[false,false,false,true,true,true],by omega,by simp only [cp,aQ,bC,a6,zB,lP],by simp only [cp,aQ,bC,a6,zB,lP],i+1,rfl,bH,by simp [rp,cp]⟩);have hd:=kE bH;refine bY fun K hK=>?_;simp only [bc,hd,go_sem];refine hK _ ?_;refine bD rfl (fA ?_);(have jx:i=ps.length:=by omega);subst jx;show fc _ _ _ _ _ _;refine bY fun K hK=>?_;simp only [go_sem];refine hK _ ?_;refine cy ⟨.inl rfl,?_⟩;(try rw [aE]);rw [bj _ (by omega)];(have L4:gK Ty.depth ps+1=t.depth:=by omega);rw [L4];simp [rm,so,vM,Tryz.f75,K0,mT,fE,qy]
theorem L7:∀ (N:Nat) (t:Ty),t.size<=N->N<=1048576->dz ak 87 [cA t] (num t.depth):=by intro N;induction N with|zero=>intro t h;have:=t.size_pos;omega|succ N ih =>intro t hN hb;have Cx:=t.gI;have nL:=t.eA;have XB:=Ty.vm _ t (aA _);have hdp:=t.tN;have L6:=bB Ty.size Ty.size_pos t.parts;have hp:=yU t (by omega);refine jt Tryz.func87 Tryz.call87 ?_;simp only [dD,dj,Tryz.ntmps87,af,ah,zA,zF,aV,aW];rw [aF] at hp ⊢;simp only [au] at hp ⊢;refine bY fun K hK=>?_;simp only [go_sem];refine hK _ ?_;refine bY fun K hK=>?_;simp only [go_sem];refine hK _ ?_;refine bS ?_;refine bY fun K hK=>?_;simp only [go_sem];refine .inl ⟨_,_,by simp only [bc,go_sem,aE],hp,?_⟩;(try simp only [bc,go_sem]);refine hK _ ?_;obtain⟨ps,Cy⟩:∃ ps,ps=t.parts:=⟨_,rfl⟩;rw [<- Cy] at nL L6 hdp ⊢;refine cz (dY (fun N st=>∃ (i:Nat),N=ps.length-i/\i<=ps.length /\ st = { fr:=[.undef,.undef,.undef,num ((gK Ty.depth (ps.take i):Nat)),.undef,.undef,.undef,.slice (cV ps),num ps.length,num i]++List.replicate 10 .undef,mem:=[] }) ps.length ?_ ?_);(·exact⟨0,[false,false,false,true,false,false,false,true,true,true],by omega,by simp only [cp,aQ,bC,a6,zB,lP],by simp only [cp,aQ,bC,a6,zB,lP],0,by omega,by omega,rfl⟩);rintro N st ⟨i,rfl,hi,rfl⟩;simp only [dD,aV,aW];by_cases bH:i<ps.length;(·have hd:=kD bH;refine bY fun K hK=>?_;simp only [bc,hd,go_sem];refine hK _ ?_;refine bS (bD rfl (cR ?_));refine bS (cz ?_);obtain⟨u,hu⟩:=gA bH;have hus:=bX Ty.size hu;have yn:=lK Ty.depth hu;have kq:=ih u (by omega) (by omega);rw [aF] at kq;simp only [au] at kq;refine bY fun K hK=>?_;simp only [cK,hu,aF,au,go_sem];refine hK _ ?_;refine jR fun K hK=>?_;simp only [go_sem];refine .inl ⟨_,_,by simp only [go_sem,aE],kq,?_⟩;(try simp only [go_sem]);refine hK _ ?_;rw [AY,<- yn];refine jR fun K hK=>?_;simp only [go_sem];refine hK _ ?_;have iR:=bj i (by omega);rw [iR];exact⟨ps.length-(i+1),by omega,0,[false,false,false,true,false,false,false,true,true,true],by omega,by simp only [cp,aQ,bC,a6,zB,lP],by simp only [cp,aQ,bC,a6,zB,lP],i+1,rfl,bH,by simp [rp,cp]⟩);have hd:=kE bH;refine bY fun K hK=>?_;simp only [bc,hd,go_sem];refine hK _ ?_;refine bS (bD rfl (fA ?_));(have jx:i=ps.length:=by omega);subst jx;show fc _ _ _ _ _ _;refine bY fun K hK=>?_;simp only [go_sem];refine hK _ ?_;refine cy ⟨.inl rfl,?_⟩;(try rw [aE]);rw [bj _ (by omega)];(have L4:gK Ty.depth ps+1=t.depth:=by omega);rw [L4];simp [rm,so,vM,Tryz.f87,K0,mT,fE,qy]
section
mutual
def Ty.nodes:Ty->List Ty
 | .mk k m n ts fs=>.mk k m n ts fs :: (tO ts++tP fs)
def tO:List Ty->List Ty
 | []=>[]
 | t :: r=>t.nodes++tO r
def Fd.nodes:Fd->List Ty
 | .mk _ (.mk k m n ts fs) _=>.mk k m n ts fs :: (tO ts++tP fs)
def tP:List Fd->List Ty
 | []=>[]
 | f :: r=>f.nodes++tP r
end
theorem Fd.Th (f:Fd):f.nodes=f.ty.nodes:=by obtain⟨n',⟨k,m,n,ts,fs⟩,o⟩:=f;rfl
theorem Js (ts:List Ty):tO ts=ts.flatMap Ty.nodes:=by induction ts with|nil=>rfl|cons t r ih=>simp [tO,ih]
theorem Jt (ts:List Fd):tP ts=(ts.map Fd.ty).flatMap Ty.nodes:=by induction ts with|nil=>rfl|cons t r ih=>simp [tP,ih,Fd.Th]
theorem Ty.dZ (t:Ty):t.nodes=t :: t.parts.flatMap Ty.nodes:=by obtain⟨k,m,n,ts,fs⟩:=t;simp only [Ty.nodes,Ty.parts,Ty.args,Ty.bT,Js,Jt,qq]
theorem Ty.xH:∀ (N:Nat) (t:Ty),t.size<=N->t.nodes.length=t.size:=by intro N;induction N with|zero=>intro t h;have:=t.size_pos;omega|succ N ih =>intro t hN;have h1:=t.eA;(have gen:∀ (l:List Ty),aU Ty.size l<=N->(l.flatMap Ty.nodes).length=aU Ty.size l:=by intro l;induction l with|nil=>intro _;rfl|cons a r Tj =>intro hl;simp only [aU] at hl ⊢;rw [ag,ab,ih a (by omega),Tj (by omega)]);rw [Ty.dZ,af,gen _ (by omega)];omega
section
variable {σ α:Type}
def dP (step:σ->α->σ×Bool):σ->List α->σ×Bool
 | s,[]=>(s,true)
 | s,u :: r=>if (step s u).2=true then dP step (step s u).1 r else ((step s u).1,false)
theorem jS (step:σ->α->σ×Bool):∀ (a:List α) (s:σ) (b:List α),dP step s (a++b)=if (dP step s a).2=true then dP step (dP step s a).1 b else ((dP step s a).1,false)
 | [],s,b=>by simp [dP]
 | u :: r,s,b=>by
  simp only [al,dP]
  split
  ·exact jS step r _ b
  simp
theorem rL (step:σ->α->σ×Bool) {G:σ->Prop} (hG:∀ s u,G s->(step s u).2=true->G (step s u).1):∀ (l:List α) (s:σ),G s->(dP step s l).2=true->G (dP step s l).1
 | [],s,h,_=>h
 | u :: r,s,h,hs=>by
  simp only [dP] at hs ⊢
  split at hs
  ·rename_i hu;rw [gH hu];exact rL step hG r _ (hG s u h hu) hs
  cases hs
end
section
variable {σ:Type} {M:σ->List bx} {n k k1 k2:Nat}
theorem XC (hn:∀ s,(M s).length=n) (hk:k<n) (gW:k1<n) (kh:k2<n) (h1:∀ s,(M s)[k1]?=some (.box [.kx k])) (h2:∀ s,(M s)[k2]?=some (.box [.jh (.func 170) [] [.ptr k1 0,.ptr k2 0]])) (hb:∀ s,(M s).all (a6 n)=true)
  (step:σ->Ty->σ×Bool) (G:σ->Prop) (hG:∀ s u,G s->(step s u).2=true->G (step s u).1) {B:Nat} (hB:B<=1048576) (hy:∀ s u,G s->u.size<=B->KJ ak k [cA u] (M s) (step s u).2 (M (step s u).1)) :
  ∀ (N:Nat) (t:Ty) (s:σ),G s->t.size<=N->N<=B->bK ak 170 [cA t,.ptr k1 0,.ptr k2 0] (M s) (bl (dP step s t.nodes).2) (M (dP step s t.nodes).1):=by
 have g0:∀ s (l:List bx),(M s++l)[n]?=l[0]?:=fun s l=>by rw [bm (by rw [hn];exact aA _),hn,dW]
 have g1:∀ s (l:List bx),(M s++l)[n+1]?=l[1]?:=fun s l=>by rw [bm (by rw [hn];omega),hn,eC]
 have ZI:∀ s (l:List bx),(M s++l)[k1]?=some (.box [.kx k]):=fun s l=>by rw [bz (by rw [hn];exact gW)];exact h1 s
 have gk2:∀ s (l:List bx),(M s++l)[k2]?=some (.box [.jh (.func 170) [] [.ptr k1 0,.ptr k2 0]]):=fun s l=>by rw [bz (by rw [hn];exact kh)];exact h2 s
 have gs:∀ s (l:List bx) X,(M s++l).set n X=M s++l.set 0 X:=fun s l X=>by rw [eR _ _ (by rw [hn];exact aA _),hn,dW]
 have gt:∀ s (l:List bx),(M s++l).take n=M s:=fun s l=>by rw [<- hn s,rW]
 have ZJ:∀ s,(M s).take n=M s:=fun s=>by rw [b8 (by rw [hn];exact aA _)]
 have fy:∀ s u (l:List bx),G s->u.size<=B->KJ ak k [cA u] (M s++l) (step s u).2 (M (step s u).1++l):=fun s u l hg hu=>by refine (hy s u hg hu).frame (by rw [hn];exact hk) ?_ (by rw [hn];exact hb s) (by rw [hn,hn]) (by rw [hn];exact hb _) l;rw [aF];simp [aQ,bC,au]
 intro N;induction N with|zero=>intro t s hg h;have:=t.size_pos;omega|succ N ih =>intro t s hg hN hNB;have Cx:=t.gI;have nL:=t.eA;have L6:=bB Ty.size Ty.size_pos t.parts;have dI:=t.dZ;have hp:=yU t (by omega);have Tl:=fun l=>fy s t l hg (by omega);(have ZK:∀ u s (l:List bx),G s->u.size<=N->bK ak 170 [cA u,.ptr k1 0,.ptr k2 0] (M s++l) (bl (dP step s u.nodes).2) (M (dP step s u.nodes).1++l):=fun u s l hg hu=>by refine (ih u s hg hu (by omega)).frame ?_ (by rw [hn];exact hb s) rfl (by rw [hn,hn]) (by rw [hn];exact hb _) l;rw [aF,hn];simp [aQ,bC,au,gW,kh]);simp only [aF,au] at ZK;refine oO tt_ok (fn:=Tryz.f170) n (by rw [hn];exact aA _) Tryz.func170 rfl Tryz.call170 ?_;simp only [dD,dj,Tryz.ntmps170,af,ah,zA,zF,aV,aW];rw [aF] at hp Tl ⊢;simp only [au] at hp Tl ⊢;refine bY fun K hK=>?_;simp only [hn,go_sem];refine hK _ ?_;refine bS ?_;refine bY fun K hK=>?_;simp only [ZI,g0,hn,go_sem];refine .inl ⟨_,_,Tl _,?_⟩;(try simp only [go_sem]);refine hK _ ?_;cases Tm:(step s t).2 with|false =>refine bD rfl ?_;refine bY fun K hK=>?_;simp only [go_sem];refine hK _ ?_;refine cy ⟨.inl rfl,?_⟩;(have oh:dP step s t.nodes=((step s t).1,false):=by rw [dI];simp [dP,Tm]);rw [oh];exact⟨rfl,rfl,by dsimp only;rw [gt];exact hb _,(gt _ _).symm⟩|true =>refine bD rfl (cR ?_);show fc _ _ _ _ _ _;refine bS ?_;refine bY fun K hK=>?_;simp only [ZI,g0,hn,go_sem];refine .inl ⟨_,_,by simp only [bc,go_sem,aE],hp,?_⟩;(try simp only [bc,go_sem]);refine hK _ ?_;obtain⟨ps,Cy⟩:∃ ps,ps=t.parts:=⟨_,rfl⟩;rw [<- Cy] at nL L6 dI ⊢;refine cz (dY (fun N st=>∃ (i:Nat) (s':σ),G s'/\N=ps.length-i/\i<=ps.length/\dP step s (t :: (ps.take i).flatMap Ty.nodes)=(s',true) /\ st = { fr:=[.undef,.ptr k1 0,.ptr k2 0,.undef,.undef,.undef,.undef,.undef,.undef,.undef,.undef,.undef,.slice (cV ps),num ps.length,num i]++List.replicate 8 .undef,mem:=M s' }) ps.length ?_ ?_);(·refine⟨n,(false::true::true::(rp 9 false [true,true,true])),by rw [hn];exact aA _,by simp only [cp,aQ,bC,a6,zB,gW,kh,lP],by dsimp only;rw [gt];exact hb _,0,(step s t).1,hG s t hg Tm,by omega,by omega,by simp [dP,Tm],?_⟩;dsimp only;rw [gt];rfl);rintro N' st ⟨i,s',Ib,rfl,hi,Tn,rfl⟩;simp only [dD,aV,aW];by_cases bH:i<ps.length;(·have hd:=kD bH;refine bY fun K hK=>?_;simp only [bc,hd,go_sem];refine hK _ ?_;refine bS (bD rfl (cR ?_));refine bS (cz ?_);obtain⟨u,hu⟩:=gA bH;have hus:=bX Ty.size hu;have kq:=fun l=>ZK u s' l Ib (by omega);(have AZ:(ps.take (i+1)).flatMap Ty.nodes=(ps.take i).flatMap Ty.nodes++u.nodes:=by rw [cg,hu];simp);(have EO:dP step s (t :: (ps.take (i+1)).flatMap Ty.nodes)=dP step s' u.nodes:=by rw [AZ,<- al,jS,Tn];simp);refine bY fun K hK=>?_;simp only [cK,hu,aF,au,hn,g0,gs,go_sem];refine hK _ ?_;refine bY fun K hK=>?_;simp only [gk2,g0,hn,go_sem];(refine .inr <| .inl ⟨_,_,kq _,?_⟩);(try simp only [go_sem]);refine hK _ ?_;cases To:(dP step s' u.nodes).2 with|false =>refine bD rfl ?_;refine bY fun K hK=>?_;simp only [go_sem];refine hK _ ?_;refine cy ⟨.inl rfl,?_⟩;(have oh:dP step s t.nodes=((dP step s' u.nodes).1,false):=by (have CB:ps.flatMap Ty.nodes=(ps.take (i+1)).flatMap Ty.nodes++(ps.drop (i+1)).flatMap Ty.nodes:=by rw [<- qq,ji]);rw [dI,CB,<- al,jS,EO,To];simp);rw [oh];exact⟨rfl,rfl,by dsimp only;rw [gt];exact hb _,(gt _ _).symm⟩|true =>refine bD rfl (cR ?_);show fc _ _ _ _ _ _;refine jR fun K hK=>?_;simp only [go_sem];refine hK _ ?_;have iR:=bj i (by omega);rw [iR];refine⟨ps.length-(i+1),by omega,n,(false::true::true::(rp 9 false [true,true,true])),by rw [hn];exact aA _,by simp only [cp,aQ,bC,a6,zB,gW,kh,lP],by dsimp only;rw [gt];exact hb _,i+1,(dP step s' u.nodes).1,rL step hG _ _ Ib To,rfl,bH,by rw [EO,<- To],?_⟩;dsimp only;rw [gt];rfl);have hd:=kE bH;refine bY fun K hK=>?_;simp only [bc,hd,go_sem];refine hK _ ?_;refine bS (bD rfl (fA ?_));(have jx:i=ps.length:=by omega);subst jx;show fc _ _ _ _ _ _;refine bY fun K hK=>?_;simp only [go_sem];refine hK _ ?_;refine cy ⟨.inl rfl,?_⟩;rw [aE] at Tn;rw [dI,Tn];exact⟨rfl,rfl,by dsimp only;rw [ZJ];exact hb _,(ZJ _).symm⟩
end
end
section
theorem Ju (t:Ty) (m:List bx) (hb:m.all (a6 (m.length+1))=true):bK ak 88 [cA t] m (.jh (.func 169) [] [.ptr m.length 0]) (m++[.box (au t)]):=by
 refine oO tt_ok (fn:=Tryz.f88) (m.length+1) (by omega) Tryz.func88 rfl Tryz.call88 ?_;simp only [dD,dj,Tryz.ntmps88,af,ah,zA,zF,aV,aW];rw [aF];simp only [au];refine bY fun K hK=>?_;simp only [go_sem];refine hK _ ?_;refine bY fun K hK=>?_;simp only [go_sem];refine hK _ ?_;have ht:∀ B:bx,(m++[B]).take (m.length+1)=m++[B]:=fun B=>b8 (by simp);refine cy ⟨.inl rfl,rfl,by simp [aQ,bC],?_,?_⟩;·dsimp only;rw [ht];simp [hb,a6,aQ,bC]
 dsimp only;rw [ht]
section
variable {σ:Type} {M:σ->List bx} {n k kt:Nat}
theorem XD (hn:∀ s,(M s).length=n) (hk:k<n) (P0:kt<n) {t:Ty} (h1:∀ s,(M s)[kt]?=some (.box (au t))) (hb:∀ s,(M s).all (a6 n)=true)
  (step:σ->Ty->σ×Bool) (G:σ->Prop) (hG:∀ s u,G s->(step s u).2=true->G (step s u).1) {B:Nat} (hB:B<=1048576) (hy:∀ s u,G s->u.size<=B->KJ ak k [cA u] (M s) (step s u).2 (M (step s u).1)) (ht:t.size<=B) (s:σ) (hs:G s) :
  bK ak 169 [.kx k,.ptr kt 0] (M s) (.fZ []) (M (dP step s t.nodes).1):=by
 have g0:∀ s (l:List bx),(M s++l)[n]?=l[0]?:=fun s l=>by rw [bm (by rw [hn];exact aA _),hn,dW]
 have g1:∀ s (l:List bx),(M s++l)[n+1]?=l[1]?:=fun s l=>by rw [bm (by rw [hn];omega),hn,eC]
 have ZL:∀ s (l:List bx),(M s++l)[kt]?=some (.box (au t)):=fun s l=>by rw [bz (by rw [hn];exact P0)];exact h1 s
 have gs:∀ s (l:List bx) X,(M s++l).set (n+1) X=M s++l.set 1 X:=fun s l X=>by rw [eR _ _ (by rw [hn];omega),hn,eC]
 have gt:∀ s (l:List bx),(M s++l).take n=M s:=fun s l=>by rw [<- hn s,rW]
 have hw:∀ s,G s->bK ak 170 [cA t,.ptr n 0,.ptr (n+1) 0] (M s++[.box [.kx k],.box [.jh (.func 170) [] [.ptr n 0,.ptr (n+1) 0]]]) (bl (dP step s t.nodes).2) (M (dP step s t.nodes).1++[.box [.kx k],.box [.jh (.func 170) [] [.ptr n 0,.ptr (n+1) 0]]]):=fun s hs=>by refine XC (M:=fun s=>M s++[.box [.kx k],.box [.jh (.func 170) [] [.ptr n 0,.ptr (n+1) 0]]]) (n:=n+2) (k:=k) (k1:=n) (k2:=n+1) (fun s=>by simp [hn]) (by omega) (by omega) (by omega) (fun s=>g0 _ _) (fun s=>g1 _ _) (fun s=>?_) step G hG hB (fun s u hg hu=>?_) t.size t s hs (aA _) ht;(·rw [mO,aG];refine⟨rz (by omega) (hb s),?_⟩;simp [a6,aQ,bC];omega);refine (hy s u hg hu).frame (by rw [hn];exact hk) ?_ (by rw [hn];exact hb s) (by rw [hn,hn]) (by rw [hn];exact hb _) _;rw [aF];simp [aQ,bC,au]
 refine oO tt_ok (fn:=Tryz.f169) n (by rw [hn];exact aA _) Tryz.func169 rfl Tryz.call169 ?_;simp only [dD,dj,Tryz.ntmps169,af,ah,zA,zF,aV,aW];have vk:=hw s hs;rw [aF] at vk;simp only [au] at vk ZL;refine bY fun K hK=>?_;simp only [hn,go_sem];refine hK _ ?_;refine bY fun K hK=>?_;simp only [hn,ab,ay,go_sem];refine hK _ ?_;refine bY fun K hK=>?_;simp only [hn,g1,gs,go_sem];refine hK _ ?_;refine jR fun K hK=>?_;simp only [hn,g1,ZL,go_sem];refine .inr <| .inl ⟨_,_,vk,?_⟩
 try simp only [go_sem]
 refine hK _ ?_;refine⟨.inr rfl,rfl,rfl,?_,?_⟩;·dsimp only;rw [gt];exact hb _
 dsimp only;rw [gt]
def jy {α:Type} (step:σ->α->σ×Option Code):σ->List α->σ×Option Code
 | s,[]=>(s,none)
 | s,u :: r=>match (step s u).2 with
  | none=>jy step (step s u).1 r
  | some c=>((step s u).1,some c)
def xI {α:Type} (step:σ->α->σ×Option Code) (s:σ×Option Code) (u:α):(σ×Option Code)×Bool:=(step s.1 u,(step s.1 u).2.isNone)
theorem A3 {α:Type} (step:σ->α->σ×Option Code):∀ (l:List α) (s:σ),(dP (xI step) (s,none) l).1=jy step s l
 | [],s=>rfl
 | u :: r,s=>by
  simp only [dP,jy]
  have j8:(xI step (s,none) u).1=step s u:=rfl
  have nD:(xI step (s,none) u).2=(step s u).2.isNone:=rfl
  by_cases Eg:(step s u).2.isNone=true
  ·rw [gH (nD.trans Eg),j8]
   have h2:(step s u).2=none:=by simpa using Eg
   have e:step s u=((step s u).1,none):=avZ rfl h2
   have h3:=A3 step r (step s u).1
   rw [<- e] at h3
   rw [h2]
   exact h3
  have Tp:=Eg
  rw [g5 (fun h=>Tp (nD.symm.trans h)),j8]
  cases h2:(step s u).2 with
  | none=>rw [h2] at Tp;exact absurd rfl Tp
  | some c=>dsimp only;exact avZ rfl h2
theorem take_set {mem pre:List bx} {n:Nat} {X Y:bx} (hn:pre.length=n) (h1:mem[n]?=some Y) (h2:mem.take n=pre):(mem.set n X).take (n+1)=pre++[X]:=by
 have bH:n<mem.length:=(az.1 h1).1;refine eh fun i=>?_;by_cases hi:i<n;·rw [hH (by omega),cT (by omega),bz (by omega),<- h2,hH hi]
 by_cases pY:i=n;·subst pY;rw [hH (by omega),fi bH,bm (by omega)];simp [hn]
 rw [ep (by simp;omega),ep (by simp [hn];omega)]
theorem P1 {n0:Nat} {st:St} {Q:Exit->St->Prop} {f:Operand} {params:Array Tmp} {assign body:Code} {t:Ty} (pre:σ->List bx) (s0:σ) (n kt:Nat) (nG:st.mem=pre s0) (hn:∀ s,(pre s).length=n) (P0:kt<n)
  (ht:∀ s,(pre s)[kt]?=some (.box (au t))) (hb:∀ s,(pre s).all (a6 (n+1))=true) (AM:st.fr.all (aQ (n+1))=true) (hf:st.eval f = .jh (.func 169) [] [.ptr kt 0]) (hp:params.size=1) (step:σ->Ty->σ×Option Code) {B:Nat} (hB:B<=1048576) (ly:t.size<=B)
  (CC:∀ s u,u.size<=B->∀ (l:Nat) (LR LB:bx),a6 (n+1) LR=true->a6 (n+1) LB=true->fc ak (some l) (n+1) assign { fr:=pL params.toList [cA u] st.fr,mem:=pre s++[LR] } fun ex uR=>ex = .normal/\uR.mem[n]?=some LR /\
   fc ak (some l) (n+1) body { uR with mem:=uR.mem.set n LB } fun ex AO=>s6 ex=some (step s u).2/\AO.mem[n]?=some LB/\AO.mem.take n=pre (step s u).1)
  (hq:match (jy step s0 t.nodes).2 with
   | none=>Q .normal { st with mem:=pre (jy step s0 t.nodes).1++[.dead] }
   | some c=>fc ak none n0 c { st with mem:=pre (jy step s0 t.nodes).1++[.dead] } Q):fc ak none n0 (.rangeFunc f params assign body) st Q:=by
 have hlen:st.mem.length=n:=by rw [nG,hn]
 have gn:∀ s X,(pre s++[X])[n]?=some X:=fun s X=>by rw [bm (by rw [hn];exact aA _),hn,dW];rfl
 have gk:∀ s X,(pre s++[X])[kt]?=some (.box (au t)):=fun s X=>by rw [bz (by rw [hn];exact P0)];exact ht s
 have Jv:∀ s (X Y:bx),(pre s++[X]).set n Y=pre s++[Y]:=fun s X Y=>by rw [eR _ _ (by rw [hn];exact aA _),hn,dW];rfl
 have Ab:∀ (s:σ) (a:LoopState) (b:Option Code),(pre s++[bx.loop a b st.fr params assign body]).all (a6 (n+1))=true:=fun s a b=>by rw [mO,aG];exact⟨hb s,by simp only [cI,ew,aJ,a6];exact AM⟩
 have it:=XD (M:=fun s:σ×Option Code=>pre s.1++[.loop (if s.2.isNone then .ready else .done) s.2 st.fr params assign body]) (n:=n+1) (k:=n) (kt:=kt) (t:=t) (fun s=>by simp [hn]) (by omega) (by omega) (fun s=>gk _ _) (fun s=>Ab _ _ _)
  (xI step) (fun s=>s.2=none) (fun s u hs h=>by simpa [xI] using h) hB (fun s u hs hu=>by
   obtain⟨s,j⟩:=s
   simp only at hs;subst hs
   refine s7 (fr:=st.fr) (params:=params) (assign:=assign) (body:=body) (gn _ _) (by simp [hp]) fun l=>?_
   have hl:(pre s++[bx.loop .ready none st.fr params assign body]).length=n+1:=by simp [hn]
   simp only [aeX,if_true,hl]
   refine fc.mono (CC s u hu l (.loop .ready none st.fr params assign body) (.loop .busy none st.fr params assign body) AM AM) ?_
   rintro ex uR ⟨h1,h2,h3⟩
   refine⟨h1,h2,fc.mono h3 ?_⟩
   rintro ex AO ⟨h4,h5,h6⟩
   refine⟨_,h4,rfl,h5,?_,?_⟩
   ·rw [take_set (hn _) h5 h6];exact Ab _ _ _
   rw [take_set (hn _) h5 h6];rfl) ly (s0,none) rfl
 rw [A3] at it;refine qi (g:=169) (vs:=[.kx n,.ptr kt 0]) (by rw [hf,hlen];rfl) (by rw [nG];exact it) ?_;rw [hlen];refine⟨_,_,_,_,_,_,gn _ _,?_,?_⟩;·cases (jy step s0 t.nodes).2 <;> simp
 generalize hj:(jy step s0 t.nodes).2=j at hq;cases j with|none=>dsimp only at hq ⊢;rw [Jv];exact hq|some c=>dsimp only at hq ⊢;rw [Jv];exact hq
end
end
theorem we {σ α:Type} (g:σ->α->σ):∀ (l:List α) (s:σ),jy (fun s u=>(g s u,none)) s l=(l.foldl g s,none)
 | [],s=>rfl
 | u :: r,s=>by simp only [jy,kZ];exact we g r _
theorem CD {α:Type}:∀ (l:List α) (a:Nat),a+l.length<=1152921504606846976->l.foldl (fun (s:Int) _=>IntKind.i64.wrap (s+1)) (a:Int)=((a+l.length:Nat):Int)
 | [],a,_=>rfl
 | _ :: r,a,h=>by
  simp only [af] at h
  rw [kZ,bj a (by omega),CD r (a+1) (by omega),af]
  congr 1;omega
theorem nc (t:Ty) (ht:t.size<=1048576):dz ak 86 [cA t] (num t.size):=by
 refine jt Tryz.func86 Tryz.call86 ?_;simp only [dD,dj,Tryz.ntmps86,af,ah,zA,zF,aV,aW];have h51:=fun B0 B1 h=>Ju t [B0,B1] h;rw [aF] at h51 ⊢;simp only [au] at h51 ⊢;refine bY fun K hK=>?_;simp only [go_sem];refine hK _ ?_;refine bY fun K hK=>?_;simp only [go_sem];refine hK _ ?_;refine bS ?_;refine bY fun K hK=>?_;simp only [go_sem];refine .inr <| .inl ⟨_,_,h51 _ _ rfl,?_⟩
 try simp only [go_sem]
 refine hK _ ?_;refine cz (P1 (t:=t) (B:=1048576) (fun s:Int=>[.box (au t),.box [num s],.box (au t)]) 0 3 2 rfl (fun _=>rfl) (by omega) (fun _=>rfl) (fun _=>rfl) rfl rfl rfl (fun s _=>(IntKind.i64.wrap (s+1),none)) (by omega) ht ?_ ?_);·intro s u hu l LR LB hLR hLB;refine cR ⟨rfl,rfl,cz ?_⟩;refine jR fun K hK=>?_;simp only [go_sem];refine hK _ ?_;exact⟨rfl,rfl,rfl⟩
 rw [we,show (0:Int)=((0:Nat):Int) from rfl,CD _ _ (by rw [Ty.xH _ t (aA _)];omega),Ty.xH _ t (aA _),dc];show fc _ _ _ _ _ _;refine bY fun K hK=>?_;simp only [go_sem];refine hK _ ?_;exact cy ⟨.inl rfl,rfl⟩
def cx {α:Type} (f:α->Int):List α->Int
  | []=>0
  | u :: r=>if f u=0 then cx f r else f u
def yV (a b:g6):Int:=if a=b then 5 else if S3 b a=true then 1 else 0
def iU:List g6->Int
  | []=>0
  | a :: r=>match r with
    | []=>0
    | b :: _=>if yV a b=0 then iU r else yV a b
def eZ (t:Ty):Bool:=decide (t.kind=0)&&jI t.mod&&jI t.name&&decide (t.args.length=0)&&decide (t.bT.length=0)
def L8 (t:Ty):Bool :=
  (decide (t.kind=8) || !(t.bT.any Fd.opt)) &&
  (if t.kind=0\/t.kind=1\/t.kind=2\/t.kind=3\/t.kind=4 then jI t.mod&&jI t.name&&decide (t.args.length=0)&&decide (t.bT.length=0)
   else if t.kind=5 then jI t.mod&&jI t.name&&decide (t.args.length=1)&&decide (t.bT.length=0)
   else if t.kind=6\/t.kind=7 then jI t.mod&&jI t.name&&decide (t.args.length=0)
   else if t.kind=8 then jI t.mod&&jI t.name&&decide (t.args.length=1)
   else if t.kind=9 then jI t.mod&&decide (t.args.length=0)&&decide (t.bT.length=0)
   else if t.kind=10 then decide (t.bT.length=0) else false)
def pd (t:Ty):Int :=
  if L8 t=false then 1
  else if 32<t.bT.length\/8<t.args.length then 7
  else if (t.kind=9/\yR t.name=false)\/(t.kind=10/\(lD t.mod=false\/iv t.name=false)) then 4
  else if (t.bT.any fun f=>!dC f.name)=true then 4
  else iU (t.bT.map Fd.name)
def j0 (t:Ty):Int:=if 4096<t.size\/32<t.depth then 7 else cx pd t.nodes
end Go.Proofs.YtfbbfmcggbapoaaGreatDoor
end
