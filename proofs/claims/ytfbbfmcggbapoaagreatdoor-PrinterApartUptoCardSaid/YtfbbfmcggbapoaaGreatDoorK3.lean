import Derived.Test.YtfbbfmcggbapoaaGreatDoorK2
import Derived.Shelf.Small.Wraps
import Derived.Shelf.Strings.Search3
import Derived.Shelf.Strings.Split
import Derived.Test.YtfbbfmcggbapoaaGreatDoorProg
import Derived.IntWalk
open Array renaming toArray_toList→cr
open Bool renaming and_eq_true→aJ,and_true→aU
open Go.Proofs.Tryz renaming prog→aj
open Int renaming le_refl→bY
open List renaming all_append→o7,all_cons→cI,all_eq_true→aN,all_nil→dM,append_assoc→al,cons_append→aw,ext_getElem?→dC,flatMap_append→lN,flatMap_cons→ab,foldl_cons→o3,getElem?_append_left→bh,getElem?_append_right→aX,getElem?_eq_getElem→au,getElem?_eq_none→cH,getElem?_eq_none_iff→auX,getElem?_eq_some_iff→aA,getElem?_map→aq,getElem?_set_ne→cD,getElem?_set_self→eJ,getElem?_take_of_lt→jf,headD_cons→cg,length_append→ae,length_cons→af,length_map→ax,length_nil→ai,mem_iff_getElem?→bB,mem_of_getElem?→aE,replicate_succ→aG,replicate_zero→aH,set_append_right→ic,take_add_one→bH,take_append_drop→nB,take_left→qK,take_length→az,take_of_length_le→dX
open Nat renaming add_sub_cancel_left→dQ,le_antisymm→auu,le_of_not_lt→auA,le_refl→ay,lt_or_ge→bS,not_lt_zero→iH,sub_self→eI,zero_add→dL,zero_le→ck
open Option renaming getD_some→atZ,isNone_none→ac6,map_eq_some_iff→aY,map_some→b9
open Prod renaming ext→atQ
set_option linter.all false
section
namespace Go.Proofs.YtfbbfmcggbapoaaGreatDoor
set_option maxHeartbeats 4000000
set_option maxRecDepth 100000
section
open Go.RowKit Go.Lib Go.Shelf
def GV:Go.Shelf.Ren:=⟨fun|103=>273|210=>286|206=>298|n=>n,fun|9=>9|4=>4|24=>254|3=>3|n=>n,fun|n=>n⟩
theorem Vn:Go.Proofs.Lays.n103 aj GV := {
 mixed:=kr
 f103:=Tryz.func273.trans (congrArg some kr)
 f206:=Tryz.func298.trans (congrArg some kr)
 f210:=Tryz.func286.trans (congrArg some kr)
 t3:=Tryz.underlying3
 a3:=Tryz.isAgg3
 z3:=Tryz.sizeOf3
 v3:=Tryz.zeroValue3
 t4:=Tryz.underlying4
 a4:=Tryz.isAgg4
 z4:=Tryz.sizeOf4
 v4:=Tryz.zeroValue4
 t9:=Tryz.underlying9
 a9:=Tryz.isAgg9
 z9:=Tryz.sizeOf9
 v9:=Tryz.zeroValue9
 t24:=Tryz.underlying254
 a24:=Tryz.isAgg254
 z24:=Tryz.sizeOf254
 v24:=Tryz.zeroValue254 }
theorem strings_CutPrefix (s p:ByteArray) (w:World) :
  Calls aj 273 #[.string s,.string p] w fun e w'=>e = .returned (.tuple #[.string ⟨(Lib.trimPrefix s.data.toList p.data.toList).toArray⟩,.bool (Lib.hasPrefix s.data.toList p.data.toList)])∧w'=w:=Any.strings_CutPrefix Vn s p w
def GX:Go.Shelf.Ren:=⟨fun|144=>247|143=>274|219=>287|217=>299|225=>300|224=>301|267=>302|266=>306|314=>307|n=>n,fun|9=>9|4=>4|3=>3|5=>5|46=>209|146=>276|51=>268|n=>n,fun|1=>0|n=>n⟩
theorem Vo:Go.Proofs.Lays.n144 aj GX := {
 mixed:=kr
 f143:=Tryz.func274.trans (congrArg some kr)
 f144:=Tryz.func247.trans (congrArg some kr)
 f217:=Tryz.func299.trans (congrArg some kr)
 f219:=Tryz.func287.trans (congrArg some kr)
 f224:=Tryz.func301.trans (congrArg some kr)
 f225:=Tryz.func300.trans (congrArg some kr)
 f266:=Tryz.func306.trans (congrArg some kr)
 f267:=Tryz.func302.trans (congrArg some kr)
 f314:=Tryz.func307.trans (congrArg some kr)
 t3:=Tryz.underlying3
 a3:=Tryz.isAgg3
 z3:=Tryz.sizeOf3
 v3:=Tryz.zeroValue3
 t4:=Tryz.underlying4
 a4:=Tryz.isAgg4
 z4:=Tryz.sizeOf4
 v4:=Tryz.zeroValue4
 t5:=Tryz.underlying5
 a5:=Tryz.isAgg5
 z5:=Tryz.sizeOf5
 v5:=Tryz.zeroValue5
 t9:=Tryz.underlying9
 a9:=Tryz.isAgg9
 z9:=Tryz.sizeOf9
 v9:=Tryz.zeroValue9
 t46:=Tryz.underlying209
 a46:=Tryz.isAgg209
 z46:=Tryz.sizeOf209
 v46:=Tryz.zeroValue209
 t51:=Tryz.underlying268
 a51:=Tryz.isAgg268
 z51:=Tryz.sizeOf268
 v51:=Tryz.zeroValue268
 t146:=Tryz.underlying276
 a146:=Tryz.isAgg276
 z146:=Tryz.sizeOf276
 v146:=Tryz.zeroValue276
 g1:=kr }
theorem strings_Contains (s sub:ByteArray) (m:Int) (w:World) (hs:s.size<4294967281) (hm:w.cell? ⟨0,0,none⟩=some (.int .i64 m)) :
  Calls aj 247 #[.string s,.string sub] w fun e w'=>e = .returned (.bool (Lib.contains s.data.toList sub.data.toList))∧w'=w:=Any.strings_Contains Vo s sub m w hs hm
def GY:Go.Shelf.Ren:=⟨fun|146=>242|221=>272|268=>284|138=>285|143=>274|195=>295|197=>296|218=>297|219=>287|260=>305|217=>299|225=>300|224=>301|267=>302|266=>306|314=>307|n=>n,fun|9=>9|31=>119|3=>3|4=>4|0=>0|105=>272|21=>21|5=>5|46=>209|119=>280|139=>283|138=>282|146=>276|51=>268|n=>n,fun|1=>0|3=>4|4=>5|n=>n⟩
theorem Vp:Go.Proofs.Lays.n146 aj GY := {
 mixed:=kr
 f138:=Tryz.func285.trans (congrArg some kr)
 f143:=Tryz.func274.trans (congrArg some kr)
 f146:=Tryz.func242.trans (congrArg some kr)
 f195:=Tryz.func295.trans (congrArg some kr)
 f197:=Tryz.func296.trans (congrArg some kr)
 f217:=Tryz.func299.trans (congrArg some kr)
 f218:=Tryz.func297.trans (congrArg some kr)
 f219:=Tryz.func287.trans (congrArg some kr)
 f221:=Tryz.func272.trans (congrArg some kr)
 f224:=Tryz.func301.trans (congrArg some kr)
 f225:=Tryz.func300.trans (congrArg some kr)
 f260:=Tryz.func305.trans (congrArg some kr)
 f266:=Tryz.func306.trans (congrArg some kr)
 f267:=Tryz.func302.trans (congrArg some kr)
 f268:=Tryz.func284.trans (congrArg some kr)
 f314:=Tryz.func307.trans (congrArg some kr)
 t0:=Tryz.underlying0
 a0:=Tryz.isAgg0
 z0:=Tryz.sizeOf0
 v0:=Tryz.zeroValue0
 t3:=Tryz.underlying3
 a3:=Tryz.isAgg3
 z3:=Tryz.sizeOf3
 v3:=Tryz.zeroValue3
 t4:=Tryz.underlying4
 a4:=Tryz.isAgg4
 z4:=Tryz.sizeOf4
 v4:=Tryz.zeroValue4
 t5:=Tryz.underlying5
 a5:=Tryz.isAgg5
 z5:=Tryz.sizeOf5
 v5:=Tryz.zeroValue5
 t9:=Tryz.underlying9
 a9:=Tryz.isAgg9
 z9:=Tryz.sizeOf9
 v9:=Tryz.zeroValue9
 t21:=Tryz.underlying21
 a21:=Tryz.isAgg21
 z21:=Tryz.sizeOf21
 v21:=Tryz.zeroValue21
 t31:=Tryz.underlying119
 a31:=Tryz.isAgg119
 z31:=Tryz.sizeOf119
 v31:=Tryz.zeroValue119
 t46:=Tryz.underlying209
 a46:=Tryz.isAgg209
 z46:=Tryz.sizeOf209
 v46:=Tryz.zeroValue209
 t51:=Tryz.underlying268
 a51:=Tryz.isAgg268
 z51:=Tryz.sizeOf268
 v51:=Tryz.zeroValue268
 t105:=Tryz.underlying272
 a105:=Tryz.isAgg272
 z105:=Tryz.sizeOf272
 v105:=Tryz.zeroValue272
 t119:=Tryz.underlying280
 a119:=Tryz.isAgg280
 z119:=Tryz.sizeOf280
 t138:=Tryz.underlying282
 a138:=Tryz.isAgg282
 z138:=Tryz.sizeOf282
 v138:=Tryz.zeroValue282
 t139:=Tryz.underlying283
 a139:=Tryz.isAgg283
 z139:=Tryz.sizeOf283
 v139:=Tryz.zeroValue283
 t146:=Tryz.underlying276
 a146:=Tryz.isAgg276
 z146:=Tryz.sizeOf276
 v146:=Tryz.zeroValue276
 g1:=kr
 g3:=kr
 g4:=kr }
theorem strings_Split (s sep:ByteArray) (m:Int) (w:World) (hs:s.size<4294967281) (hm:w.cell? ⟨0,0,none⟩=some (.int .i64 m)) (h1:1≤sep.size) :
  Calls aj 242 #[.string s,.string sep] w fun e w' =>
   e = .returned (.slice (some ⟨w.heap.size,0,none⟩) (Lib.countB s sep+1) (Lib.countB s sep+1))∧w'=w.alloc (.cells ((Lib.splitB sep 0 (Lib.countB s sep) s).map Value.string).toArray 9):=Any.strings_Split Vp kr s sep m w hs hm h1
end
end Go.Proofs.YtfbbfmcggbapoaaGreatDoor
end
section
namespace Go.Eng
variable [ba]
open Go.RowKit (Below)
theorem bJ.of_same {P:Program} {f:FuncId} {l:List Value} {v:Value} (hc:∀ (xs:Array Value) (w:World),(callFunc f xs).run P w = .ok (.enter f xs) w) (hG:ba.g=some 0)
  (h:∀ w:World,w.cell? ⟨0,0,none⟩=some (.int .i64 ba.n)→Calls P f l.toArray w fun e w'=>e = .returned v∧w'=w):bJ P f (l.map V.sc) (kf v):=by
 refine⟨hc,fun F hg w xs hF hx=>?_⟩;have rj:xs=l.toArray:=by rw [← cr (xs:=xs)];congr 1;refine dC fun i=>?_;cases hi:l[i]? with|none =>have h1:=hx.1;rw [ax] at h1;rw [cH (by have:=auX.1 hi;omega)]|some a =>obtain⟨y,hy,hr⟩:=hx.get (i:=i) (v:=.sc a) (by rw [aq,hi];rfl);rw [hy,eT hr]
 rw [rj];refine (h w (hF _ _ (hg.n 0 hG))).mono ?_;rintro e w' ⟨rfl,rfl⟩;exact⟨F,_,rfl,fun _ _ h=>h,hF,fun _ _ h=>.inl h,⟨hg,kn _ _⟩,Below.refl _ _⟩
end Go.Eng
namespace Go.Proofs.YtfbbfmcggbapoaaGreatDoor
open Go.Eng
open Go.RowKit (Below)
variable [ba]
theorem su (hG:ba.g=some 0) (s t:ByteArray) (hs:s.size<4294967281):bJ aj 247 [str s,str t] (bl (Lib.contains s.data.toList t.data.toList)) :=
 bJ.of_same (l:=[.string s,.string t]) Tryz.call247 hG fun w hw=>strings_Contains s t ba.n w hs hw
theorem Nd (hG:ba.g=some 0) (s t:ByteArray):bJ aj 273 [str s,str t] (.dR [str ⟨(Lib.trimPrefix s.data.toList t.data.toList).toArray⟩,bl (Lib.hasPrefix s.data.toList t.data.toList)]) :=
 bJ.of_same (l:=[.string s,.string t]) Tryz.call273 hG fun w _=>strings_CutPrefix s t w
def pieces (s:ByteArray):List ByteArray:=Lib.splitB ⟨#[47]⟩ 0 (Lib.countB s ⟨#[47]⟩) s
theorem oV (s:ByteArray):(pieces s).length=Lib.countB s ⟨#[47]⟩+1:=Lib.splitB_all ⟨#[47]⟩ (by decide) 0 _ s rfl
theorem QT (hG:ba.g=some 0) (s:ByteArray) (hs:s.size<4294967281):bJ aj 242 [str s,str ⟨#[47]⟩] (.slice ((pieces s).map str)):=by
 refine⟨Tryz.call242,fun F hg w xs hF hx=>?_⟩;obtain⟨x,ys,rj,hr,AV⟩:=hx.of_cons;obtain⟨y,zs,hys,FM,hz⟩:=AV.of_cons;have Po:=hz.of_nil;subst Po;have h1:=eT hr;have h2:=eT FM;subst h1;subst h2;subst hys;obtain rfl:xs = #[.string s,.string ⟨#[47]⟩]:=by rw [← cr (xs:=xs),rj]
 refine (strings_Split s ⟨#[47]⟩ ba.n w hs (hF _ _ (hg.n 0 hG)) (by decide)).mono ?_;rintro e w' ⟨rfl,rfl⟩;have hold:∀ ad y,F ad=some y→ad.block≠w.heap.size:=fun ad y h e=>by have:=World.block_lt_of_cell? w ad (hF ad y h);omega
 have oL:∀ o,(w.alloc (.cells ((pieces s).map Value.string).toArray 9)).cell? ⟨w.heap.size,o,none⟩=((pieces s).map Value.string)[o]?:=fun o=>by unfold World.cell? World.alloc;simp
 let F':Addr→Option Value:=fun ad=>if ad.block=w.heap.size then (w.alloc (.cells ((pieces s).map Value.string).toArray 9)).cell? ad else F ad;have hFF:∀ ad y,F ad=some y→F' ad=some y:=fun ad y h=>by show (if _ then _ else _)=_;rw [if_neg (hold ad y h)];exact h
 have FQ:Gl F':=hg.mono hFF;refine⟨F',_,rfl,hFF,fun ad y h=>?_,fun ad y h=>?_,⟨FQ,?_⟩,(Below.refl _ _).alloc (ay _) _⟩;·by_cases hb:ad.block=w.heap.size;(·rw [show F' ad=_ from if_pos hb] at h;exact h);rw [show F' ad=_ from if_neg hb] at h;have h3:=hF ad y h;rw [← h3];have bQ:=World.block_lt_of_cell? w ad h3;unfold World.cell?;rw [Below.heap_alloc w _ _ bQ]
 ·by_cases hb:ad.block=w.heap.size;(·exact .inr (by omega));rw [show F' ad=_ from if_neg hb] at h;exact .inl h
 have hl:((pieces s).map str).length=Lib.countB s ⟨#[47]⟩+1:=by rw [ax,oV]
 have:=cT.slice ⟨F',fun _ _=>none,FQ⟩ ((pieces s).map str) (some ⟨w.heap.size,0,none⟩) (Lib.countB s ⟨#[47]⟩+1) 1 ⟨w.heap.size,0,none⟩ (fun i _=>(((pieces s).map Value.string)[i]?).getD undef) (fun _=>rfl) (by rw [hl];exact ay _)
  (fun i row hi=>by rw [aq,aY] at hi;obtain⟨u,-,rfl⟩:=hi;rfl)
  (fun i row j c hi hj=>by
   rw [aq,aY] at hi
   obtain⟨u,hu,rfl⟩:=hi
   match j,hj with
   | 0,hj =>
    show F' _=_
    rw [add_lit,show F' _=_ from if_pos rfl,oL]
    simp [hu]
   | j+1,hj=>simp [V.cells] at hj)
  (fun i row j c hi hj=>by
   rw [aq,aY] at hi
   obtain⟨u,hu,rfl⟩:=hi
   simp [hu,Value.oneCell'])
  (fun i row j c hi hj=>by
   rw [aq,aY] at hi
   obtain⟨u,hu,rfl⟩:=hi
   match j,hj with
   | 0,hj =>
    cases hj
    simp only [aq,hu,b9,atZ]
    exact .sc _ _
   | j+1,hj=>simp [V.cells] at hj)
 rw [hl] at this;exact this
end Go.Proofs.YtfbbfmcggbapoaaGreatDoor
end
section
namespace Go.Proofs.YtfbbfmcggbapoaaGreatDoor
open Go.Eng
variable [ba]
open Nat renaming reduceAdd → zA, reduceLT → zB, reduceLeDiff → zC, reduceMul → zD, reduceEqDiff → zE, reduceSub → zF
set_option maxHeartbeats 4000000
set_option maxRecDepth 100000
def afk:ByteArray:=⟨#[32,97,110,100,32,97,110,121,32,97,115,32,98,111,111,108,32,100,101,112,114,101,99,97,116,101,100,32,101,108,115,101,32,101,120,112,111,114,116,32,102,97,108,115,101,32,102,110,32,102,111,108,100,32,102,114,111,109,32,105,102,32,105,109,112,111,114,116,32,105,110,32,105,110,116,32,108,101,110,103,116,104,32,108,101,116,32,108,105,115,116,32,109,97,116,99,104,32,109,111,100,117,108,101,32,110,111,110,101,32,110,111,116,32,111,114,32,116,101,120,116,32,116,104,101,110,32,116,114,117,101,32,116,121,112,101,32,117,115,101,32]⟩
def kwB (s:ByteArray):Bool:=Lib.contains afk.data.toList (⟨#[32]⟩++s++⟨#[32]⟩:ByteArray).data.toList
def dz (s:ByteArray):Bool:=decide (1≤s.size)&&decide (s.size≤32)&&vT (lF s 0)&&ss GR s && !kwB s
def GZ (s:ByteArray):Bool:=dz s&&ss Vl s
def Ew (s:ByteArray):ByteArray:=⟨(Lib.trimPrefix s.data.toList [118]).toArray⟩
def QU (s:ByteArray):Bool:=Lib.hasPrefix s.data.toList [118]
def pI (t:ByteArray):Nat→Int
 | 0=>0
 | k+1=>10*pI t k+(lF t k-48)
def tI (t:ByteArray):Bool:=decide (1≤t.size)&&decide (t.size≤3) && !(decide (1<t.size)&&decide (lF t 0=48))&&ss uL t
def qS (s:ByteArray):Bool:=QU s&&tI (Ew s)
def Cp (s:ByteArray):Int:=pI (Ew s) (Ew s).size
theorem AW {p:Int→Bool} {s:ByteArray} (h:ss p s=true) {i:Nat} {c:UInt8} (hc:s[i]?=some c):p c.toNat=true:=aN.1 h c (aE (AR hc))
theorem AX {t:ByteArray} (h:ss uL t=true):∀ k,k≤t.size→0≤pI t k∧pI t k<10 ^ k
 | 0,_=>⟨bY _,by simp [pI]⟩
 | k+1,hk=>by
  obtain⟨h1,h2⟩:=AX h k (by omega)
  obtain⟨c,hc⟩:=ji (s:=t) (i:=k) (by omega)
  have h3:=AW h hc
  unfold uL at h3
  simp only [aJ,decide_eq_true_eq] at h3
  rw [pI,kR hc,Int.pow_succ]
  omega
theorem QV {t:ByteArray} (h:ss uL t=true) (h3:t.size≤3) {k:Nat} (hk:k≤t.size):0≤pI t k∧pI t k<1000:=by
 obtain⟨h1,h2⟩:=AX h k hk;refine⟨h1,Int.lt_of_lt_of_le h2 ?_⟩;have:k=0∨k=1∨k=2∨k=3:=by omega
 rcases this with rfl|rfl|rfl|rfl <;> decide
theorem Jr (hG:ba.g=some 0) (s:ByteArray) (hs:s.size≤1000000):Cn 240 [str s] (bl (kwB s)):=by refine jq tt_ok [] 7 [.tmp 2] (fn:=Tryz.f240) Tryz.func240 rfl Tryz.call240 ⟨rfl,rfl,by simp⟩ fun K hK=>?_;have sa1:=fun x y=>KS aj 9 x y ⟨#[32]⟩ s (by rw [show (⟨#[32]⟩:ByteArray).size=1 from rfl,show IntKind.i64.max=9223372036854775807 from rfl];omega);have sa2:=fun x y=>KS aj 9 x y (⟨#[32]⟩++s) ⟨#[32]⟩ (by rw [ByteArray.size_append,show (⟨#[32]⟩:ByteArray).size=1 from rfl,show IntKind.i64.max=9223372036854775807 from rfl];omega);simp only [sa1,sa2,go_sem];refine ep (⟨_,rfl,su hG _ _ (by decide)⟩) ?_;simp only [sa1,sa2,go_sem];exact hK _ rfl
theorem iA (hG:ba.g=some 0) (s:ByteArray):Cn 176 [str s] (bl (dz s)):=by
 refine jq tt_ok [] 24 [.tmp 2] (fn:=Tryz.f176) Tryz.func176 rfl Tryz.call176 ⟨rfl,rfl,by simp⟩ fun K hK=>?_;have tH:aj.underlying 9=some .string:=kr;have sl:∀ (a:ByteArray) (ty:TypeId),ko aj (Builtin.len_ #[9] ty) [.sc (.string a)]=some (num a.size):=fun a ty=>kD (P:=aj) (tt:=tt) (T:=9) a tH ty;simp only [sl,go_sem];refine cC (fun vW=>?_) (fun vW=>?_);·have h1:=zr rfl vW;obtain⟨QW,sw⟩:=ji (s:=s) (i:=(0:Int).toNat) (by omega);have gf:=ku (P:=aj) s tH .i64 (0) (by omega) (c:=QW) sw;have kZ:lF s 0=QW.toNat:=kR sw;simp only [gf,sl,go_sem];refine cC (fun yw=>?_) (fun yw=>?_) <;> simp only [gf,sl,go_sem];(·refine ep (AS _) ?_;repeat' (simp only [gf,sl,go_sem];first|refine cC (fun hg=>?_) (fun hg=>?_)|refine ep (AU 238 GR Lq s (by have:=of_decide_eq_true yw;omega)) ?_|refine ep (Jr hG s (by have:=of_decide_eq_true yw;omega)) ?_|(exact hK _ (congrArg bl (by simp_all [dz] <;> (intros;omega))))));exact hK _ (congrArg bl (by simp_all [dz] <;> (intros;omega)))
 have h1:=vU rfl vW;simp only [sl,go_sem];exact hK _ (congrArg bl (by simp_all [dz] <;> (intros;omega)))
theorem Js (hG:ba.g=some 0) (s:ByteArray):Cn 243 [str s] (.dR [num (if qS s=true then Cp s else 0),bl (qS s)]):=by
 refine jq tt_ok [] 53 [.tmp 2,.tmp 3] (fn:=Tryz.f243) Tryz.func243 rfl Tryz.call243 ⟨rfl,rfl,by simp⟩ fun K hK=>?_;have tH:aj.underlying 9=some .string:=kr;have sl:∀ (a:ByteArray) (ty:TypeId),ko aj (Builtin.len_ #[9] ty) [.sc (.string a)]=some (num a.size):=fun a ty=>kD (P:=aj) (tt:=tt) (T:=9) a tH ty;have hT5:aj.underlying 5=some (.int .u8):=kr;have hT3:aj.underlying 3=some (.int .i64):=kr;have cv:=fun (k:IntKind) (n:Int)=>UB (P:=aj) (src:=5) (dst:=3) hT5 hT3 k n;simp only [sl,cv,go_sem];refine ep (⟨_,rfl,Nd hG s ⟨#[118]⟩⟩) ?_;obtain⟨t,ht⟩:∃ t,t=Ew s:=⟨_,rfl⟩;obtain⟨hv,hhv⟩:∃ b,b=QU s:=⟨_,rfl⟩;have e1:(⟨(Lib.trimPrefix s.data.toList [118]).toArray⟩:ByteArray)=t:=ht.symm;have e2:Lib.hasPrefix s.data.toList [118]=hv:=hhv.symm;have T8:qS s=(hv&&tI t):=by rw [hhv,ht];rfl
 simp only [e1,e2];simp only [sl,cv,go_sem];refine cC (fun vX=>?_) (fun vX=>?_)
 ·have ud:qS s=false:=by rw [T8];simp_all [tI] <;> (intros;omega)
  simp only [sl,cv,go_sem];refine hK _ ?_
  first
   | (rw [ud];rfl)
   | (rw [jH];subst jL;unfold Cp;rw [← ht];rfl)
 simp only [sl,cv,go_sem];refine cC (fun QX=>?_) (fun QX=>?_)
 ·have h1:t.size=0:=vU (e:=⟨#[]⟩) rfl (by rw [QX];rfl);have ud:qS s=false:=by rw [T8];simp_all [tI] <;> (intros;omega)
  simp only [sl,cv,go_sem];refine hK _ ?_
  first
   | (rw [ud];rfl)
   | (rw [jH];subst jL;unfold Cp;rw [← ht];rfl)
 have h1:1≤t.size:=zr (e:=⟨#[]⟩) rfl (by rw [QX];rfl);obtain⟨QW,sw⟩:=ji (s:=t) (i:=(0:Int).toNat) (by omega);have gf:=ku (P:=aj) t tH .i64 (0) (by omega) (c:=QW) sw;have kZ:lF t 0=QW.toNat:=kR sw;simp only [gf,sl,cv,go_sem];refine cC (fun Jt=>?_) (fun Jt=>?_)
 ·have ud:qS s=false:=by rw [T8];simp_all [tI] <;> (intros;omega)
  simp only [gf,sl,cv,go_sem];refine hK _ ?_
  first
   | (rw [ud];rfl)
   | (rw [jH];subst jL;unfold Cp;rw [← ht];rfl)
 simp only [gf,sl,cv,go_sem];refine cC (fun aax=>?_) (fun aax=>?_) <;> simp only [gf,sl,cv,go_sem]
 ·refine cC (fun aay=>?_) (fun aay=>?_)
  ·have ud:qS s=false:=by rw [T8];simp_all [tI] <;> (intros;omega)
   simp only [gf,sl,cv,go_sem];refine hK _ ?_
   first
    | (rw [ud];rfl)
    | (rw [jH];subst jL;unfold Cp;rw [← ht];rfl)
  simp only [gf,sl,cv,go_sem];refine ep (AU 245 uL vV t (by have:=of_decide_eq_false Jt;omega)) ?_;simp only [gf,sl,cv,go_sem];refine cC (fun aaz=>?_) (fun aaz=>?_)
  ·have ud:qS s=false:=by rw [T8];simp_all [tI] <;> (intros;omega)
   simp only [gf,sl,cv,go_sem];refine hK _ ?_
   first
    | (rw [ud];rfl)
    | (rw [jH];subst jL;unfold Cp;rw [← ht];rfl)
  have jH:qS s=true:=by rw [T8];simp_all [tI] <;> (intros;omega)
  have Nf:tI t=true:=by rw [T8] at jH;simp at jH;exact jH.2
  have hdg:ss uL t=true:=by unfold tI at Nf;simp only [aJ] at Nf;exact Nf.2
  have h3:t.size≤3:=by unfold tI at Nf;simp only [aJ,decide_eq_true_eq] at Nf;exact Nf.1.1.2
  simp only [gf,sl,cv,go_sem];refine iz tt_ok [] [40,5] 0 [0,2,3,37,39] (fun vs=>((t.size:Int)-Go.Eng.intOf (vs.headD .undef)).toNat) (fun vs=>∃ i:Nat,vs=[num i,num (pI t i)]∧i≤t.size) (by omega) (by simp only [gf,sl,cv,go_sem]) (⟨0,rfl,ck _⟩) fun vs hI Z1 fh=>?_;obtain⟨i,rfl,hi⟩:=hI;simp only [gf,sl,cv,go_sem];refine cC (fun Ju=>?_) (fun Ju=>?_);·(have bQ:i<t.size:=by simpa using Ju);have hw:=bN i (by omega);obtain⟨c,QR⟩:=ji (s:=t) (i:=i) bQ;have oz:=ku (P:=aj) t tH .i64 (i:Int) (by omega) (c:=c) (show t[((i:Nat):Int).toNat]?=some c from QR);have hcd:=AW hdg QR;unfold uL at hcd;simp only [aJ,decide_eq_true_eq] at hcd;obtain⟨hd0,YZ⟩:=QV hdg h3 hi;(have hu:IntKind.u8.wrap ((c.toNat:Int)-48)=(c.toNat:Int)-48:=by have h:=c.toNat_lt;simp only [IntKind.wrap,IntKind.bits,IntKind.signed];simp;omega);have QY:IntKind.i64.wrap ((c.toNat:Int)-48)=(c.toNat:Int)-48:=IntWalk.i64_in _ (by omega);have QZ:IntKind.i64.wrap (10*pI t i)=10*pI t i:=IntWalk.i64_in _ (by omega);(have yx:IntKind.i64.wrap (10*pI t i+((c.toNat:Int)-48))=pI t (i+1):=by rw [pI,kR QR];exact IntWalk.i64_in _ (by omega));simp only [gf,hw,oz,hu,QY,QZ,yx,sl,cv,go_sem];refine fh _ (oU (by omega) (by simp only [gf,hw,oz,hu,QY,QZ,yx,sl,cv,go_sem]) ?_ ?_) <;> simp only [lS,lk,reduceIte,zE];(·exact⟨i+1,rfl,bQ⟩);simp only [Go.Eng.intOf,cg];omega
  have jL:i=t.size:=auu hi (auA (by simpa using Ju));simp only [gf,sl,cv,go_sem];refine hK _ ?_
  first
   | (rw [ud];rfl)
   | (rw [jH];subst jL;unfold Cp;rw [← ht];rfl)
 refine ep (AU 245 uL vV t (by have:=of_decide_eq_false Jt;omega)) ?_;simp only [gf,sl,cv,go_sem];refine cC (fun aaz=>?_) (fun aaz=>?_)
 ·have ud:qS s=false:=by rw [T8];simp_all [tI] <;> (intros;omega)
  simp only [gf,sl,cv,go_sem];refine hK _ ?_
  first
   | (rw [ud];rfl)
   | (rw [jH];subst jL;unfold Cp;rw [← ht];rfl)
 have jH:qS s=true:=by rw [T8];simp_all [tI] <;> (intros;omega)
 have Nf:tI t=true:=by rw [T8] at jH;simp at jH;exact jH.2
 have hdg:ss uL t=true:=by unfold tI at Nf;simp only [aJ] at Nf;exact Nf.2
 have h3:t.size≤3:=by unfold tI at Nf;simp only [aJ,decide_eq_true_eq] at Nf;exact Nf.1.1.2
 simp only [gf,sl,cv,go_sem];refine iz tt_ok [] [40,5] 0 [0,2,3,37,39] (fun vs=>((t.size:Int)-Go.Eng.intOf (vs.headD .undef)).toNat) (fun vs=>∃ i:Nat,vs=[num i,num (pI t i)]∧i≤t.size) (by omega) (by simp only [gf,sl,cv,go_sem]) (⟨0,rfl,ck _⟩) fun vs hI Z2 zv=>?_;obtain⟨i,rfl,hi⟩:=hI;simp only [gf,sl,cv,go_sem];refine cC (fun Ju=>?_) (fun Ju=>?_);·(have bQ:i<t.size:=by simpa using Ju);have hw:=bN i (by omega);obtain⟨c,QR⟩:=ji (s:=t) (i:=i) bQ;have oz:=ku (P:=aj) t tH .i64 (i:Int) (by omega) (c:=c) (show t[((i:Nat):Int).toNat]?=some c from QR);have hcd:=AW hdg QR;unfold uL at hcd;simp only [aJ,decide_eq_true_eq] at hcd;obtain⟨hd0,YZ⟩:=QV hdg h3 hi;(have hu:IntKind.u8.wrap ((c.toNat:Int)-48)=(c.toNat:Int)-48:=by have h:=c.toNat_lt;simp only [IntKind.wrap,IntKind.bits,IntKind.signed];simp;omega);have QY:IntKind.i64.wrap ((c.toNat:Int)-48)=(c.toNat:Int)-48:=IntWalk.i64_in _ (by omega);have QZ:IntKind.i64.wrap (10*pI t i)=10*pI t i:=IntWalk.i64_in _ (by omega);(have yx:IntKind.i64.wrap (10*pI t i+((c.toNat:Int)-48))=pI t (i+1):=by rw [pI,kR QR];exact IntWalk.i64_in _ (by omega));simp only [gf,hw,oz,hu,QY,QZ,yx,sl,cv,go_sem];refine zv _ (oU (by omega) (by simp only [gf,hw,oz,hu,QY,QZ,yx,sl,cv,go_sem]) ?_ ?_) <;> simp only [lS,lk,reduceIte,zE];(·exact⟨i+1,rfl,bQ⟩);simp only [Go.Eng.intOf,cg];omega
 have jL:i=t.size:=auu hi (auA (by simpa using Ju));simp only [gf,sl,cv,go_sem];refine hK _ ?_
 first
  | (rw [ud];rfl)
  | (rw [jH];subst jL;unfold Cp;rw [← ht];rfl)
section
def G0 (s:ByteArray):ByteArray:=(pieces s).getLast?.getD ⟨#[]⟩
def ek (s:ByteArray):Bool:=qS (G0 s)&&decide (s.size≤64)&&decide (2≤(pieces s).length)&&(pieces s).all GZ
def qz (s:ByteArray):Int:=if ek s=true then Cp (G0 s) else 0
def pJ (s:ByteArray):Int:=if ek s=true then 0 else 4
theorem Ng (s:ByteArray):(pieces s).length≤s.size+1:=by rw [oV];have:=Lib.countB_le ⟨#[47]⟩ (by decide) s.size s (ay _);omega
theorem Q0 {s z:ByteArray} (h:(pieces s)[(pieces s).length-1]?=some z):G0 s=z:=by unfold G0;rw [List.getLast?_eq_getElem?,h];rfl
theorem aaA {α:Type} {q:α→Bool} {l:List α} (h:∀ j<l.length,∀ x,l[j]?=some x→q x=true):l.all q=true:=by rw [aN];intro x hx;obtain⟨j,hj⟩:=bB.1 hx;exact h j (aA.1 hj).1 x hj
theorem Q1 {α:Type} {q:α→Bool} {l:List α} {i:Nat} {x:α} (h:l[i]?=some x) (hq:q x=false):l.all q=false:=by cases ha:l.all q with|false=>rfl|true=>have:=aN.1 ha x (aE h);rw [hq] at this;cases this
section
attribute [local go_sem] ax aq
theorem Q3 (hG:ba.g=some 0) (s:ByteArray) (hs:s.size≤1048576):Cn 179 [str s] (.dR [num (qz s),num (pJ s)]):=by
 refine jq tt_ok [] 49 [.tmp 2,.tmp 3] (fn:=Tryz.f179) Tryz.func179 rfl Tryz.call179 ⟨rfl,rfl,by simp⟩ fun K hK=>?_;have tH:aj.underlying 9=some .string:=kr;have sl:∀ (a:ByteArray) (ty:TypeId),ko aj (Builtin.len_ #[9] ty) [.sc (.string a)]=some (num a.size):=fun a ty=>kD (P:=aj) (tt:=tt) (T:=9) a tH ty;simp only [sl,go_sem];refine ep (⟨_,rfl,QT hG s (by omega)⟩) ?_;obtain⟨P,hP⟩:∃ P,P=pieces s:=⟨_,rfl⟩;have hPl:=Ng s;have hP1:=oV s;rw [← hP];rw [← hP] at hPl hP1;obtain⟨z,hz⟩:∃ z,P[P.length-1]?=some z:=⟨_,au (by omega)⟩;have Ij:G0 s=z:=Q0 (by rw [← hP];exact hz);have pK:IntKind.i64.wrap ((P.length:Int)-1)=((P.length-1:Nat):Int):=lE _ _ (by omega) (by omega);simp only [hz,pK,sl,go_sem];refine ep (Js hG z) ?_;simp only [hz,pK,sl,go_sem];refine cC (fun afo=>?_) (fun afo=>?_)
 ·have ud:ek s=false:=by unfold ek;rw [Ij,← hP];simp_all <;> (intros;omega)
  simp only [hz,pK,sl,go_sem];refine hK _ ?_
  first
   | (unfold qz pJ;rw [ud];rfl)
   | (unfold qz pJ;rw [jH,Ij];simp_all;done)
   | (unfold qz pJ;rw [jH,Ij];simp_all;rfl)
 simp only [hz,pK,sl,go_sem];refine cC (fun afp=>?_) (fun afp=>?_)
 ·have ud:ek s=false:=by unfold ek;rw [Ij,← hP];simp_all <;> (intros;omega)
  simp only [hz,pK,sl,go_sem];refine hK _ ?_
  first
   | (unfold qz pJ;rw [ud];rfl)
   | (unfold qz pJ;rw [jH,Ij];simp_all;done)
   | (unfold qz pJ;rw [jH,Ij];simp_all;rfl)
 simp only [hz,pK,sl,go_sem];refine cC (fun aaB=>?_) (fun aaB=>?_)
 ·have ud:ek s=false:=by unfold ek;rw [Ij,← hP];simp_all <;> (intros;omega)
  simp only [hz,pK,sl,go_sem];refine hK _ ?_
  first
   | (unfold qz pJ;rw [ud];rfl)
   | (unfold qz pJ;rw [jH,Ij];simp_all;done)
   | (unfold qz pJ;rw [jH,Ij];simp_all;rfl)
 simp only [hz,pK,sl,go_sem];refine iz tt_ok [] [35] 0 [5,32,33,34] (fun vs=>((P.length:Int)-Go.Eng.intOf (vs.headD .undef)).toNat) (fun vs=>∃ i:Nat,vs=[num i]∧i≤P.length∧∀ j<i,∀ x,P[j]?=some x→GZ x=true) (by omega) (by simp only [hz,pK,sl,go_sem]) (⟨0,rfl,ck _,fun j hj=>absurd hj (iH j)⟩) fun vs hI Z1 fh=>?_;obtain⟨i,rfl,hi,ff⟩:=hI;simp only [hz,pK,sl,go_sem];refine cC (fun re=>?_) (fun re=>?_)
 ·have bQ:i<P.length:=by simpa using re
  have hw:=bN i (by omega);obtain⟨x,hx⟩:∃ x,P[i]?=some x:=⟨_,au bQ⟩;simp only [hz,pK,hw,hx,sl,go_sem];refine ep (iA hG x) ?_;simp only [hz,pK,hw,hx,sl,go_sem];refine cC (fun XI=>?_) (fun XI=>?_)
  ·have ud:ek s=false:=by have ha:P.all GZ=false:=Q1 hx (by unfold GZ;simp_all);unfold ek;rw [← hP,ha];simp
   simp only [hz,pK,hw,hx,sl,go_sem];refine hK _ ?_
   first
    | (unfold qz pJ;rw [ud];rfl)
    | (unfold qz pJ;rw [jH,Ij];simp_all;done)
    | (unfold qz pJ;rw [jH,Ij];simp_all;rfl)
  have vY:dz x=true:=by simpa using XI
  simp only [hz,pK,hw,hx,sl,go_sem];refine ep (AU 244 Vl afd x (by have h:=vY;unfold dz at h;simp only [aJ,decide_eq_true_eq] at h;omega)) ?_;simp only [hz,pK,hw,hx,sl,go_sem];refine cC (fun alk=>?_) (fun alk=>?_)
  ·have ud:ek s=false:=by have ha:P.all GZ=false:=Q1 hx (by unfold GZ;simp_all);unfold ek;rw [← hP,ha];simp
   simp only [hz,pK,hw,hx,sl,go_sem];refine hK _ ?_
   first
    | (unfold qz pJ;rw [ud];rfl)
    | (unfold qz pJ;rw [jH,Ij];simp_all;done)
    | (unfold qz pJ;rw [jH,Ij];simp_all;rfl)
  simp only [hz,pK,hw,hx,sl,go_sem];refine fh _ (oU (by omega) (by simp only [hz,pK,hw,hx,sl,go_sem]) ?_ ?_) <;> simp only [lS,lk,reduceIte,zE];·refine⟨i+1,rfl,bQ,fun j hj=>?_⟩;(rcases bS j i with h|h);(·exact ff j h);(obtain rfl:j=i:=by omega);intro y hy;rw [hx] at hy;cases hy;unfold GZ;simp_all
  simp only [Go.Eng.intOf,cg];omega
 have jL:¬ i<P.length:=by simpa using re
 have jH:ek s=true:=by have ha:P.all GZ=true:=aaA fun j hj=>ff j (by omega);unfold ek;rw [Ij,← hP,ha];simp_all <;> omega
 simp only [hz,pK,sl,go_sem];refine hK _ ?_
 first
  | (unfold qz pJ;rw [ud];rfl)
  | (unfold qz pJ;rw [jH,Ij];simp_all;done)
  | (unfold qz pJ;rw [jH,Ij];simp_all;rfl)
end
theorem nz (hG:ba.g=some 0) (s:ByteArray) (hs:s.size≤1048576):Cn 90 [str s] (bl (ek s)):=by refine jq tt_ok [] 12 [.tmp 2] (fn:=Tryz.f90) Tryz.func90 rfl Tryz.call90 ⟨rfl,rfl,by simp⟩ fun K hK=>?_;simp only [go_sem];refine ep (Q3 hG s hs) ?_;simp only [go_sem];exact hK _ (congrArg bl (by unfold pJ;by_cases h:ek s=true <;> simp [h]))
end
end Go.Proofs.YtfbbfmcggbapoaaGreatDoor
end
section
namespace Go.Proofs.YtfbbfmcggbapoaaGreatDoor
open Go.Eng
set_option maxHeartbeats 4000000
set_option maxRecDepth 100000
def Nh:List (List UInt8):=[[97,110,100],[97,110,121],[97,115],[98,111,111,108],[100,101,112,114,101,99,97,116,101,100],[101,108,115,101],[101,120,112,111,114,116],[102,97,108,115,101],[102,110],[102,111,108,100],[102,114,111,109],[105,102],[105,109,112,111,114,116],[105,110],[105,110,116],[108,101,110,103,116,104],[108,101,116],[108,105,115,116],[109,97,116,99,104],[109,111,100,117,108,101],[110,111,110,101],[110,111,116],[111,114],[116,101,120,116],[116,104,101,110],[116,114,117,101],[116,121,112,101],[117,115,101]]
end Go.Proofs.YtfbbfmcggbapoaaGreatDoor
end
section
namespace Go.Proofs.YtfbbfmcggbapoaaGreatDoor
open Go.Eng
variable [ba]
open Nat renaming reduceAdd → zA, reduceLT → zB, reduceLeDiff → zC, reduceMul → zD, reduceEqDiff → zE, reduceSub → zF
set_option maxHeartbeats 4000000
set_option maxRecDepth 100000
def Ni (s:ByteArray):Bool:=jx s||decide (s.size=2)&&decide (lF s 0=35)&&decide (48≤lF s 1)&&decide (lF s 1≤55)
def jJ (s:ByteArray):Bool:=decide (s=⟨#[]⟩)
def rf (s:ByteArray):Bool:=jJ s||dz s||ek s
theorem pL (s:ByteArray):Cn 174 [str s] (bl (jx s)):=by
 refine jq tt_ok [] 19 [.tmp 2] (fn:=Tryz.f174) Tryz.func174 rfl Tryz.call174 ⟨rfl,rfl,by simp⟩ fun K hK=>?_;have tH:aj.underlying 9=some .string:=kr;have sl:∀ (a:ByteArray) (ty:TypeId),ko aj (Builtin.len_ #[9] ty) [.sc (.string a)]=some (num a.size):=fun a ty=>kD (P:=aj) (tt:=tt) (T:=9) a tH ty;simp only [sl,go_sem];refine cC (fun vW=>?_) (fun vW=>?_);·have h1:=zr rfl vW;obtain⟨QW,sw⟩:=ji (s:=s) (i:=(0:Int).toNat) (by omega);have gf:=ku (P:=aj) s tH .i64 (0) (by omega) (c:=QW) sw;have kZ:lF s 0=QW.toNat:=kR sw;simp only [gf,sl,go_sem];refine cC (fun yw=>?_) (fun yw=>?_) <;> simp only [gf,sl,go_sem];(·refine ep (AT _) ?_;repeat' (simp only [gf,sl,go_sem];first|refine cC (fun hg=>?_) (fun hg=>?_)|refine ep (AU 238 GR Lq s (by have:=of_decide_eq_true yw;omega)) ?_|(exact hK _ (congrArg bl (by simp_all [jx] <;> (intros;omega))))));exact hK _ (congrArg bl (by simp_all [jx] <;> (intros;omega)))
 have h1:=vU rfl vW;simp only [sl,go_sem];exact hK _ (congrArg bl (by simp_all [jx] <;> (intros;omega)))
theorem G1 (s:ByteArray):Cn 172 [str s] (bl (Ni s)):=by
 refine jq tt_ok [] 25 [.tmp 2] (fn:=Tryz.f172) Tryz.func172 rfl Tryz.call172 ⟨rfl,rfl,by simp⟩ fun K hK=>?_;have tH:aj.underlying 9=some .string:=kr;have sl:∀ (a:ByteArray) (ty:TypeId),ko aj (Builtin.len_ #[9] ty) [.sc (.string a)]=some (num a.size):=fun a ty=>kD (P:=aj) (tt:=tt) (T:=9) a tH ty;simp only [sl,go_sem];refine ep (pL s) ?_;simp only [sl,go_sem];refine cC (fun vW=>?_) (fun vW=>?_) <;> simp only [sl,go_sem];·exact hK _ (congrArg bl (by simp_all [Ni] <;> (intros;omega)))
 refine cC (fun Q4=>?_) (fun Q4=>?_);·(have hz2:s.size=2:=by have:=of_decide_eq_true Q4;omega);obtain⟨QW,sw⟩:=ji (s:=s) (i:=(0:Int).toNat) (by omega);have gf:=ku (P:=aj) s tH .i64 (0) (by omega) (c:=QW) sw;obtain⟨cv1,XJ⟩:=ji (s:=s) (i:=(1:Int).toNat) (by omega);have afq:=ku (P:=aj) s tH .i64 (1) (by omega) (c:=cv1) XJ;have kZ:lF s 0=QW.toNat:=kR sw;have np:lF s 1=cv1.toNat:=kR XJ;repeat' (simp only [gf,afq,sl,go_sem];first|refine cC (fun hg=>?_) (fun hg=>?_)|(exact hK _ (congrArg bl (by simp_all [Ni] <;> (intros;omega)))))
 have hz2:s.size≠2:=by have:=of_decide_eq_false Q4;omega
 simp only [sl,go_sem];exact hK _ (congrArg bl (by simp_all [Ni] <;> (intros;omega)))
theorem xu (hG:ba.g=some 0) (s:ByteArray) (hs:s.size≤1048576):Cn 173 [str s] (bl (rf s)):=by refine jq tt_ok [] 13 [.tmp 2] (fn:=Tryz.f173) Tryz.func173 rfl Tryz.call173 ⟨rfl,rfl,by simp⟩ fun K hK=>?_;repeat' (simp only [dZ,go_sem];first|refine cC (fun hg=>?_) (fun hg=>?_)|refine ep (iA hG s) ?_|refine ep (nz hG s hs) ?_|(exact hK _ (congrArg bl (by simp_all [rf,jJ]))))
mutual
inductive Ty where
 | mk (kind:Int) (mod name:ByteArray) (args:List Ty) (bA:List Fd)
inductive Fd where
 | mk (name:ByteArray) (ty:Ty) (opt:Bool)
end
structure Lb where
 name:ByteArray
 var:ByteArray
 ty:Ty
 opt:Bool
inductive Ex where
 | mk (kind:Int) (mod name text:ByteArray) (num:Int) (types:List Ty) (labels:List Lb) (kids:List Ex)
structure Pm where
 name:ByteArray
 eh:Int
 bound:Ty
structure Im where
 path:ByteArray
 alias:ByteArray
structure Dc where
 kind:Int
 name:ByteArray
 exported:Bool
 deprecated:Bool
 note:ByteArray
 params:List Pm
 lower:Ty
 upper:Ty
 type:Ty
 expr:Ex
 mod:ByteArray
 target:ByteArray
structure Md where
 path:ByteArray
 imports:List Im
 decls:List Dc
mutual
def bk:Ty→V
 | .mk k m n ts fs=>.agg [.sc (.int .i64 k),.sc (.string m),.sc (.string n),.slice (cM ts),.slice (iB fs)]
def cM:List Ty→List V
 | []=>[]
 | t :: r=>bk t :: cM r
def dj:Fd→V
 | .mk n (.mk k m n' ts fs) o=>.agg [.sc (.string n),.sc (.int .i64 k),.sc (.string m),.sc (.string n'),.slice (cM ts),.slice (iB fs),.sc (.bool o)]
def iB:List Fd→List V
 | []=>[]
 | f :: r=>dj f :: iB r
end
def Fd.ty:Fd→Ty|.mk _ t _=>t
def Fd.name:Fd→ByteArray|.mk n _ _=>n
def Fd.opt:Fd→Bool|.mk _ _ o=>o
def Ty.bA:Ty→List Fd|.mk _ _ _ _ fs=>fs
def Ty.args:Ty→List Ty|.mk _ _ _ ts _=>ts
def Ty.kind:Ty→Int|.mk k _ _ _ _=>k
def Ty.mod:Ty→ByteArray|.mk _ m _ _ _=>m
def Ty.name:Ty→ByteArray|.mk _ _ n _ _=>n
def Ty.parts (t:Ty):List Ty:=t.args++t.bA.map Fd.ty
def aD (t:Ty):List V:=[.sc (.int .i64 t.kind),.sc (.string t.mod),.sc (.string t.name),.slice (cM t.args),.slice (iB t.bA)]
theorem aT (t:Ty):bk t = .agg (aD t):=by obtain⟨k,m,n,ts,fs⟩:=t;rfl
theorem aQ (ts:List Ty):cM ts=ts.map bk:=by induction ts with|nil=>rfl|cons t r ih=>simp [cM,ih]
theorem bD (ts:List Fd):iB ts=ts.map dj:=by induction ts with|nil=>rfl|cons t r ih=>simp [iB,ih]
theorem cw (f:Fd):dj f = .agg ([str f.name]++aD f.ty++[bl f.opt]):=by obtain⟨n',⟨k,m,n,ts,fs⟩,o⟩:=f;rfl
def cq (l:Lb):V:=.agg ([str l.name,str l.var]++aD l.ty++[bl l.opt])
mutual
def br:Ex→V
 | .mk k m n t i ts ls ks=>.agg [.sc (.int .i64 k),.sc (.string m),.sc (.string n),.sc (.string t),.sc (.int .i64 i),.slice (cM ts),.slice (ls.map cq),.slice (nO ks)]
def nO:List Ex→List V
 | []=>[]
 | e :: r=>br e :: nO r
end
def Ex.kind:Ex→Int|.mk k _ _ _ _ _ _ _=>k
def Ex.mod:Ex→ByteArray|.mk _ m _ _ _ _ _ _=>m
def Ex.name:Ex→ByteArray|.mk _ _ n _ _ _ _ _=>n
def Ex.text:Ex→ByteArray|.mk _ _ _ t _ _ _ _=>t
def Ex.num:Ex→Int|.mk _ _ _ _ i _ _ _=>i
def Ex.types:Ex→List Ty|.mk _ _ _ _ _ ts _ _=>ts
def Ex.labels:Ex→List Lb|.mk _ _ _ _ _ _ ls _=>ls
def Ex.kids:Ex→List Ex|.mk _ _ _ _ _ _ _ ks=>ks
theorem bK (ts:List Ex):nO ts=ts.map br:=by induction ts with|nil=>rfl|cons t r ih=>simp [nO,ih]
def aP (e:Ex):List V:=[.sc (.int .i64 e.kind),.sc (.string e.mod),.sc (.string e.name),.sc (.string e.text),.sc (.int .i64 e.num),.slice (cM e.types),.slice (e.labels.map cq),.slice (nO e.kids)]
theorem bn (e:Ex):br e = .agg (aP e):=by obtain⟨k,m,n,t,i,ts,ls,ks⟩:=e;rfl
def eu (p:Pm):V:=.agg ([str p.name,num p.eh]++aD p.bound)
def fc (i:Im):V:=.agg [str i.path,str i.alias]
def dh (d:Dc):V:=.agg ([num d.kind,str d.name,bl d.exported,bl d.deprecated,str d.note,.slice (d.params.map eu)]++aD d.lower++aD d.upper++aD d.type++aP d.expr++[str d.mod,str d.target])
def sx (m:Md):V:=.agg [str m.path,.slice (m.imports.map fc),.slice (m.decls.map dh)]
theorem Nj (t:Ty):(bk t).cells.length=5:=by rw [aT];rfl
theorem xv (e:Ex):(br e).cells.length=8:=by rw [bn];rfl
theorem wa (ts:List Ty) (n:Nat):jZ (cM ts) n 5=true:=by
 rw [aQ];unfold jZ;split;·rename_i h;simp at h;obtain⟨t,-,rfl⟩:=h;simp [Nj]
 rfl
theorem aS (ts:List Ty):(cM ts).length=ts.length:=by simp [aQ]
theorem c7 (ts:List Fd):(iB ts).length=ts.length:=by simp [bD]
theorem aW (ts:List Ex):(nO ts).length=ts.length:=by simp [bK]
theorem dF (ts:List Ty) (i:Nat):(cM ts)[i]?=ts[i]?.map bk:=by simp [aQ]
theorem cu (ts:List Fd) (i:Nat):(iB ts)[i]?=ts[i]?.map dj:=by simp [bD]
theorem jP (ts:List Ex) (i:Nat):(nO ts)[i]?=ts[i]?.map br:=by simp [bK]
mutual
def Ty.size:Ty→Nat
 | .mk _ _ _ ts fs=>1+wb ts+we fs
def wb:List Ty→Nat
 | []=>0
 | t :: r=>t.size+wb r
def Fd.size:Fd→Nat
 | .mk _ (.mk _ _ _ ts fs) _=>1+wb ts+we fs
def we:List Fd→Nat
 | []=>0
 | f :: r=>f.size+we r
end
theorem Fd.Vq (f:Fd):f.size=f.ty.size:=by obtain⟨n',⟨k,m,n,ts,fs⟩,o⟩:=f;rfl
theorem G2 (ts:List Ty):wb ts=aM Ty.size ts:=by induction ts with|nil=>rfl|cons t r ih=>simp [wb,aM,ih]
theorem G3 (ts:List Fd):we ts=aM (fun f=>f.ty.size) ts:=by induction ts with|nil=>rfl|cons t r ih=>simp [we,aM,ih,Fd.Vq]
theorem Ty.dG (t:Ty):t.size=1+aM Ty.size t.parts:=by obtain⟨k,m,n,ts,fs⟩:=t;simp only [Ty.size,Ty.parts,Ty.args,Ty.bA,eW,js,G2,G3];omega
theorem Ty.size_pos (t:Ty):0<t.size:=by rw [Ty.dG];omega
theorem Ty.fZ (t:Ty):t.args.length+t.bA.length<t.size:=by have:=ct Ty.size Ty.size_pos t.parts;rw [Ty.dG];simp only [Ty.parts,ae,ax] at this;simp only [Ty.parts];omega
theorem G4 (t:Ty) (hl:t.args.length+t.bA.length≤34359738368):bJ aj 82 [bk t] (.slice (cM t.parts)):=by
 obtain⟨k,m,n,ts,fs⟩:=t;simp only [Ty.args,Ty.bA] at hl;have nn:ts.length≤34359738368:=by omega
 refine iN tt_ok (fn:=Tryz.f82) Tryz.func82 rfl Tryz.call82 ?_;simp only [cP,cK,Tryz.ntmps82,af,ai,zA,zF,aG,aH];refine ak tt_ok fun K hK=>?_;simp only [bk,go_sem];refine hK _ ?_;refine ak tt_ok fun K hK=>?_;simp only [wa,aS,nn,go_sem];refine hK _ ?_;refine bc ?_;refine ak tt_ok fun K hK=>?_;simp only [go_sem];refine hK _ ?_;refine bC (cR (fun N st=>∃ (i dI:Nat) (acc:List Ty),N=fs.length-i∧i≤fs.length∧acc=ts++(fs.take i).map Fd.ty ∧ st = { fr:=[bk (.mk k m n ts fs),.ptr 0 0,.undef,.ms 1 dI 0 acc.length,.sc (.int .i64 i)]++List.replicate 21 .undef,mem:=[.box (bk (.mk k m n ts fs)).cells,.rows dI 5 (cM acc)] }) fs.length ?_ ?_);·exact⟨2,[true,true,false,true,true],by omega,by simp only [bg,aI,aV,aL,zB,gG],by simp only [bg,aI,aV,aL,zB,gG],0,1,ts,by omega,by omega,by simp,rfl⟩
 rintro N st ⟨i,dI,acc,rfl,hi,mO,rfl⟩;have Ls:acc.length≤34359738367∨i=fs.length:=by rw [mO];simp;omega
 simp only [cP,aG,aH,bk,V.cells];refine bc ?_;by_cases bQ:i<fs.length;·have hd:=gx bQ;(have Jv:acc.length≤34359738367:=by omega);refine ak tt_ok fun K hK=>?_;simp only [c7,hd,go_sem];refine hK _ ?_;refine aO rfl (bZ ?_);refine bc (bC ?_);obtain⟨f,hf⟩:∃ f,fs[i]?=some f:=⟨_,au bQ⟩;(have qT:(fs.take (i+1)).map Fd.ty=(fs.take i).map Fd.ty++[f.ty]:=by rw [bH,hf];simp);obtain⟨fnm,⟨fk,fm,fn,fts,ffs⟩,fo⟩:=f;refine aR tt_ok fun K hK=>?_;simp only [cu,hf,dj,aS,Jv,go_sem];refine hK _ ?_;refine aR tt_ok fun K hK=>?_;simp only [go_sem];refine hK _ ?_;refine⟨fs.length-(i+1),by omega,2,[true,true,false,true,true],by omega,by simp only [bg,aI,aV,aL,zB,gG],by simp only [bg,aI,aV,aL,zB,gG],i+1,dI+1,acc++[.mk fk fm fn fts ffs],rfl,bQ,by rw [mO,qT];simp [Fd.ty],?_⟩;have hw:IntKind.i64.wrap ((i:Int)+1)=((i+1:Nat):Int):=bN i (by omega);rw [hw];simp [rp,bg,aQ,bk]
 have hd:=gy bQ;refine ak tt_ok fun K hK=>?_;simp only [c7,hd,go_sem];refine hK _ ?_;refine aO rfl (dK ?_);have kz:i=fs.length:=by omega
 subst kz;show dS _ _ _ _ _ _;refine ak tt_ok fun K hK=>?_;simp only [go_sem];refine hK _ ?_;refine bE ⟨.inl rfl,?_⟩;rw [az] at mO;have hr:cM (Ty.mk k m n ts fs).parts=cM acc:=by rw [mO];rfl
 rw [hr];simp [qZ,qY,uz,Tryz.f82,Iz,l0,eN,aS];rw [← aS];simp
theorem pM:∀ (N:Nat) (t:Ty),t.size≤N→N≤1048576→bJ aj 31 [bk t] (num t.size):=by intro N;induction N with|zero=>intro t h;have:=t.size_pos;omega|succ N ih =>intro t hN hb;have qU:=t.fZ;have oW:=t.dG;have Q5:=ct Ty.size Ty.size_pos t.parts;have hp:=G4 t (by omega);refine iN tt_ok (fn:=Tryz.f31) Tryz.func31 rfl Tryz.call31 ?_;simp only [cP,cK,Tryz.ntmps31,af,ai,zA,zF,aG,aH];rw [aT] at hp ⊢;simp only [aD] at hp ⊢;refine ak tt_ok fun K hK=>?_;simp only [go_sem];refine hK _ ?_;refine ak tt_ok fun K hK=>?_;simp only [go_sem];refine hK _ ?_;refine ak tt_ok fun K hK=>?_;simp only [go_sem];refine .inl ⟨_,_,by simp only [go_sem,az],hp,?_⟩;(try simp only [go_sem]);refine hK _ ?_;refine bc ?_;refine ak tt_ok fun K hK=>?_;simp only [go_sem];refine hK _ ?_;obtain⟨ps,AY⟩:∃ ps,ps=t.parts:=⟨_,rfl⟩;rw [← AY] at oW Q5 ⊢;refine bC (cR (fun N st=>∃ (i:Nat),N=ps.length-i∧i≤ps.length ∧ st = { fr:=[.undef,.undef,.undef,num ((1+aM Ty.size (ps.take i):Nat)),.slice (cM ps),num i]++List.replicate 16 .undef,mem:=[] }) ps.length ?_ ?_);(·exact⟨0,[false,false,false,true,true,true],by omega,by simp only [bg,aI,aV,aL,zB,gG],by simp only [bg,aI,aV,aL,zB,gG],0,by omega,by omega,rfl⟩);rintro N st ⟨i,rfl,hi,rfl⟩;simp only [cP,aG,aH];refine bc ?_;by_cases bQ:i<ps.length;(·have hd:=gx bQ;refine ak tt_ok fun K hK=>?_;simp only [aS,hd,go_sem];refine hK _ ?_;refine aO rfl (bZ ?_);refine bc (bC ?_);obtain⟨u,hu⟩:∃ u,ps[i]?=some u:=⟨_,au bQ⟩;have hus:=bU Ty.size hu;have BV:=fb Ty.size hu;have OS:=gb Ty.size ps (i+1);have jj:=ih u (by omega) (by omega);rw [aT] at jj;simp only [aD] at jj;refine aR tt_ok fun K hK=>?_;simp only [dF,hu,aT,aD,go_sem];refine .inl ⟨_,_,by simp only [go_sem,az],jj,?_⟩;(try simp only [go_sem]);refine hK _ ?_;(have hw:IntKind.i64.wrap (((1+aM Ty.size (ps.take i):Nat):Int)+(u.size:Int))=((1+aM Ty.size (ps.take (i+1)):Nat):Int):=by rw [oy _ _ (by omega)];congr 1;omega);rw [hw];refine aR tt_ok fun K hK=>?_;simp only [go_sem];refine hK _ ?_;have nr:=bN i (by omega);rw [nr];exact⟨ps.length-(i+1),by omega,0,[false,false,false,true,true,true],by omega,by simp only [bg,aI,aV,aL,zB,gG],by simp only [bg,aI,aV,aL,zB,gG],i+1,rfl,bQ,by simp [rp,bg]⟩);have hd:=gy bQ;refine ak tt_ok fun K hK=>?_;simp only [aS,hd,go_sem];refine hK _ ?_;refine aO rfl (dK ?_);(have kz:i=ps.length:=by omega);subst kz;show dS _ _ _ _ _ _;refine ak tt_ok fun K hK=>?_;simp only [go_sem];refine hK _ ?_;refine bE ⟨.inl rfl,?_⟩;(try rw [az]);rw [← oW];simp [qZ,qY,uz,Tryz.f31,Iz,l0,eN,ph]
theorem AZ (rows:List V) (h1:jZ rows 0 5=true) (hl:rows.length≤34359738368):bo aj 234 [.slice rows] [] (.ms 0 1 0 rows.length) [.rows 1 5 rows]:=by refine nI tt_ok (fn:=Tryz.f234) 1 (by simp) Tryz.func234 rfl Tryz.call234 ?_;simp only [cP,cK,Tryz.ntmps234,af,ai,zA,zF,aG,aH];refine ak tt_ok fun K hK=>?_;simp only [go_sem];refine hK _ ?_;refine bc ?_;refine ak tt_ok fun K hK=>?_;simp only [go_sem];intro b hb;refine hK _ ?_;cases b with|true =>((have h0:rows=[]:=by cases rows with|nil=>rfl|cons a r=>have:=hb (by simp);cases this);subst h0;refine aO rfl ?_;refine ak tt_ok fun K hK=>?_;simp only [go_sem];refine hK _ ?_;refine MT 2 1 5 rfl ?_;exact bE ⟨.inl rfl,rfl,rfl,rfl,rfl⟩)|false =>refine aO rfl (bZ ?_);show dS _ _ _ _ _ _;refine ak tt_ok fun K hK=>?_;simp only [h1,hl,go_sem];refine hK _ ?_;refine bE ⟨.inl rfl,?_⟩;simp [oQ,qY,uz,Tryz.f234,aI,aL,aV]
theorem xw (t:Ty) (hl:t.args.length+t.bA.length≤34359738368):bJ aj 168 [bk t] (.slice (cM t.parts)):=by
 obtain⟨k,m,n,ts,fs⟩:=t;simp only [Ty.args,Ty.bA] at hl;have nn:ts.length≤34359738368:=by omega
 refine iN tt_ok (fn:=Tryz.f168) Tryz.func168 rfl Tryz.call168 ?_;simp only [cP,cK,Tryz.ntmps168,af,ai,zA,zF,aG,aH];refine ak tt_ok fun K hK=>?_;simp only [bk,go_sem];refine hK _ ?_;refine ak tt_ok fun K hK=>?_;simp only [bk,go_sem];refine .inr <| .inl ⟨_,_,bo.live (by simp only [bk,aS,go_sem,az]) (AZ (cM ts) (wa ts 0) (by rw [aS];exact nn)) rfl _,?_⟩
 try simp only [bk,aS,go_sem]
 refine hK _ ?_;refine bc ?_;refine ak tt_ok fun K hK=>?_;simp only [c7,go_sem];refine hK _ ?_;refine bC (cR (fun N st=>∃ (i dI:Nat) (acc:List Ty),N=fs.length-i∧i≤fs.length∧acc=ts++(fs.take i).map Fd.ty ∧ st = { fr:=[.undef,.ptr 0 0,.undef,.ms 1 dI 0 acc.length,.undef,.undef,.undef,.undef,.undef,.undef,.slice (iB fs),num fs.length,num i]++List.replicate 10 .undef,mem:=[.box (bk (.mk k m n ts fs)).cells,.rows dI 5 (cM acc)] }) fs.length ?_ ?_);·exact⟨2,[false,true,false,true,false,false,false,false,false,false,true,true,true],by omega,by simp only [bg,aI,aV,aL,zB,gG],by simp only [bg,aI,aV,aL,zB,gG],0,1,ts,by omega,by omega,by simp,rfl⟩
 rintro N st ⟨i,dI,acc,rfl,hi,mO,rfl⟩;have Ls:acc.length≤34359738367∨i=fs.length:=by rw [mO];simp;omega
 simp only [cP,aG,aH,bk,V.cells];by_cases bQ:i<fs.length;·have hd:=gx bQ;(have Jv:acc.length≤34359738367:=by omega);refine ak tt_ok fun K hK=>?_;simp only [c7,hd,go_sem];refine hK _ ?_;refine bc (aO rfl (bZ ?_));refine bc (bC ?_);obtain⟨f,hf⟩:∃ f,fs[i]?=some f:=⟨_,au bQ⟩;(have qT:(fs.take (i+1)).map Fd.ty=(fs.take i).map Fd.ty++[f.ty]:=by rw [bH,hf];simp);obtain⟨fnm,⟨fk,fm,fn,fts,ffs⟩,fo⟩:=f;refine ak tt_ok fun K hK=>?_;simp only [cu,hf,dj,go_sem];refine hK _ ?_;refine aR tt_ok fun K hK=>?_;simp only [aS,Jv,go_sem];refine hK _ ?_;refine aR tt_ok fun K hK=>?_;simp only [go_sem];refine hK _ ?_;have hw:=bN i (by omega);rw [hw];refine⟨fs.length-(i+1),by omega,2,[false,true,false,true,false,false,false,false,false,false,true,true,true],by omega,by simp only [bg,aI,aV,aL,zB,gG],by simp only [bg,aI,aV,aL,zB,gG],i+1,dI+1,acc++[.mk fk fm fn fts ffs],rfl,bQ,by rw [mO,qT];simp [Fd.ty],?_⟩;simp [rp,bg,aQ,bk]
 have hd:=gy bQ;refine ak tt_ok fun K hK=>?_;simp only [c7,hd,go_sem];refine hK _ ?_;refine bc (aO rfl (dK ?_));have kz:i=fs.length:=by omega
 subst kz;show dS _ _ _ _ _ _;refine ak tt_ok fun K hK=>?_;simp only [go_sem];refine hK _ ?_;refine bE ⟨.inl rfl,?_⟩;rw [az] at mO;have hr:cM (Ty.mk k m n ts fs).parts=cM acc:=by rw [mO];rfl
 rw [hr];simp [qZ,qY,uz,Tryz.f168,Iz,l0,eN,aS];rw [← aS];simp
mutual
def Ty.depth:Ty→Nat
 | .mk _ _ _ ts fs=>1+max (sy ts) (sA fs)
def sy:List Ty→Nat
 | []=>0
 | t :: r=>max t.depth (sy r)
def Fd.depth:Fd→Nat
 | .mk _ (.mk _ _ _ ts fs) _=>1+max (sy ts) (sA fs)
def sA:List Fd→Nat
 | []=>0
 | f :: r=>max f.depth (sA r)
end
theorem Fd.Q6 (f:Fd):f.depth=f.ty.depth:=by obtain⟨n',⟨k,m,n,ts,fs⟩,o⟩:=f;rfl
def gH {α:Type} (g:α→Nat):List α→Nat
 | []=>0
 | a :: r=>max (g a) (gH g r)
theorem wg {α:Type} (g:α→Nat) (a b:List α):gH g (a++b)=max (gH g a) (gH g b):=by induction a with|nil=>simp [gH]|cons x r ih=>simp [gH,ih,Nat.max_assoc]
theorem Nk {α β:Type} (g:β→Nat) (h:α→β) (a:List α):gH g (a.map h)=gH (fun x=>g (h x)) a:=by induction a with|nil=>rfl|cons x r ih=>simp [gH,ih]
theorem Ey (ts:List Ty):sy ts=gH Ty.depth ts:=by induction ts with|nil=>rfl|cons t r ih=>simp [sy,gH,ih]
theorem Ez (ts:List Fd):sA ts=gH (fun f=>f.ty.depth) ts:=by induction ts with|nil=>rfl|cons t r ih=>simp [sA,gH,ih,Fd.Q6]
theorem Ty.sB (t:Ty):t.depth=1+gH Ty.depth t.parts:=by obtain⟨k,m,n,ts,fs⟩:=t;simp only [Ty.depth,Ty.parts,Ty.args,Ty.bA,wg,Nk,Ey,Ez]
theorem mP {α:Type} (g:α→Nat) {l:List α} {i:Nat} {a:α} (h:l[i]?=some a):gH g (l.take (i+1))=max (gH g (l.take i)) (g a):=by rw [bH,h,wg];simp [gH]
theorem A3 {α:Type} (g:α→Nat) {B:Nat}:∀ {l:List α},(∀ (i:Nat) (a:α),l[i]?=some a→g a≤B)→gH g l≤B
 | [],_=>by simp [gH]
 | a :: r,h=>by
  have h1:=h 0 a rfl
  have h2:=A3 g (l:=r) (B:=B) fun i b hb=>h (i+1) b (by simpa using hb)
  simp only [gH];omega
theorem Ty.ue:∀ (N:Nat) (t:Ty),t.size≤N→t.depth≤t.size:=by intro N;induction N with|zero=>intro t h;have:=t.size_pos;omega|succ N ih =>intro t hN;rw [Ty.sB,Ty.dG];have h1:=t.dG;(have:=A3 Ty.depth (l:=t.parts) (B:=aM Ty.size t.parts) fun i a ha=>by have:=bU Ty.size ha;have:=ih a (by omega);omega);omega
theorem EA (a b:Nat):(if ((a:Int)<(b:Int)) then ((b:Nat):Int) else (a:Int))=((max a b:Nat):Int):=by split <;> omega
theorem adv:∀ (N:Nat) (t:Ty),t.size≤N→N≤1048576→bJ aj 75 [bk t] (num t.depth):=by intro N;induction N with|zero=>intro t h;have:=t.size_pos;omega|succ N ih =>intro t hN hb;have qU:=t.fZ;have oW:=t.dG;have hds:=Ty.ue _ t (ay _);have hdp:=t.sB;have Q5:=ct Ty.size Ty.size_pos t.parts;have hp:=G4 t (by omega);refine iN tt_ok (fn:=Tryz.f75) Tryz.func75 rfl Tryz.call75 ?_;simp only [cP,cK,Tryz.ntmps75,af,ai,zA,zF,aG,aH];rw [aT] at hp ⊢;simp only [aD] at hp ⊢;refine ak tt_ok fun K hK=>?_;simp only [go_sem];refine hK _ ?_;refine ak tt_ok fun K hK=>?_;simp only [go_sem];refine hK _ ?_;refine ak tt_ok fun K hK=>?_;simp only [go_sem];refine .inl ⟨_,_,by simp only [go_sem,az],hp,?_⟩;(try simp only [go_sem]);refine hK _ ?_;refine bc ?_;refine ak tt_ok fun K hK=>?_;simp only [go_sem];refine hK _ ?_;obtain⟨ps,AY⟩:∃ ps,ps=t.parts:=⟨_,rfl⟩;rw [← AY] at oW Q5 hdp ⊢;refine bC (cR (fun N st=>∃ (i:Nat),N=ps.length-i∧i≤ps.length ∧ st = { fr:=[.undef,.undef,.undef,num ((gH Ty.depth (ps.take i):Nat)),.slice (cM ps),num i]++List.replicate 17 .undef,mem:=[] }) ps.length ?_ ?_);(·exact⟨0,[false,false,false,true,true,true],by omega,by simp only [bg,aI,aV,aL,zB,gG],by simp only [bg,aI,aV,aL,zB,gG],0,by omega,by omega,rfl⟩);rintro N st ⟨i,rfl,hi,rfl⟩;simp only [cP,aG,aH];refine bc ?_;by_cases bQ:i<ps.length;(·have hd:=gx bQ;refine ak tt_ok fun K hK=>?_;simp only [aS,hd,go_sem];refine hK _ ?_;refine aO rfl (bZ ?_);refine bc (bC ?_);obtain⟨u,hu⟩:∃ u,ps[i]?=some u:=⟨_,au bQ⟩;have hus:=bU Ty.size hu;have BV:=mP Ty.depth hu;have jj:=ih u (by omega) (by omega);rw [aT] at jj;simp only [aD] at jj;refine aR tt_ok fun K hK=>?_;simp only [dF,hu,aT,aD,go_sem];refine .inl ⟨_,_,by simp only [go_sem,az],jj,?_⟩;(try simp only [go_sem]);refine hK _ ?_;rw [EA,← BV];refine aR tt_ok fun K hK=>?_;simp only [go_sem];refine hK _ ?_;have nr:=bN i (by omega);rw [nr];exact⟨ps.length-(i+1),by omega,0,[false,false,false,true,true,true],by omega,by simp only [bg,aI,aV,aL,zB,gG],by simp only [bg,aI,aV,aL,zB,gG],i+1,rfl,bQ,by simp [rp,bg]⟩);have hd:=gy bQ;refine ak tt_ok fun K hK=>?_;simp only [aS,hd,go_sem];refine hK _ ?_;refine aO rfl (dK ?_);(have kz:i=ps.length:=by omega);subst kz;show dS _ _ _ _ _ _;refine ak tt_ok fun K hK=>?_;simp only [go_sem];refine hK _ ?_;refine bE ⟨.inl rfl,?_⟩;(try rw [az]);rw [bN _ (by omega)];(have oX:gH Ty.depth ps+1=t.depth:=by omega);rw [oX];simp [qZ,qY,uz,Tryz.f75,Iz,l0,eN,ph]
theorem Jw:∀ (N:Nat) (t:Ty),t.size≤N→N≤1048576→bJ aj 87 [bk t] (num t.depth):=by intro N;induction N with|zero=>intro t h;have:=t.size_pos;omega|succ N ih =>intro t hN hb;have qU:=t.fZ;have oW:=t.dG;have hds:=Ty.ue _ t (ay _);have hdp:=t.sB;have Q5:=ct Ty.size Ty.size_pos t.parts;have hp:=xw t (by omega);refine iN tt_ok (fn:=Tryz.f87) Tryz.func87 rfl Tryz.call87 ?_;simp only [cP,cK,Tryz.ntmps87,af,ai,zA,zF,aG,aH];rw [aT] at hp ⊢;simp only [aD] at hp ⊢;refine ak tt_ok fun K hK=>?_;simp only [go_sem];refine hK _ ?_;refine ak tt_ok fun K hK=>?_;simp only [go_sem];refine hK _ ?_;refine bc ?_;refine ak tt_ok fun K hK=>?_;simp only [go_sem];refine .inl ⟨_,_,by simp only [aS,go_sem,az],hp,?_⟩;(try simp only [aS,go_sem]);refine hK _ ?_;obtain⟨ps,AY⟩:∃ ps,ps=t.parts:=⟨_,rfl⟩;rw [← AY] at oW Q5 hdp ⊢;refine bC (cR (fun N st=>∃ (i:Nat),N=ps.length-i∧i≤ps.length ∧ st = { fr:=[.undef,.undef,.undef,num ((gH Ty.depth (ps.take i):Nat)),.undef,.undef,.undef,.slice (cM ps),num ps.length,num i]++List.replicate 10 .undef,mem:=[] }) ps.length ?_ ?_);(·exact⟨0,[false,false,false,true,false,false,false,true,true,true],by omega,by simp only [bg,aI,aV,aL,zB,gG],by simp only [bg,aI,aV,aL,zB,gG],0,by omega,by omega,rfl⟩);rintro N st ⟨i,rfl,hi,rfl⟩;simp only [cP,aG,aH];by_cases bQ:i<ps.length;(·have hd:=gx bQ;refine ak tt_ok fun K hK=>?_;simp only [aS,hd,go_sem];refine hK _ ?_;refine bc (aO rfl (bZ ?_));refine bc (bC ?_);obtain⟨u,hu⟩:∃ u,ps[i]?=some u:=⟨_,au bQ⟩;have hus:=bU Ty.size hu;have BV:=mP Ty.depth hu;have jj:=ih u (by omega) (by omega);rw [aT] at jj;simp only [aD] at jj;refine ak tt_ok fun K hK=>?_;simp only [dF,hu,aT,aD,go_sem];refine hK _ ?_;refine aR tt_ok fun K hK=>?_;simp only [go_sem];refine .inl ⟨_,_,by simp only [go_sem,az],jj,?_⟩;(try simp only [go_sem]);refine hK _ ?_;rw [EA,← BV];refine aR tt_ok fun K hK=>?_;simp only [go_sem];refine hK _ ?_;have nr:=bN i (by omega);rw [nr];exact⟨ps.length-(i+1),by omega,0,[false,false,false,true,false,false,false,true,true,true],by omega,by simp only [bg,aI,aV,aL,zB,gG],by simp only [bg,aI,aV,aL,zB,gG],i+1,rfl,bQ,by simp [rp,bg]⟩);have hd:=gy bQ;refine ak tt_ok fun K hK=>?_;simp only [aS,hd,go_sem];refine hK _ ?_;refine bc (aO rfl (dK ?_));(have kz:i=ps.length:=by omega);subst kz;show dS _ _ _ _ _ _;refine ak tt_ok fun K hK=>?_;simp only [go_sem];refine hK _ ?_;refine bE ⟨.inl rfl,?_⟩;(try rw [az]);rw [bN _ (by omega)];(have oX:gH Ty.depth ps+1=t.depth:=by omega);rw [oX];simp [qZ,qY,uz,Tryz.f87,Iz,l0,eN,ph]
section
mutual
def Ty.nodes:Ty→List Ty
 | .mk k m n ts fs=>.mk k m n ts fs :: (sC ts++sD fs)
def sC:List Ty→List Ty
 | []=>[]
 | t :: r=>t.nodes++sC r
def Fd.nodes:Fd→List Ty
 | .mk _ (.mk k m n ts fs) _=>.mk k m n ts fs :: (sC ts++sD fs)
def sD:List Fd→List Ty
 | []=>[]
 | f :: r=>f.nodes++sD r
end
theorem Fd.Q7 (f:Fd):f.nodes=f.ty.nodes:=by obtain⟨n',⟨k,m,n,ts,fs⟩,o⟩:=f;rfl
theorem G5 (ts:List Ty):sC ts=ts.flatMap Ty.nodes:=by induction ts with|nil=>rfl|cons t r ih=>simp [sC,ih]
theorem G6 (ts:List Fd):sD ts=(ts.map Fd.ty).flatMap Ty.nodes:=by induction ts with|nil=>rfl|cons t r ih=>simp [sD,ih,Fd.Q7]
theorem Ty.dU (t:Ty):t.nodes=t :: t.parts.flatMap Ty.nodes:=by obtain⟨k,m,n,ts,fs⟩:=t;simp only [Ty.nodes,Ty.parts,Ty.args,Ty.bA,G5,G6,lN]
theorem Ty.wh:∀ (N:Nat) (t:Ty),t.size≤N→t.nodes.length=t.size:=by intro N;induction N with|zero=>intro t h;have:=t.size_pos;omega|succ N ih =>intro t hN;have h1:=t.dG;(have gen:∀ (l:List Ty),aM Ty.size l≤N→(l.flatMap Ty.nodes).length=aM Ty.size l:=by intro l;induction l with|nil=>intro _;rfl|cons a r Q8 =>intro hl;simp only [aM] at hl ⊢;rw [ab,ae,ih a (by omega),Q8 (by omega)]);rw [Ty.dU,af,gen _ (by omega)];omega
section
variable {σ α:Type}
def dr (step:σ→α→σ×Bool):σ→List α→σ×Bool
 | s,[]=>(s,true)
 | s,u :: r=>if (step s u).2=true then dr step (step s u).1 r else ((step s u).1,false)
theorem iY (step:σ→α→σ×Bool):∀ (a:List α) (s:σ) (b:List α),dr step s (a++b)=if (dr step s a).2=true then dr step (dr step s a).1 b else ((dr step s a).1,false)
 | [],s,b=>by simp [dr]
 | u :: r,s,b=>by
  simp only [aw,dr]
  split
  ·exact iY step r _ b
  simp
theorem qA (step:σ→α→σ×Bool) {G:σ→Prop} (hG:∀ s u,G s→(step s u).2=true→G (step s u).1):∀ (l:List α) (s:σ),G s→(dr step s l).2=true→G (dr step s l).1
 | [],s,h,_=>h
 | u :: r,s,h,hs=>by
  simp only [dr] at hs ⊢
  split at hs
  ·rename_i hu;rw [if_pos hu];exact qA step hG r _ (hG s u h hu) hs
  cases hs
end
section
variable {σ:Type} {M:σ→List bf} {n k k1 k2:Nat}
theorem Vr (hn:∀ s,(M s).length=n) (hk:k<n) (ib:k1<n) (jI:k2<n) (h1:∀ s,(M s)[k1]?=some (.box [.jK k])) (h2:∀ s,(M s)[k2]?=some (.box [.ia (.func 170) [] [.ptr k1 0,.ptr k2 0]])) (hb:∀ s,(M s).all (aL n)=true)
  (step:σ→Ty→σ×Bool) (G:σ→Prop) (hG:∀ s u,G s→(step s u).2=true→G (step s u).1) {B:Nat} (hB:B≤1048576) (hy:∀ s u,G s→u.size≤B→Ih aj k [bk u] (M s) (step s u).2 (M (step s u).1)) :
  ∀ (N:Nat) (t:Ty) (s:σ),G s→t.size≤N→N≤B→bo aj 170 [bk t,.ptr k1 0,.ptr k2 0] (M s) (bl (dr step s t.nodes).2) (M (dr step s t.nodes).1):=by
 have g0:∀ s (l:List bf),(M s++l)[n]?=l[0]?:=fun s l=>by rw [aX (by rw [hn];exact ay _),hn,eI]
 have g1:∀ s (l:List bf),(M s++l)[n+1]?=l[1]?:=fun s l=>by rw [aX (by rw [hn];omega),hn,dQ]
 have XK:∀ s (l:List bf),(M s++l)[k1]?=some (.box [.jK k]):=fun s l=>by rw [bh (by rw [hn];exact ib)];exact h1 s
 have gk2:∀ s (l:List bf),(M s++l)[k2]?=some (.box [.ia (.func 170) [] [.ptr k1 0,.ptr k2 0]]):=fun s l=>by rw [bh (by rw [hn];exact jI)];exact h2 s
 have gs:∀ s (l:List bf) X,(M s++l).set n X=M s++l.set 0 X:=fun s l X=>by rw [ic _ _ (by rw [hn];exact ay _),hn,eI]
 have gt:∀ s (l:List bf),(M s++l).take n=M s:=fun s l=>by rw [← hn s,qK]
 have XL:∀ s,(M s).take n=M s:=fun s=>by rw [dX (by rw [hn];exact ay _)]
 have fy:∀ s u (l:List bf),G s→u.size≤B→Ih aj k [bk u] (M s++l) (step s u).2 (M (step s u).1++l):=fun s u l hg hu=>by refine (hy s u hg hu).frame (by rw [hn];exact hk) ?_ (by rw [hn];exact hb s) (by rw [hn,hn]) (by rw [hn];exact hb _) l;rw [aT];simp [aI,aV,aD]
 intro N;induction N with|zero=>intro t s hg h;have:=t.size_pos;omega|succ N ih =>intro t s hg hN hNB;have qU:=t.fZ;have oW:=t.dG;have Q5:=ct Ty.size Ty.size_pos t.parts;have dy:=t.dU;have hp:=xw t (by omega);have Q9:=fun l=>fy s t l hg (by omega);(have XM:∀ u s (l:List bf),G s→u.size≤N→bo aj 170 [bk u,.ptr k1 0,.ptr k2 0] (M s++l) (bl (dr step s u.nodes).2) (M (dr step s u.nodes).1++l):=fun u s l hg hu=>by refine (ih u s hg hu (by omega)).frame ?_ (by rw [hn];exact hb s) rfl (by rw [hn,hn]) (by rw [hn];exact hb _) l;rw [aT,hn];simp [aI,aV,aD,ib,jI]);simp only [aT,aD] at XM;refine nI tt_ok (fn:=Tryz.f170) n (by rw [hn];exact ay _) Tryz.func170 rfl Tryz.call170 ?_;simp only [cP,cK,Tryz.ntmps170,af,ai,zA,zF,aG,aH];rw [aT] at hp Q9 ⊢;simp only [aD] at hp Q9 ⊢;refine ak tt_ok fun K hK=>?_;simp only [hn,go_sem];refine hK _ ?_;refine bc ?_;refine ak tt_ok fun K hK=>?_;simp only [XK,g0,hn,go_sem];refine .inl ⟨_,_,Q9 _,?_⟩;(try simp only [go_sem]);refine hK _ ?_;cases Ra:(step s t).2 with|false =>refine aO rfl ?_;refine ak tt_ok fun K hK=>?_;simp only [go_sem];refine hK _ ?_;refine bE ⟨.inl rfl,?_⟩;(have uo:dr step s t.nodes=((step s t).1,false):=by rw [dy];simp [dr,Ra]);rw [uo];exact⟨rfl,rfl,by dsimp only;rw [gt];exact hb _,(gt _ _).symm⟩|true =>refine aO rfl (bZ ?_);show dS _ _ _ _ _ _;refine bc ?_;refine ak tt_ok fun K hK=>?_;simp only [XK,g0,hn,go_sem];refine .inl ⟨_,_,by simp only [aS,go_sem,az],hp,?_⟩;(try simp only [aS,go_sem]);refine hK _ ?_;obtain⟨ps,AY⟩:∃ ps,ps=t.parts:=⟨_,rfl⟩;rw [← AY] at oW Q5 dy ⊢;refine bC (cR (fun N st=>∃ (i:Nat) (s':σ),G s'∧N=ps.length-i∧i≤ps.length∧dr step s (t :: (ps.take i).flatMap Ty.nodes)=(s',true) ∧ st = { fr:=[.undef,.ptr k1 0,.ptr k2 0,.undef,.undef,.undef,.undef,.undef,.undef,.undef,.undef,.undef,.slice (cM ps),num ps.length,num i]++List.replicate 8 .undef,mem:=M s' }) ps.length ?_ ?_);(·refine⟨n,(false::true::true::(rp 9 false [true,true,true])),by rw [hn];exact ay _,by simp only [bg,aI,aV,aL,zB,ib,jI,gG],by dsimp only;rw [gt];exact hb _,0,(step s t).1,hG s t hg Ra,by omega,by omega,by simp [dr,Ra],?_⟩;dsimp only;rw [gt];rfl);rintro N' st ⟨i,s',FQ,rfl,hi,Rb,rfl⟩;simp only [cP,aG,aH];by_cases bQ:i<ps.length;(·have hd:=gx bQ;refine ak tt_ok fun K hK=>?_;simp only [aS,hd,go_sem];refine hK _ ?_;refine bc (aO rfl (bZ ?_));refine bc (bC ?_);obtain⟨u,hu⟩:∃ u,ps[i]?=some u:=⟨_,au bQ⟩;have hus:=bU Ty.size hu;have jj:=fun l=>XM u s' l FQ (by omega);(have uf:(ps.take (i+1)).flatMap Ty.nodes=(ps.take i).flatMap Ty.nodes++u.nodes:=by rw [bH,hu];simp);(have Lt:dr step s (t :: (ps.take (i+1)).flatMap Ty.nodes)=dr step s' u.nodes:=by rw [uf,← aw,iY,Rb];simp);refine ak tt_ok fun K hK=>?_;simp only [dF,hu,aT,aD,hn,g0,gs,go_sem];refine hK _ ?_;refine ak tt_ok fun K hK=>?_;simp only [gk2,g0,hn,go_sem];(refine .inr <| .inl ⟨_,_,jj _,?_⟩);(try simp only [go_sem]);refine hK _ ?_;cases Rc:(dr step s' u.nodes).2 with|false =>refine aO rfl ?_;refine ak tt_ok fun K hK=>?_;simp only [go_sem];refine hK _ ?_;refine bE ⟨.inl rfl,?_⟩;(have uo:dr step s t.nodes=((dr step s' u.nodes).1,false):=by (have A4:ps.flatMap Ty.nodes=(ps.take (i+1)).flatMap Ty.nodes++(ps.drop (i+1)).flatMap Ty.nodes:=by rw [← lN,nB]);rw [dy,A4,← aw,iY,Lt,Rc];simp);rw [uo];exact⟨rfl,rfl,by dsimp only;rw [gt];exact hb _,(gt _ _).symm⟩|true =>refine aO rfl (bZ ?_);show dS _ _ _ _ _ _;refine aR tt_ok fun K hK=>?_;simp only [go_sem];refine hK _ ?_;have nr:=bN i (by omega);rw [nr];refine⟨ps.length-(i+1),by omega,n,(false::true::true::(rp 9 false [true,true,true])),by rw [hn];exact ay _,by simp only [bg,aI,aV,aL,zB,ib,jI,gG],by dsimp only;rw [gt];exact hb _,i+1,(dr step s' u.nodes).1,qA step hG _ _ FQ Rc,rfl,bQ,by rw [Lt,← Rc],?_⟩;dsimp only;rw [gt];rfl);have hd:=gy bQ;refine ak tt_ok fun K hK=>?_;simp only [aS,hd,go_sem];refine hK _ ?_;refine bc (aO rfl (dK ?_));(have kz:i=ps.length:=by omega);subst kz;show dS _ _ _ _ _ _;refine ak tt_ok fun K hK=>?_;simp only [go_sem];refine hK _ ?_;refine bE ⟨.inl rfl,?_⟩;rw [az] at Rb;rw [dy,Rb];exact⟨rfl,rfl,by dsimp only;rw [XL];exact hb _,(XL _).symm⟩
end
end
section
theorem G7 (t:Ty) (m:List bf) (hb:m.all (aL (m.length+1))=true):bo aj 88 [bk t] m (.ia (.func 169) [] [.ptr m.length 0]) (m++[.box (aD t)]):=by
 refine nI tt_ok (fn:=Tryz.f88) (m.length+1) (by omega) Tryz.func88 rfl Tryz.call88 ?_;simp only [cP,cK,Tryz.ntmps88,af,ai,zA,zF,aG,aH];rw [aT];simp only [aD];refine ak tt_ok fun K hK=>?_;simp only [go_sem];refine hK _ ?_;refine ak tt_ok fun K hK=>?_;simp only [go_sem];refine hK _ ?_;have ht:∀ B:bf,(m++[B]).take (m.length+1)=m++[B]:=fun B=>dX (by simp);refine bE ⟨.inl rfl,rfl,by simp [aI,aV],?_,?_⟩;·dsimp only;rw [ht];simp [hb,aL,aI,aV]
 dsimp only;rw [ht]
section
variable {σ:Type} {M:σ→List bf} {n k kt:Nat}
theorem Vs (hn:∀ s,(M s).length=n) (hk:k<n) (Nl:kt<n) {t:Ty} (h1:∀ s,(M s)[kt]?=some (.box (aD t))) (hb:∀ s,(M s).all (aL n)=true)
  (step:σ→Ty→σ×Bool) (G:σ→Prop) (hG:∀ s u,G s→(step s u).2=true→G (step s u).1) {B:Nat} (hB:B≤1048576) (hy:∀ s u,G s→u.size≤B→Ih aj k [bk u] (M s) (step s u).2 (M (step s u).1)) (ht:t.size≤B) (s:σ) (hs:G s) :
  bo aj 169 [.jK k,.ptr kt 0] (M s) (.dR []) (M (dr step s t.nodes).1):=by
 have g0:∀ s (l:List bf),(M s++l)[n]?=l[0]?:=fun s l=>by rw [aX (by rw [hn];exact ay _),hn,eI]
 have g1:∀ s (l:List bf),(M s++l)[n+1]?=l[1]?:=fun s l=>by rw [aX (by rw [hn];omega),hn,dQ]
 have XN:∀ s (l:List bf),(M s++l)[kt]?=some (.box (aD t)):=fun s l=>by rw [bh (by rw [hn];exact Nl)];exact h1 s
 have gs:∀ s (l:List bf) X,(M s++l).set (n+1) X=M s++l.set 1 X:=fun s l X=>by rw [ic _ _ (by rw [hn];omega),hn,dQ]
 have gt:∀ s (l:List bf),(M s++l).take n=M s:=fun s l=>by rw [← hn s,qK]
 have hw:∀ s,G s→bo aj 170 [bk t,.ptr n 0,.ptr (n+1) 0] (M s++[.box [.jK k],.box [.ia (.func 170) [] [.ptr n 0,.ptr (n+1) 0]]]) (bl (dr step s t.nodes).2) (M (dr step s t.nodes).1++[.box [.jK k],.box [.ia (.func 170) [] [.ptr n 0,.ptr (n+1) 0]]]):=fun s hs=>by refine Vr (M:=fun s=>M s++[.box [.jK k],.box [.ia (.func 170) [] [.ptr n 0,.ptr (n+1) 0]]]) (n:=n+2) (k:=k) (k1:=n) (k2:=n+1) (fun s=>by simp [hn]) (by omega) (by omega) (by omega) (fun s=>g0 _ _) (fun s=>g1 _ _) (fun s=>?_) step G hG hB (fun s u hg hu=>?_) t.size t s hs (ay _) ht;(·rw [o7,aJ];refine⟨qn (by omega) (hb s),?_⟩;simp [aL,aI,aV];omega);refine (hy s u hg hu).frame (by rw [hn];exact hk) ?_ (by rw [hn];exact hb s) (by rw [hn,hn]) (by rw [hn];exact hb _) _;rw [aT];simp [aI,aV,aD]
 refine nI tt_ok (fn:=Tryz.f169) n (by rw [hn];exact ay _) Tryz.func169 rfl Tryz.call169 ?_;simp only [cP,cK,Tryz.ntmps169,af,ai,zA,zF,aG,aH];have yx:=hw s hs;rw [aT] at yx;simp only [aD] at yx XN;refine ak tt_ok fun K hK=>?_;simp only [hn,go_sem];refine hK _ ?_;refine ak tt_ok fun K hK=>?_;simp only [hn,ae,al,go_sem];refine hK _ ?_;refine ak tt_ok fun K hK=>?_;simp only [hn,g1,gs,go_sem];refine hK _ ?_;refine aR tt_ok fun K hK=>?_;simp only [hn,g1,XN,go_sem];refine .inr <| .inl ⟨_,_,yx,?_⟩
 try simp only [go_sem]
 refine hK _ ?_;refine⟨.inr rfl,rfl,rfl,?_,?_⟩;·dsimp only;rw [gt];exact hb _
 dsimp only;rw [gt]
def iC {α:Type} (step:σ→α→σ×Option Code):σ→List α→σ×Option Code
 | s,[]=>(s,none)
 | s,u :: r=>match (step s u).2 with
  | none=>iC step (step s u).1 r
  | some c=>((step s u).1,some c)
def wi {α:Type} (step:σ→α→σ×Option Code) (s:σ×Option Code) (u:α):(σ×Option Code)×Bool:=(step s.1 u,(step s.1 u).2.isNone)
theorem zw {α:Type} (step:σ→α→σ×Option Code):∀ (l:List α) (s:σ),(dr (wi step) (s,none) l).1=iC step s l
 | [],s=>rfl
 | u :: r,s=>by
  simp only [dr,iC]
  have np:(wi step (s,none) u).1=step s u:=rfl
  have tZ:(wi step (s,none) u).2=(step s u).2.isNone:=rfl
  by_cases CC:(step s u).2.isNone=true
  ·rw [if_pos (tZ.trans CC),np]
   have h2:(step s u).2=none:=by simpa using CC
   have e:step s u=((step s u).1,none):=atQ rfl h2
   have h3:=zw step r (step s u).1
   rw [← e] at h3
   rw [h2]
   exact h3
  have Re:=CC
  rw [if_neg (fun h=>Re (tZ.symm.trans h)),np]
  cases h2:(step s u).2 with
  | none=>rw [h2] at Re;exact absurd rfl Re
  | some c=>dsimp only;exact atQ rfl h2
theorem take_set {mem pre:List bf} {n:Nat} {X Y:bf} (hn:pre.length=n) (h1:mem[n]?=some Y) (h2:mem.take n=pre):(mem.set n X).take (n+1)=pre++[X]:=by
 have bQ:n<mem.length:=(aA.1 h1).1;refine dC fun i=>?_;by_cases hi:i<n;·rw [jf (by omega),cD (by omega),bh (by omega),← h2,jf hi]
 by_cases oI:i=n;·subst oI;rw [jf (by omega),eJ bQ,aX (by omega)];simp [hn]
 rw [cH (by simp;omega),cH (by simp [hn];omega)]
theorem Nn {n0:Nat} {st:St} {Q:Exit→St→Prop} {f:Operand} {params:Array Tmp} {assign body:Code} {t:Ty} (pre:σ→List bf) (s0:σ) (n kt:Nat) (mz:st.mem=pre s0) (hn:∀ s,(pre s).length=n) (Nl:kt<n)
  (ht:∀ s,(pre s)[kt]?=some (.box (aD t))) (hb:∀ s,(pre s).all (aL (n+1))=true) (y8:st.fr.all (aI (n+1))=true) (hf:st.eval f = .ia (.func 169) [] [.ptr kt 0]) (hp:params.size=1) (step:σ→Ty→σ×Option Code) {B:Nat} (hB:B≤1048576) (iw:t.size≤B)
  (A5:∀ s u,u.size≤B→∀ (l:Nat) (LR LB:bf),aL (n+1) LR=true→aL (n+1) LB=true→dS aj (some l) (n+1) assign { fr:=om params.toList [bk u] st.fr,mem:=pre s++[LR] } fun ex tB=>ex = .normal∧tB.mem[n]?=some LR ∧
   dS aj (some l) (n+1) body { tB with mem:=tB.mem.set n LB } fun ex zd=>rR ex=some (step s u).2∧zd.mem[n]?=some LB∧zd.mem.take n=pre (step s u).1)
  (hq:match (iC step s0 t.nodes).2 with
   | none=>Q .normal { st with mem:=pre (iC step s0 t.nodes).1++[.dead] }
   | some c=>dS aj none n0 c { st with mem:=pre (iC step s0 t.nodes).1++[.dead] } Q):dS aj none n0 (.rangeFunc f params assign body) st Q:=by
 have hlen:st.mem.length=n:=by rw [mz,hn]
 have gn:∀ s X,(pre s++[X])[n]?=some X:=fun s X=>by rw [aX (by rw [hn];exact ay _),hn,eI];rfl
 have gk:∀ s X,(pre s++[X])[kt]?=some (.box (aD t)):=fun s X=>by rw [bh (by rw [hn];exact Nl)];exact ht s
 have G8:∀ s (X Y:bf),(pre s++[X]).set n Y=pre s++[Y]:=fun s X Y=>by rw [ic _ _ (by rw [hn];exact ay _),hn,eI];rfl
 have yy:∀ (s:σ) (a:LoopState) (b:Option Code),(pre s++[bf.loop a b st.fr params assign body]).all (aL (n+1))=true:=fun s a b=>by rw [o7,aJ];exact⟨hb s,by simp only [cI,dM,aU,aL];exact y8⟩
 have it:=Vs (M:=fun s:σ×Option Code=>pre s.1++[.loop (if s.2.isNone then .ready else .done) s.2 st.fr params assign body]) (n:=n+1) (k:=n) (kt:=kt) (t:=t) (fun s=>by simp [hn]) (by omega) (by omega) (fun s=>gk _ _) (fun s=>yy _ _ _)
  (wi step) (fun s=>s.2=none) (fun s u hs h=>by simpa [wi] using h) hB (fun s u hs hu=>by
   obtain⟨s,j⟩:=s
   simp only at hs;subst hs
   refine rS (fr:=st.fr) (params:=params) (assign:=assign) (body:=body) (gn _ _) (by simp [hp]) fun l=>?_
   have hl:(pre s++[bf.loop .ready none st.fr params assign body]).length=n+1:=by simp [hn]
   simp only [ac6,if_true,hl]
   refine dS.mono (A5 s u hu l (.loop .ready none st.fr params assign body) (.loop .busy none st.fr params assign body) y8 y8) ?_
   rintro ex tB ⟨h1,h2,h3⟩
   refine⟨h1,h2,dS.mono h3 ?_⟩
   rintro ex zd ⟨h4,h5,h6⟩
   refine⟨_,h4,rfl,h5,?_,?_⟩
   ·rw [take_set (hn _) h5 h6];exact yy _ _ _
   rw [take_set (hn _) h5 h6];rfl) iw (s0,none) rfl
 rw [zw] at it;refine oR (g:=169) (vs:=[.jK n,.ptr kt 0]) (by rw [hf,hlen];rfl) (by rw [mz];exact it) ?_;rw [hlen];refine⟨_,_,_,_,_,_,gn _ _,?_,?_⟩;·cases (iC step s0 t.nodes).2 <;> simp
 generalize hj:(iC step s0 t.nodes).2=j at hq;cases j with|none=>dsimp only at hq ⊢;rw [G8];exact hq|some c=>dsimp only at hq ⊢;rw [G8];exact hq
end
end
theorem uM {σ α:Type} (g:σ→α→σ):∀ (l:List α) (s:σ),iC (fun s u=>(g s u,none)) s l=(l.foldl g s,none)
 | [],s=>rfl
 | u :: r,s=>by simp only [iC,o3];exact uM g r _
theorem A6 {α:Type}:∀ (l:List α) (a:Nat),a+l.length≤1152921504606846976→l.foldl (fun (s:Int) _=>IntKind.i64.wrap (s+1)) (a:Int)=((a+l.length:Nat):Int)
 | [],a,_=>rfl
 | _ :: r,a,h=>by
  simp only [af] at h
  rw [o3,bN a (by omega),A6 r (a+1) (by omega),af]
  congr 1;omega
theorem nA (t:Ty) (ht:t.size≤1048576):bJ aj 86 [bk t] (num t.size):=by
 refine iN tt_ok (fn:=Tryz.f86) Tryz.func86 rfl Tryz.call86 ?_;simp only [cP,cK,Tryz.ntmps86,af,ai,zA,zF,aG,aH];have h51:=fun B0 B1 h=>G7 t [B0,B1] h;rw [aT] at h51 ⊢;simp only [aD] at h51 ⊢;refine ak tt_ok fun K hK=>?_;simp only [go_sem];refine hK _ ?_;refine ak tt_ok fun K hK=>?_;simp only [go_sem];refine hK _ ?_;refine bc ?_;refine ak tt_ok fun K hK=>?_;simp only [go_sem];refine .inr <| .inl ⟨_,_,h51 _ _ rfl,?_⟩
 try simp only [go_sem]
 refine hK _ ?_;refine bC (Nn (t:=t) (B:=1048576) (fun s:Int=>[.box (aD t),.box [num s],.box (aD t)]) 0 3 2 rfl (fun _=>rfl) (by omega) (fun _=>rfl) (fun _=>rfl) rfl rfl rfl (fun s _=>(IntKind.i64.wrap (s+1),none)) (by omega) ht ?_ ?_);·intro s u hu l LR LB hLR hLB;refine bZ ⟨rfl,rfl,bC ?_⟩;refine aR tt_ok fun K hK=>?_;simp only [go_sem];refine hK _ ?_;exact⟨rfl,rfl,rfl⟩
 rw [uM,show (0:Int)=((0:Nat):Int) from rfl,A6 _ _ (by rw [Ty.wh _ t (ay _)];omega),Ty.wh _ t (ay _),dL];show dS _ _ _ _ _ _;refine ak tt_ok fun K hK=>?_;simp only [go_sem];refine hK _ ?_;exact bE ⟨.inl rfl,rfl⟩
def er {α:Type} (f:α→Int):List α→Int
  | []=>0
  | u :: r=>if f u=0 then er f r else f u
def Fm (a b:ByteArray):Int:=if a=b then 5 else if T7 b a=true then 1 else 0
def kA:List ByteArray→Int
  | []=>0
  | a :: r=>match r with
    | []=>0
    | b :: _=>if Fm a b=0 then kA r else Fm a b
def jD (t:Ty):Bool:=decide (t.kind=0)&&jJ t.mod&&jJ t.name&&decide (t.args.length=0)&&decide (t.bA.length=0)
def Vt (t:Ty):Bool :=
  (decide (t.kind=8) || !(t.bA.any Fd.opt)) &&
  (if t.kind=0∨t.kind=1∨t.kind=2∨t.kind=3∨t.kind=4 then jJ t.mod&&jJ t.name&&decide (t.args.length=0)&&decide (t.bA.length=0)
   else if t.kind=5 then jJ t.mod&&jJ t.name&&decide (t.args.length=1)&&decide (t.bA.length=0)
   else if t.kind=6∨t.kind=7 then jJ t.mod&&jJ t.name&&decide (t.args.length=0)
   else if t.kind=8 then jJ t.mod&&jJ t.name&&decide (t.args.length=1)
   else if t.kind=9 then jJ t.mod&&decide (t.args.length=0)&&decide (t.bA.length=0)
   else if t.kind=10 then decide (t.bA.length=0) else false)
def tj (t:Ty):Int :=
  if Vt t=false then 1
  else if 32<t.bA.length∨8<t.args.length then 7
  else if (t.kind=9∧Ni t.name=false)∨(t.kind=10∧(rf t.mod=false∨jx t.name=false)) then 4
  else if (t.bA.any fun f=>!dz f.name)=true then 4
  else kA (t.bA.map Fd.name)
def mI (t:Ty):Int:=if 4096<t.size∨32<t.depth then 7 else er tj t.nodes
end Go.Proofs.YtfbbfmcggbapoaaGreatDoor
end
