import Derived.Test.YtnboooapeopjoaaGreatDoorJ2
import Derived.Shelf.Small.Wraps
import Derived.Shelf.Strings.Search3
import Derived.Shelf.Strings.Split
import Derived.Test.YtnboooapeopjoaaGreatDoorProg
import Derived.IntWalk
open Array renaming toArray_toList→cL
open Bool renaming and_eq_true→aN,and_true→aK
open ByteArray renaming size_append→an6
open Go.Proofs.Tryz renaming prog→ab
open List renaming all_append→Ga,all_cons→cA,all_eq_true→aY,all_nil→dA,append_assoc→AP,cons_append→aj,ext_getElem?→di,flatMap_append→am8,flatMap_cons→gq,foldl_cons→eZ,getElem?_append_left→bm,getElem?_append_right→aW,getElem?_eq_getElem→ah,getElem?_eq_none→dF,getElem?_eq_none_iff→an9,getElem?_eq_some_iff→ax,getElem?_map→ae,getElem?_set_ne→eE,getElem?_take_of_lt→jb,headD_cons→cM,length_append→ch,length_cons→aD,length_map→ag,length_nil→aM,mem_iff_getElem?→bL,mem_of_getElem?→ay,replicate_succ→aE,replicate_zero→aF,set_append_right→ep,take_add_one→bC,take_append_drop→u4,take_left→pJ,take_length→au,take_of_length_le→bE
open Nat renaming add_sub_cancel_left→dM,le_antisymm→anK,le_of_not_lt→anO,le_refl→aw,lt_or_ge→bW,not_lt_zero→iK,sub_self→c5,zero_add→ct,zero_le→bx
open Option renaming getD_some→amY,isNone_none→Yy,map_eq_some_iff→br,map_some→bz
open Prod renaming ext→ane
set_option linter.all false
section
namespace Go.Proofs.YtnboooapeopjoaaGreatDoor
set_option maxHeartbeats 4000000
set_option maxRecDepth 100000
section
open Go.RowKit Go.Lib Go.Shelf
def EF:Go.Shelf.Ren:=⟨fun | 103=>249 | 210=>282 | 206=>308 | n=>n,fun | 9=>9 | 4=>4 | 24=>129 | 3=>3 | n=>n,fun | n=>n⟩
theorem R3:Go.Proofs.Lays.n103 ab EF := {
 mixed:=by kernel_rfl
 f103:=Tryz.func249.trans (congrArg some (by kernel_rfl))
 f206:=Tryz.func308.trans (congrArg some (by kernel_rfl))
 f210:=Tryz.func282.trans (congrArg some (by kernel_rfl))
 t3:=Tryz.underlying3
 a3:=Tryz.isAgg3
 z3:=Tryz.sizeOf3
 v3:=Tryz.zeroValue3
 t4:=Tryz.underlying4
 a4:=Tryz.isAgg4
 z4:=Tryz.sizeOf4
 v4:=Tryz.zeroValue4
 t9:=Tryz.underlying9
 a9:=Tryz.isAgg9
 z9:=Tryz.sizeOf9
 v9:=Tryz.zeroValue9
 t24:=Tryz.underlying129
 a24:=Tryz.isAgg129
 z24:=Tryz.sizeOf129
 v24:=Tryz.zeroValue129 }
theorem strings_CutPrefix (s p:ByteArray) (w:World) :
  Calls ab 249 #[.string s,.string p] w fun e w'=>e = .returned (.tuple #[.string ⟨(Lib.trimPrefix s.data.toList p.data.toList).toArray⟩,.bool (Lib.hasPrefix s.data.toList p.data.toList)])∧w'=w:=Any.strings_CutPrefix R3 s p w
def EG:Go.Shelf.Ren:=⟨fun | 144=>231 | 143=>270 | 219=>301 | 217=>316 | 225=>317 | 224=>318 | 267=>319 | 266=>322 | 314=>323 | n=>n,fun | 9=>9 | 4=>4 | 3=>3 | 5=>5 | 46=>219 | 146=>295 | 51=>252 | n=>n,fun | n=>n⟩
theorem R4:Go.Proofs.Lays.n144 ab EG := {
 mixed:=by kernel_rfl
 f143:=Tryz.func270.trans (congrArg some (by kernel_rfl))
 f144:=Tryz.func231.trans (congrArg some (by kernel_rfl))
 f217:=Tryz.func316.trans (congrArg some (by kernel_rfl))
 f219:=Tryz.func301.trans (congrArg some (by kernel_rfl))
 f224:=Tryz.func318.trans (congrArg some (by kernel_rfl))
 f225:=Tryz.func317.trans (congrArg some (by kernel_rfl))
 f266:=Tryz.func322.trans (congrArg some (by kernel_rfl))
 f267:=Tryz.func319.trans (congrArg some (by kernel_rfl))
 f314:=Tryz.func323.trans (congrArg some (by kernel_rfl))
 t3:=Tryz.underlying3
 a3:=Tryz.isAgg3
 z3:=Tryz.sizeOf3
 v3:=Tryz.zeroValue3
 t4:=Tryz.underlying4
 a4:=Tryz.isAgg4
 z4:=Tryz.sizeOf4
 v4:=Tryz.zeroValue4
 t5:=Tryz.underlying5
 a5:=Tryz.isAgg5
 z5:=Tryz.sizeOf5
 v5:=Tryz.zeroValue5
 t9:=Tryz.underlying9
 a9:=Tryz.isAgg9
 z9:=Tryz.sizeOf9
 v9:=Tryz.zeroValue9
 t46:=Tryz.underlying219
 a46:=Tryz.isAgg219
 z46:=Tryz.sizeOf219
 v46:=Tryz.zeroValue219
 t51:=Tryz.underlying252
 a51:=Tryz.isAgg252
 z51:=Tryz.sizeOf252
 v51:=Tryz.zeroValue252
 t146:=Tryz.underlying295
 a146:=Tryz.isAgg295
 z146:=Tryz.sizeOf295
 v146:=Tryz.zeroValue295
 g1:=by kernel_rfl }
theorem strings_Contains (s sub:ByteArray) (m:Int) (w:World) (hs:s.size<4294967281) (hm:w.cell? ⟨1,0,none⟩=some (.int .i64 m)) :
  Calls ab 231 #[.string s,.string sub] w fun e w'=>e = .returned (.bool (Lib.contains s.data.toList sub.data.toList))∧w'=w:=Any.strings_Contains R4 s sub m w hs hm
def EH:Go.Shelf.Ren:=⟨fun | 146=>195 | 221=>248 | 268=>280 | 138=>281 | 143=>270 | 195=>305 | 197=>306 | 218=>307 | 219=>301 | 260=>321 | 217=>316 | 225=>317 | 224=>318 | 267=>319 | 266=>322 | 314=>323 | n=>n,fun | 9=>9 | 31=>36 | 3=>3 | 4=>4 | 0=>0 | 105=>286 | 21=>21 | 5=>5 | 46=>219 | 119=>297 | 139=>300 | 138=>299 | 146=>295 | 51=>252 | n=>n,fun | 1=>1 | 3=>4 | 4=>5 | n=>n⟩
theorem R5:Go.Proofs.Lays.n146 ab EH := {
 mixed:=by kernel_rfl
 f138:=Tryz.func281.trans (congrArg some (by kernel_rfl))
 f143:=Tryz.func270.trans (congrArg some (by kernel_rfl))
 f146:=Tryz.func195.trans (congrArg some (by kernel_rfl))
 f195:=Tryz.func305.trans (congrArg some (by kernel_rfl))
 f197:=Tryz.func306.trans (congrArg some (by kernel_rfl))
 f217:=Tryz.func316.trans (congrArg some (by kernel_rfl))
 f218:=Tryz.func307.trans (congrArg some (by kernel_rfl))
 f219:=Tryz.func301.trans (congrArg some (by kernel_rfl))
 f221:=Tryz.func248.trans (congrArg some (by kernel_rfl))
 f224:=Tryz.func318.trans (congrArg some (by kernel_rfl))
 f225:=Tryz.func317.trans (congrArg some (by kernel_rfl))
 f260:=Tryz.func321.trans (congrArg some (by kernel_rfl))
 f266:=Tryz.func322.trans (congrArg some (by kernel_rfl))
 f267:=Tryz.func319.trans (congrArg some (by kernel_rfl))
 f268:=Tryz.func280.trans (congrArg some (by kernel_rfl))
 f314:=Tryz.func323.trans (congrArg some (by kernel_rfl))
 t0:=Tryz.underlying0
 a0:=Tryz.isAgg0
 z0:=Tryz.sizeOf0
 v0:=Tryz.zeroValue0
 t3:=Tryz.underlying3
 a3:=Tryz.isAgg3
 z3:=Tryz.sizeOf3
 v3:=Tryz.zeroValue3
 t4:=Tryz.underlying4
 a4:=Tryz.isAgg4
 z4:=Tryz.sizeOf4
 v4:=Tryz.zeroValue4
 t5:=Tryz.underlying5
 a5:=Tryz.isAgg5
 z5:=Tryz.sizeOf5
 v5:=Tryz.zeroValue5
 t9:=Tryz.underlying9
 a9:=Tryz.isAgg9
 z9:=Tryz.sizeOf9
 v9:=Tryz.zeroValue9
 t21:=Tryz.underlying21
 a21:=Tryz.isAgg21
 z21:=Tryz.sizeOf21
 v21:=Tryz.zeroValue21
 t31:=Tryz.underlying36
 a31:=Tryz.isAgg36
 z31:=Tryz.sizeOf36
 v31:=Tryz.zeroValue36
 t46:=Tryz.underlying219
 a46:=Tryz.isAgg219
 z46:=Tryz.sizeOf219
 v46:=Tryz.zeroValue219
 t51:=Tryz.underlying252
 a51:=Tryz.isAgg252
 z51:=Tryz.sizeOf252
 v51:=Tryz.zeroValue252
 t105:=Tryz.underlying286
 a105:=Tryz.isAgg286
 z105:=Tryz.sizeOf286
 v105:=Tryz.zeroValue286
 t119:=Tryz.underlying297
 a119:=Tryz.isAgg297
 z119:=Tryz.sizeOf297
 t138:=Tryz.underlying299
 a138:=Tryz.isAgg299
 z138:=Tryz.sizeOf299
 v138:=Tryz.zeroValue299
 t139:=Tryz.underlying300
 a139:=Tryz.isAgg300
 z139:=Tryz.sizeOf300
 v139:=Tryz.zeroValue300
 t146:=Tryz.underlying295
 a146:=Tryz.isAgg295
 z146:=Tryz.sizeOf295
 v146:=Tryz.zeroValue295
 g1:=by kernel_rfl
 g3:=by kernel_rfl
 g4:=by kernel_rfl }
theorem strings_Split (s sep:ByteArray) (m:Int) (w:World) (hs:s.size<4294967281) (hm:w.cell? ⟨1,0,none⟩=some (.int .i64 m)) (h1:1≤sep.size) :
  Calls ab 195 #[.string s,.string sep] w fun e w' =>
   e = .returned (.slice (some ⟨w.heap.size,0,none⟩) (Lib.countB s sep+1) (Lib.countB s sep+1))∧w'=w.alloc (.cells ((Lib.splitB sep 0 (Lib.countB s sep) s).map Value.string).toArray 9):=Any.strings_Split R5 (by kernel_rfl) s sep m w hs hm h1
end
end Go.Proofs.YtnboooapeopjoaaGreatDoor
end

section
namespace Go.Eng
variable [a6]
open Go.RowKit (Below)
theorem bG.of_same {P:Program} {f:FuncId} {l:List Value} {v:Value} (hc:∀ (xs:Array Value) (w:World),(callFunc f xs).run P w = .ok (.enter f xs) w) (hG:a6.g=some 1)
  (h:∀ w:World,w.cell? ⟨1,0,none⟩=some (.int .i64 a6.n)→Calls P f l.toArray w fun e w'=>e = .returned v∧w'=w):bG P f (l.map V.sc) (kx v):=by
 refine⟨hc,fun F hg w xs hF hx=>?_⟩;have u6:xs=l.toArray:=by rw [← cL (xs:=xs)];congr 1;refine di fun i=>?_;cases hi:l[i]? with | none =>have h1:=hx.1;rw [ag] at h1;rw [dF (by have:=an9.1 hi; omega)] | some a =>obtain⟨y,hy,hr⟩:=hx.get (i:=i) (v:=.sc a) (by rw [ae,hi]; rfl);rw [hy,fY hr]
 rw [u6];refine (h w (hF _ _ (hg.n 1 hG))).mono ?_;rintro e w' ⟨rfl,rfl⟩;exact⟨F,_,rfl,fun _ _ h=>h,hF,fun _ _ h=>.inl h,⟨hg,kj _ _⟩,Below.refl _ _⟩
end Go.Eng
namespace Go.Proofs.YtnboooapeopjoaaGreatDoor
open Go.Eng
open Go.RowKit (Below)
variable [a6]
theorem qK (hG:a6.g=some 1) (s t:ByteArray) (hs:s.size<4294967281):bG ab 231 [str s,str t] (bl (Lib.contains s.data.toList t.data.toList)) :=
 bG.of_same (l:=[.string s,.string t]) Tryz.call231 hG fun w hw=>strings_Contains s t a6.n w hs hw
theorem Ko (hG:a6.g=some 1) (s t:ByteArray):bG ab 249 [str s,str t] (.eC [str ⟨(Lib.trimPrefix s.data.toList t.data.toList).toArray⟩,bl (Lib.hasPrefix s.data.toList t.data.toList)]) :=
 bG.of_same (l:=[.string s,.string t]) Tryz.call249 hG fun w _=>strings_CutPrefix s t w
def pieces (s:ByteArray):List ByteArray:=Lib.splitB ⟨#[47]⟩ 0 (Lib.countB s ⟨#[47]⟩) s
theorem mb (s:ByteArray):(pieces s).length=Lib.countB s ⟨#[47]⟩+1:=Lib.splitB_all ⟨#[47]⟩ (by decide) 0 _ s rfl
theorem NH (hG:a6.g=some 1) (s:ByteArray) (hs:s.size<4294967281):bG ab 195 [str s,str ⟨#[47]⟩] (.slice ((pieces s).map str)):=by
 refine⟨Tryz.call195,fun F hg w xs hF hx=>?_⟩;obtain⟨x,ys,u6,hr,aaW⟩:=hx.of_cons;obtain⟨y,zs,hys,Dq,hz⟩:=aaW.of_cons;have Vh:=hz.of_nil;subst Vh;have h1:=fY hr;have h2:=fY Dq;subst h1; subst h2; subst hys;obtain rfl:xs = #[.string s,.string ⟨#[47]⟩]:=by rw [← cL (xs:=xs),u6]
 refine (strings_Split s ⟨#[47]⟩ a6.n w hs (hF _ _ (hg.n 1 hG)) (by decide)).mono ?_;rintro e w' ⟨rfl,rfl⟩;have hold:∀ ad y,F ad=some y→ad.block≠w.heap.size:=fun ad y h e=>by have:=World.block_lt_of_cell? w ad (hF ad y h); omega
 have ob:∀ o,(w.alloc (.cells ((pieces s).map Value.string).toArray 9)).cell? ⟨w.heap.size,o,none⟩=((pieces s).map Value.string)[o]?:=fun o=>by unfold World.cell? World.alloc;simp
 let F':Addr→Option Value:=fun ad=>if ad.block=w.heap.size then (w.alloc (.cells ((pieces s).map Value.string).toArray 9)).cell? ad else F ad;have hFF:∀ ad y,F ad=some y→F' ad=some y:=fun ad y h=>by show (if _ then _ else _)=_;rw [if_neg (hold ad y h)]; exact h
 have DT:Gl F':=hg.mono hFF;refine⟨F',_,rfl,hFF,fun ad y h=>?_,fun ad y h=>?_,⟨DT,?_⟩,(Below.refl _ _).alloc (aw _) _⟩;·by_cases hb:ad.block=w.heap.size;(·rw [show F' ad=_ from if_pos hb] at h; exact h);rw [show F' ad=_ from if_neg hb] at h;have h3:=hF ad y h;rw [← h3];have bX:=World.block_lt_of_cell? w ad h3;unfold World.cell?;rw [Below.heap_alloc w _ _ bX]
 ·by_cases hb:ad.block=w.heap.size;(·exact .inr (by omega));rw [show F' ad=_ from if_neg hb] at h; exact .inl h
 have hl:((pieces s).map str).length=Lib.countB s ⟨#[47]⟩+1:=by rw [ag,mb]
 have:=cK.slice ⟨F',fun _ _=>none,DT⟩ ((pieces s).map str) (some ⟨w.heap.size,0,none⟩) (Lib.countB s ⟨#[47]⟩+1) 1 ⟨w.heap.size,0,none⟩ (fun i _=>(((pieces s).map Value.string)[i]?).getD undef) (fun _=>rfl) (by rw [hl]; exact aw _)
  (fun i row hi=>by rw [ae,br] at hi; obtain⟨u,-,rfl⟩:=hi; rfl)
  (fun i row j c hi hj=>by
   rw [ae,br] at hi
   obtain⟨u,hu,rfl⟩:=hi
   match j,hj with
   | 0,hj =>
    show F' _=_
    rw [add_lit,show F' _=_ from if_pos rfl,ob]
    simp [hu]
   | j+1,hj=>simp [V.cells] at hj)
  (fun i row j c hi hj=>by
   rw [ae,br] at hi
   obtain⟨u,hu,rfl⟩:=hi
   simp [hu,Value.oneCell'])
  (fun i row j c hi hj=>by
   rw [ae,br] at hi
   obtain⟨u,hu,rfl⟩:=hi
   match j,hj with
   | 0,hj =>
    cases hj
    simp only [ae,hu,bz,amY]
    exact .sc _ _
   | j+1,hj=>simp [V.cells] at hj)
 rw [hl] at this;exact this
end Go.Proofs.YtnboooapeopjoaaGreatDoor
end

section
namespace Go.Proofs.YtnboooapeopjoaaGreatDoor
open Go.Eng
variable [a6]
open Nat renaming reduceAdd → zA, reduceLT → zB, reduceLeDiff → zC, reduceMul → zD, reduceEqDiff → zE, reduceSub → zF
set_option maxHeartbeats 4000000
set_option maxRecDepth 100000
def aaX:ByteArray:=⟨#[32,97,110,100,32,97,110,121,32,97,115,32,98,111,111,108,32,100,101,112,114,101,99,97,116,101,100,32,101,108,115,101,32,101,120,112,111,114,116,32,102,97,108,115,101,32,102,110,32,102,111,108,100,32,102,114,111,109,32,105,102,32,105,109,112,111,114,116,32,105,110,32,105,110,116,32,108,101,110,103,116,104,32,108,101,116,32,108,105,115,116,32,109,97,116,99,104,32,109,111,100,117,108,101,32,110,111,110,101,32,110,111,116,32,111,114,32,116,101,120,116,32,116,104,101,110,32,116,114,117,101,32,116,121,112,101,32,117,115,101,32]⟩
def kwB (s:ByteArray):Bool:=Lib.contains aaX.data.toList (⟨#[32]⟩++s++⟨#[32]⟩:ByteArray).data.toList
def eP (s:ByteArray):Bool:=decide (1≤s.size)&&decide (s.size≤32)&&Km (kD s 0)&&pX AH s && !kwB s
def EI (s:ByteArray):Bool:=eP s&&pX NB s
def CE (s:ByteArray):ByteArray:=⟨(Lib.trimPrefix s.data.toList [118]).toArray⟩
def NI (s:ByteArray):Bool:=Lib.hasPrefix s.data.toList [118]
def oQ (t:ByteArray):Nat→Int
 | 0=>0
 | k+1=>10*oQ t k+(kD t k-48)
def r6 (t:ByteArray):Bool:=decide (1≤t.size)&&decide (t.size≤3) && !(decide (1<t.size)&&decide (kD t 0=48))&&pX sT t
def pS (s:ByteArray):Bool:=NI s&&r6 (CE s)
def AI (s:ByteArray):Int:=oQ (CE s) (CE s).size
theorem yZ {p:Int→Bool} {s:ByteArray} (h:pX p s=true) {i:Nat} {c:UInt8} (hc:s[i]?=some c):p c.toNat=true:=aY.1 h c (ay (uo hc))
theorem y0 {t:ByteArray} (h:pX sT t=true):∀ k,k≤t.size→0≤oQ t k∧oQ t k<10 ^ k
 | 0,_=>⟨Int.le_refl _,by simp [oQ]⟩
 | k+1,hk=>by
  obtain⟨h1,h2⟩:=y0 h k (by omega)
  obtain⟨c,hc⟩:=jf (s:=t) (i:=k) (by omega)
  have h3:=yZ h hc
  unfold sT at h3
  simp only [aN,decide_eq_true_eq] at h3
  rw [oQ,j3 hc,Int.pow_succ]
  omega
theorem NJ {t:ByteArray} (h:pX sT t=true) (h3:t.size≤3) {k:Nat} (hk:k≤t.size):0≤oQ t k∧oQ t k<1000:=by
 obtain⟨h1,h2⟩:=y0 h k hk;refine⟨h1,Int.lt_of_lt_of_le h2 ?_⟩;have:k=0∨k=1∨k=2∨k=3:=by omega
 rcases this with rfl | rfl | rfl | rfl <;> decide
theorem Ho (hG:a6.g=some 1) (s:ByteArray) (hs:s.size≤1000000):∃ r_,(fun w=>w=bl (kwB s)) r_∧bG ab 179 [str s] r_:=by refine kc tt_ok [] 7 [.tmp 2] (fn:=Tryz.f179) Tryz.func179 rfl Tryz.call179 ⟨rfl,rfl,by simp⟩ fun K hK=>?_;have sa1:=fun x y=>Cd ab 9 x y ⟨#[32]⟩ s (by rw [show (⟨#[32]⟩:ByteArray).size=1 from rfl,show IntKind.i64.max=9223372036854775807 from rfl]; omega);have sa2:=fun x y=>Cd ab 9 x y (⟨#[32]⟩++s) ⟨#[32]⟩ (by rw [an6,show (⟨#[32]⟩:ByteArray).size=1 from rfl,show IntKind.i64.max=9223372036854775807 from rfl]; omega);simp only [sa1,sa2,go_sem];refine cF (⟨_,rfl,qK hG _ _ (by decide)⟩) ?_;rintro _ rfl;simp only [sa1,sa2,go_sem];exact hK _ rfl
theorem iC (hG:a6.g=some 1) (s:ByteArray):∃ r_,(fun w=>w=bl (eP s)) r_∧bG ab 130 [str s] r_:=by
 refine kc tt_ok [] 24 [.tmp 2] (fn:=Tryz.f130) Tryz.func130 rfl Tryz.call130 ⟨rfl,rfl,by simp⟩ fun K hK=>?_;have vb:ab.underlying 9=some .string:=by kernel_rfl
 have sl:∀ (a:ByteArray) (ty:TypeId),kZ ab (Builtin.len_ #[9] ty) [.sc (.string a)]=some (num a.size):=fun a ty=>l8 (P:=ab) (tt:=tt) (T:=9) a vb ty;simp only [sl,go_sem];refine bY (fun jH=>?_) (fun jH=>?_);·have h1:=CD rfl jH;obtain⟨NK,qL⟩:=jf (s:=s) (i:=(0:Int).toNat) (by omega);have ed:=mr (P:=ab) s vb .i64 (0) (by omega) (c:=NK) qL;have jT:kD s 0=NK.toNat:=j3 qL;simp only [ed,sl,go_sem];refine bY (fun so=>?_) (fun so=>?_);(·simp only [ed,sl,go_sem];refine cF (yV _) ?_;rintro _ rfl;simp only [ed,sl,go_sem];refine bY (fun y1=>?_) (fun y1=>?_);(·simp only [ed,sl,go_sem];refine cF (yY 170 AH Ja s (by have:=of_decide_eq_true so; omega)) ?_;rintro _ rfl;simp only [ed,sl,go_sem];refine bY (fun Hp=>?_) (fun Hp=>?_);(·simp only [ed,sl,go_sem];refine cF (Ho hG s (by have:=of_decide_eq_true so; omega)) ?_;rintro _ rfl;simp only [ed,sl,go_sem];exact hK _ (congrArg bl (by simp_all [eP] <;> (intros; omega))));simp only [ed,sl,go_sem];exact hK _ (congrArg bl (by simp_all [eP] <;> (intros; omega))));simp only [ed,sl,go_sem];exact hK _ (congrArg bl (by simp_all [eP] <;> (intros; omega))));simp only [ed,sl,go_sem];exact hK _ (congrArg bl (by simp_all [eP] <;> (intros; omega)))
 have h1:=yU rfl jH;simp only [sl,go_sem];exact hK _ (congrArg bl (by simp_all [eP] <;> (intros; omega)))
theorem Hq (hG:a6.g=some 1) (s:ByteArray):∃ r_,(fun w=>w = .eC [num (if pS s=true then AI s else 0),bl (pS s)]) r_∧bG ab 196 [str s] r_:=by
 refine kc tt_ok [] 53 [.tmp 2,.tmp 3] (fn:=Tryz.f196) Tryz.func196 rfl Tryz.call196 ⟨rfl,rfl,by simp⟩ fun K hK=>?_;have vb:ab.underlying 9=some .string:=by kernel_rfl
 have sl:∀ (a:ByteArray) (ty:TypeId),kZ ab (Builtin.len_ #[9] ty) [.sc (.string a)]=some (num a.size):=fun a ty=>l8 (P:=ab) (tt:=tt) (T:=9) a vb ty;have hT5:ab.underlying 5=some (.int .u8):=by kernel_rfl
 have hT3:ab.underlying 3=some (.int .i64):=by kernel_rfl
 have cv:=fun (k:IntKind) (n:Int)=>Rf (P:=ab) (src:=5) (dst:=3) hT5 hT3 k n;simp only [sl,cv,go_sem];refine cF (⟨_,rfl,Ko hG s ⟨#[118]⟩⟩) ?_;rintro _ rfl;obtain⟨t,ht⟩:∃ t,t=CE s:=⟨_,rfl⟩;obtain⟨hv,hhv⟩:∃ b,b=NI s:=⟨_,rfl⟩;have e1:(⟨(Lib.trimPrefix s.data.toList [118]).toArray⟩:ByteArray)=t:=ht.symm;have e2:Lib.hasPrefix s.data.toList [118]=hv:=hhv.symm;have QR:pS s=(hv&&r6 t):=by rw [hhv,ht]; rfl
 simp only [e1,e2];simp only [sl,cv,go_sem];refine bY (fun ur=>?_) (fun ur=>?_)
 ·have r5:pS s=false:=by rw [QR]; simp_all [r6] <;> (intros; omega)
  simp only [sl,cv,go_sem];refine hK _ ?_
  first
   | (rw [r5]; rfl)
   | (rw [gh]; subst jw; unfold AI; rw [← ht]; rfl)
 simp only [sl,cv,go_sem];refine bY (fun NL=>?_) (fun NL=>?_)
 ·have h1:t.size=0:=yU (e:=⟨#[]⟩) rfl (by rw [NL]; rfl);have r5:pS s=false:=by rw [QR]; simp_all [r6] <;> (intros; omega)
  simp only [sl,cv,go_sem];refine hK _ ?_
  first
   | (rw [r5]; rfl)
   | (rw [gh]; subst jw; unfold AI; rw [← ht]; rfl)
 have h1:1≤t.size:=CD (e:=⟨#[]⟩) rfl (by rw [NL]; rfl);obtain⟨NK,qL⟩:=jf (s:=t) (i:=(0:Int).toNat) (by omega);have ed:=mr (P:=ab) t vb .i64 (0) (by omega) (c:=NK) qL;have jT:kD t 0=NK.toNat:=j3 qL;simp only [ed,sl,cv,go_sem];refine bY (fun Hr=>?_) (fun Hr=>?_)
 ·have r5:pS s=false:=by rw [QR]; simp_all [r6] <;> (intros; omega)
  simp only [ed,sl,cv,go_sem];refine hK _ ?_
  first
   | (rw [r5]; rfl)
   | (rw [gh]; subst jw; unfold AI; rw [← ht]; rfl)
 simp only [ed,sl,cv,go_sem];refine bY (fun WV=>?_) (fun WV=>?_)
 ·simp only [ed,sl,cv,go_sem];refine bY (fun WW=>?_) (fun WW=>?_)
  ·have r5:pS s=false:=by rw [QR]; simp_all [r6] <;> (intros; omega)
   simp only [ed,sl,cv,go_sem];refine hK _ ?_
   first
    | (rw [r5]; rfl)
    | (rw [gh]; subst jw; unfold AI; rw [← ht]; rfl)
  simp only [ed,sl,cv,go_sem];refine cF (yY 198 sT uq t (by have:=of_decide_eq_false Hr; omega)) ?_;rintro _ rfl;simp only [ed,sl,cv,go_sem];refine bY (fun xp=>?_) (fun xp=>?_)
  ·have r5:pS s=false:=by rw [QR]; simp_all [r6] <;> (intros; omega)
   simp only [ed,sl,cv,go_sem];refine hK _ ?_
   first
    | (rw [r5]; rfl)
    | (rw [gh]; subst jw; unfold AI; rw [← ht]; rfl)
  have gh:pS s=true:=by rw [QR]; simp_all [r6] <;> (intros; omega)
  have Kp:r6 t=true:=by rw [QR] at gh; simp at gh; exact gh.2
  have hdg:pX sT t=true:=by unfold r6 at Kp; simp only [aN] at Kp; exact Kp.2
  have h3:t.size≤3:=by unfold r6 at Kp; simp only [aN,decide_eq_true_eq] at Kp; exact Kp.1.1.2
  simp only [ed,sl,cv,go_sem];refine iB tt_ok [] [40,5] 0 [0,2,3,37,39] (fun vs=>((t.size:Int)-Go.Eng.intOf (vs.headD .undef)).toNat) (fun vs=>∃ i:Nat,vs=[num i,num (oQ t i)]∧i≤t.size) (by omega) (by simp only [ed,sl,cv,go_sem]) (⟨0,rfl,bx _⟩) fun vs hI Z1 ee=>?_;obtain⟨i,rfl,hi⟩:=hI;simp only [ed,sl,cv,go_sem];refine bY (fun Hs=>?_) (fun Hs=>?_);·(have bX:i<t.size:=by simpa using Hs);have hw:=bB i (by omega);obtain⟨c,NC⟩:=jf (s:=t) (i:=i) bX;have ND:=mr (P:=ab) t vb .i64 (i:Int) (by omega) (c:=c) (show t[((i:Nat):Int).toNat]?=some c from NC);have hcd:=yZ hdg NC;unfold sT at hcd;simp only [aN,decide_eq_true_eq] at hcd;obtain⟨TJ,Vs⟩:=NJ hdg h3 hi;(have hu:IntKind.u8.wrap ((c.toNat:Int)-48)=(c.toNat:Int)-48:=by have h:=c.toNat_lt; simp only [IntKind.wrap,IntKind.bits,IntKind.signed]; simp; omega);have NM:IntKind.i64.wrap ((c.toNat:Int)-48)=(c.toNat:Int)-48:=IntWalk.i64_in _ (by omega);have NN:IntKind.i64.wrap (10*oQ t i)=10*oQ t i:=IntWalk.i64_in _ (by omega);(have EJ:IntKind.i64.wrap (10*oQ t i+((c.toNat:Int)-48))=oQ t (i+1):=by rw [oQ,j3 NC]; exact IntWalk.i64_in _ (by omega));simp only [ed,hw,ND,hu,NM,NN,EJ,sl,cv,go_sem];refine ee _ (oj (by omega) (by simp only [ed,hw,ND,hu,NM,NN,EJ,sl,cv,go_sem]) ?_ ?_) <;> simp only [fC,lk,reduceIte,zE];(·exact⟨i+1,rfl,bX⟩);simp only [Go.Eng.intOf,cM]; omega
  have jw:i=t.size:=anK hi (anO (by simpa using Hs));simp only [ed,sl,cv,go_sem];refine hK _ ?_
  first
   | (rw [r5]; rfl)
   | (rw [gh]; subst jw; unfold AI; rw [← ht]; rfl)
 simp only [ed,sl,cv,go_sem];refine cF (yY 198 sT uq t (by have:=of_decide_eq_false Hr; omega)) ?_;rintro _ rfl;simp only [ed,sl,cv,go_sem];refine bY (fun xp=>?_) (fun xp=>?_)
 ·have r5:pS s=false:=by rw [QR]; simp_all [r6] <;> (intros; omega)
  simp only [ed,sl,cv,go_sem];refine hK _ ?_
  first
   | (rw [r5]; rfl)
   | (rw [gh]; subst jw; unfold AI; rw [← ht]; rfl)
 have gh:pS s=true:=by rw [QR]; simp_all [r6] <;> (intros; omega)
 have Kp:r6 t=true:=by rw [QR] at gh; simp at gh; exact gh.2
 have hdg:pX sT t=true:=by unfold r6 at Kp; simp only [aN] at Kp; exact Kp.2
 have h3:t.size≤3:=by unfold r6 at Kp; simp only [aN,decide_eq_true_eq] at Kp; exact Kp.1.1.2
 simp only [ed,sl,cv,go_sem];refine iB tt_ok [] [40,5] 0 [0,2,3,37,39] (fun vs=>((t.size:Int)-Go.Eng.intOf (vs.headD .undef)).toNat) (fun vs=>∃ i:Nat,vs=[num i,num (oQ t i)]∧i≤t.size) (by omega) (by simp only [ed,sl,cv,go_sem]) (⟨0,rfl,bx _⟩) fun vs hI Z2 mc=>?_;obtain⟨i,rfl,hi⟩:=hI;simp only [ed,sl,cv,go_sem];refine bY (fun Hs=>?_) (fun Hs=>?_);·(have bX:i<t.size:=by simpa using Hs);have hw:=bB i (by omega);obtain⟨c,NC⟩:=jf (s:=t) (i:=i) bX;have ND:=mr (P:=ab) t vb .i64 (i:Int) (by omega) (c:=c) (show t[((i:Nat):Int).toNat]?=some c from NC);have hcd:=yZ hdg NC;unfold sT at hcd;simp only [aN,decide_eq_true_eq] at hcd;obtain⟨TJ,Vs⟩:=NJ hdg h3 hi;(have hu:IntKind.u8.wrap ((c.toNat:Int)-48)=(c.toNat:Int)-48:=by have h:=c.toNat_lt; simp only [IntKind.wrap,IntKind.bits,IntKind.signed]; simp; omega);have NM:IntKind.i64.wrap ((c.toNat:Int)-48)=(c.toNat:Int)-48:=IntWalk.i64_in _ (by omega);have NN:IntKind.i64.wrap (10*oQ t i)=10*oQ t i:=IntWalk.i64_in _ (by omega);(have EJ:IntKind.i64.wrap (10*oQ t i+((c.toNat:Int)-48))=oQ t (i+1):=by rw [oQ,j3 NC]; exact IntWalk.i64_in _ (by omega));simp only [ed,hw,ND,hu,NM,NN,EJ,sl,cv,go_sem];refine mc _ (oj (by omega) (by simp only [ed,hw,ND,hu,NM,NN,EJ,sl,cv,go_sem]) ?_ ?_) <;> simp only [fC,lk,reduceIte,zE];(·exact⟨i+1,rfl,bX⟩);simp only [Go.Eng.intOf,cM]; omega
 have jw:i=t.size:=anK hi (anO (by simpa using Hs));simp only [ed,sl,cv,go_sem];refine hK _ ?_
 first
  | (rw [r5]; rfl)
  | (rw [gh]; subst jw; unfold AI; rw [← ht]; rfl)
section
def EK (s:ByteArray):ByteArray:=(pieces s).getLast?.getD ⟨#[]⟩
def gA (s:ByteArray):Bool:=pS (EK s)&&decide (s.size≤64)&&decide (2≤(pieces s).length)&&(pieces s).all EI
def pw (s:ByteArray):Int:=if gA s=true then AI (EK s) else 0
def oR (s:ByteArray):Int:=if gA s=true then 0 else 4
theorem Kq (s:ByteArray):(pieces s).length≤s.size+1:=by rw [mb];have:=Lib.countB_le ⟨#[47]⟩ (by decide) s.size s (aw _);omega
theorem NO {s z:ByteArray} (h:(pieces s)[(pieces s).length-1]?=some z):EK s=z:=by unfold EK;rw [List.getLast?_eq_getElem?,h]; rfl
theorem WX {α:Type} {q:α→Bool} {l:List α} (h:∀ j<l.length,∀ x,l[j]?=some x→q x=true):l.all q=true:=by rw [aY];intro x hx;obtain⟨j,hj⟩:=bL.1 hx;exact h j (ax.1 hj).1 x hj
theorem NP {α:Type} {q:α→Bool} {l:List α} {i:Nat} {x:α} (h:l[i]?=some x) (hq:q x=false):l.all q=false:=by cases ha:l.all q with | false=>rfl | true=>have:=aY.1 ha x (ay h); rw [hq] at this; cases this
section
attribute [local go_sem] ag
theorem NQ (hG:a6.g=some 1) (s:ByteArray) (hs:s.size≤1048576):∃ r_,(fun w=>w = .eC [num (pw s),num (oR s)]) r_∧bG ab 138 [str s] r_:=by
 refine kc tt_ok [] 49 [.tmp 2,.tmp 3] (fn:=Tryz.f138) Tryz.func138 rfl Tryz.call138 ⟨rfl,rfl,by simp⟩ fun K hK=>?_;have vb:ab.underlying 9=some .string:=by kernel_rfl
 have sl:∀ (a:ByteArray) (ty:TypeId),kZ ab (Builtin.len_ #[9] ty) [.sc (.string a)]=some (num a.size):=fun a ty=>l8 (P:=ab) (tt:=tt) (T:=9) a vb ty;simp only [sl,go_sem];refine cF (⟨_,rfl,NH hG s (by omega)⟩) ?_;rintro _ rfl;obtain⟨P,hP⟩:∃ P,P=pieces s:=⟨_,rfl⟩;have hPl:=Kq s;have hP1:=mb s;rw [← hP];rw [← hP] at hPl hP1;obtain⟨z,hz⟩:∃ z,P[P.length-1]?=some z:=⟨_,ah (by omega)⟩;have Gh:EK s=z:=NO (by rw [← hP]; exact hz);have iy:IntKind.i64.wrap ((P.length:Int)-1)=((P.length-1:Nat):Int):=lf _ _ (by omega) (by omega);simp only [ae,hz,iy,sl,go_sem];refine cF (Hq hG z) ?_;rintro _ rfl;simp only [ae,hz,iy,sl,go_sem];refine bY (fun NR=>?_) (fun NR=>?_)
 ·have r5:gA s=false:=by unfold gA; rw [Gh,← hP]; simp_all <;> (intros; omega)
  simp only [ae,hz,iy,sl,go_sem];refine hK _ ?_
  first
   | (unfold pw oR; rw [r5]; rfl)
   | (unfold pw oR; rw [gh,Gh]; simp_all; done)
   | (unfold pw oR; rw [gh,Gh]; simp_all; rfl)
 simp only [ae,hz,iy,sl,go_sem];refine bY (fun NS=>?_) (fun NS=>?_)
 ·have r5:gA s=false:=by unfold gA; rw [Gh,← hP]; simp_all <;> (intros; omega)
  simp only [ae,hz,iy,sl,go_sem];refine hK _ ?_
  first
   | (unfold pw oR; rw [r5]; rfl)
   | (unfold pw oR; rw [gh,Gh]; simp_all; done)
   | (unfold pw oR; rw [gh,Gh]; simp_all; rfl)
 simp only [ae,hz,iy,sl,go_sem];refine bY (fun WY=>?_) (fun WY=>?_)
 ·have r5:gA s=false:=by unfold gA; rw [Gh,← hP]; simp_all <;> (intros; omega)
  simp only [ae,hz,iy,sl,go_sem];refine hK _ ?_
  first
   | (unfold pw oR; rw [r5]; rfl)
   | (unfold pw oR; rw [gh,Gh]; simp_all; done)
   | (unfold pw oR; rw [gh,Gh]; simp_all; rfl)
 simp only [ae,hz,iy,sl,go_sem];refine iB tt_ok [] [35] 0 [5,32,33,34] (fun vs=>((P.length:Int)-Go.Eng.intOf (vs.headD .undef)).toNat) (fun vs=>∃ i:Nat,vs=[num i]∧i≤P.length∧∀ j<i,∀ x,P[j]?=some x→EI x=true) (by omega) (by simp only [ae,hz,iy,sl,go_sem]) (⟨0,rfl,bx _,fun j hj=>absurd hj (iK j)⟩) fun vs hI Z1 ee=>?_;obtain⟨i,rfl,hi,er⟩:=hI;simp only [ae,hz,iy,sl,go_sem];refine bY (fun vK=>?_) (fun vK=>?_)
 ·have bX:i<P.length:=by simpa using vK
  have hw:=bB i (by omega);obtain⟨x,hx⟩:∃ x,P[i]?=some x:=⟨_,ah bX⟩;simp only [ae,hz,iy,hw,hx,sl,go_sem];refine cF (iC hG x) ?_;rintro _ rfl;simp only [ae,hz,iy,hw,hx,sl,go_sem];refine bY (fun Bi=>?_) (fun Bi=>?_)
  ·have r5:gA s=false:=by have ha:P.all EI=false:=NP hx (by unfold EI; simp_all);unfold gA; rw [← hP,ha]; simp
   simp only [ae,hz,iy,hw,hx,sl,go_sem];refine hK _ ?_
   first
    | (unfold pw oR; rw [r5]; rfl)
    | (unfold pw oR; rw [gh,Gh]; simp_all; done)
    | (unfold pw oR; rw [gh,Gh]; simp_all; rfl)
  have hnm:eP x=true:=by simpa using Bi
  simp only [ae,hz,iy,hw,hx,sl,go_sem];refine cF (yY 197 NB aaQ x (by have h:=hnm; unfold eP at h; simp only [aN,decide_eq_true_eq] at h; omega)) ?_;rintro _ rfl;simp only [ae,hz,iy,hw,hx,sl,go_sem];refine bY (fun Kr=>?_) (fun Kr=>?_)
  ·have r5:gA s=false:=by have ha:P.all EI=false:=NP hx (by unfold EI; simp_all);unfold gA; rw [← hP,ha]; simp
   simp only [ae,hz,iy,hw,hx,sl,go_sem];refine hK _ ?_
   first
    | (unfold pw oR; rw [r5]; rfl)
    | (unfold pw oR; rw [gh,Gh]; simp_all; done)
    | (unfold pw oR; rw [gh,Gh]; simp_all; rfl)
  simp only [ae,hz,iy,hw,hx,sl,go_sem];refine ee _ (oj (by omega) (by simp only [ae,hz,iy,hw,hx,sl,go_sem]) ?_ ?_) <;> simp only [fC,lk,reduceIte,zE];·refine⟨i+1,rfl,bX,fun j hj=>?_⟩;(rcases bW j i with h | h);(·exact er j h);(obtain rfl:j=i:=by omega);intro y hy;rw [hx] at hy; cases hy; unfold EI; simp_all
  simp only [Go.Eng.intOf,cM]; omega
 have jw:¬ i<P.length:=by simpa using vK
 have gh:gA s=true:=by have ha:P.all EI=true:=WX fun j hj=>er j (by omega);unfold gA; rw [Gh,← hP,ha]; simp_all <;> omega
 simp only [ae,hz,iy,sl,go_sem];refine hK _ ?_
 first
  | (unfold pw oR; rw [r5]; rfl)
  | (unfold pw oR; rw [gh,Gh]; simp_all; done)
  | (unfold pw oR; rw [gh,Gh]; simp_all; rfl)
end
theorem kP (hG:a6.g=some 1) (s:ByteArray) (hs:s.size≤1048576):∃ r_,(fun w=>w=bl (gA s)) r_∧bG ab 79 [str s] r_:=by refine kc tt_ok [] 12 [.tmp 2] (fn:=Tryz.f79) Tryz.func79 rfl Tryz.call79 ⟨rfl,rfl,by simp⟩ fun K hK=>?_;simp only [go_sem];refine cF (NQ hG s hs) ?_;rintro _ rfl;simp only [go_sem];exact hK _ (congrArg bl (by unfold oR; by_cases h:gA s=true <;> simp [h]))
end
end Go.Proofs.YtnboooapeopjoaaGreatDoor
end

section
namespace Go.Proofs.YtnboooapeopjoaaGreatDoor
open Go.Eng
set_option maxHeartbeats 4000000
set_option maxRecDepth 100000

end Go.Proofs.YtnboooapeopjoaaGreatDoor
end

section
namespace Go.Proofs.YtnboooapeopjoaaGreatDoor
open Go.Eng
variable [a6]
open Nat renaming reduceAdd → zA, reduceLT → zB, reduceLeDiff → zC, reduceMul → zD, reduceEqDiff → zE, reduceSub → zF
set_option maxHeartbeats 4000000
set_option maxRecDepth 100000



def CF (s:ByteArray):Bool:=m4 s||decide (s.size=2)&&decide (kD s 0=35)&&decide (48≤kD s 1)&&decide (kD s 1≤55)
def gV (s:ByteArray):Bool:=decide (s=⟨#[]⟩)
def qM (s:ByteArray):Bool:=gV s||eP s||gA s
theorem j5 (s:ByteArray):∃ r_,(fun w=>w=bl (m4 s)) r_∧bG ab 125 [str s] r_:=by
 refine kc tt_ok [] 19 [.tmp 2] (fn:=Tryz.f125) Tryz.func125 rfl Tryz.call125 ⟨rfl,rfl,by simp⟩ fun K hK=>?_;have vb:ab.underlying 9=some .string:=by kernel_rfl
 have sl:∀ (a:ByteArray) (ty:TypeId),kZ ab (Builtin.len_ #[9] ty) [.sc (.string a)]=some (num a.size):=fun a ty=>l8 (P:=ab) (tt:=tt) (T:=9) a vb ty;simp only [sl,go_sem];refine bY (fun jH=>?_) (fun jH=>?_);·have h1:=CD rfl jH;obtain⟨NK,qL⟩:=jf (s:=s) (i:=(0:Int).toNat) (by omega);have ed:=mr (P:=ab) s vb .i64 (0) (by omega) (c:=NK) qL;have jT:kD s 0=NK.toNat:=j3 qL;simp only [ed,sl,go_sem];refine bY (fun so=>?_) (fun so=>?_);(·simp only [ed,sl,go_sem];refine cF (yW _) ?_;rintro _ rfl;simp only [ed,sl,go_sem];refine bY (fun y1=>?_) (fun y1=>?_);(·simp only [ed,sl,go_sem];refine cF (yY 170 AH Ja s (by have:=of_decide_eq_true so; omega)) ?_;rintro _ rfl;simp only [ed,sl,go_sem];exact hK _ (congrArg bl (by simp_all [m4] <;> (intros; omega))));simp only [ed,sl,go_sem];exact hK _ (congrArg bl (by simp_all [m4] <;> (intros; omega))));simp only [ed,sl,go_sem];exact hK _ (congrArg bl (by simp_all [m4] <;> (intros; omega)))
 have h1:=yU rfl jH;simp only [sl,go_sem];exact hK _ (congrArg bl (by simp_all [m4] <;> (intros; omega)))
theorem EL (s:ByteArray):∃ r_,(fun w=>w=bl (CF s)) r_∧bG ab 237 [str s] r_:=by
 refine kc tt_ok [] 25 [.tmp 2] (fn:=Tryz.f237) Tryz.func237 rfl Tryz.call237 ⟨rfl,rfl,by simp⟩ fun K hK=>?_;have vb:ab.underlying 9=some .string:=by kernel_rfl
 have sl:∀ (a:ByteArray) (ty:TypeId),kZ ab (Builtin.len_ #[9] ty) [.sc (.string a)]=some (num a.size):=fun a ty=>l8 (P:=ab) (tt:=tt) (T:=9) a vb ty;simp only [sl,go_sem];refine cF (j5 s) ?_;rintro _ rfl;simp only [sl,go_sem];refine bY (fun jH=>?_) (fun jH=>?_);·simp only [sl,go_sem];exact hK _ (congrArg bl (by simp_all [CF] <;> (intros; omega)))
 simp only [sl,go_sem];refine bY (fun yX=>?_) (fun yX=>?_);·(have hz2:s.size=2:=by have:=of_decide_eq_true yX; omega);obtain⟨NK,qL⟩:=jf (s:=s) (i:=(0:Int).toNat) (by omega);have ed:=mr (P:=ab) s vb .i64 (0) (by omega) (c:=NK) qL;obtain⟨cv1,Us⟩:=jf (s:=s) (i:=(1:Int).toNat) (by omega);have EM:=mr (P:=ab) s vb .i64 (1) (by omega) (c:=cv1) Us;have jT:kD s 0=NK.toNat:=j3 qL;have l6:kD s 1=cv1.toNat:=j3 Us;simp only [ed,EM,sl,go_sem];refine bY (fun y2=>?_) (fun y2=>?_);(·simp only [ed,EM,sl,go_sem];refine bY (fun Hp=>?_) (fun Hp=>?_);(·simp only [ed,EM,sl,go_sem];exact hK _ (congrArg bl (by simp_all [CF] <;> (intros; omega))));simp only [ed,EM,sl,go_sem];exact hK _ (congrArg bl (by simp_all [CF] <;> (intros; omega))));simp only [ed,EM,sl,go_sem];exact hK _ (congrArg bl (by simp_all [CF] <;> (intros; omega)))
 have hz2:s.size≠2:=by have:=of_decide_eq_false yX; omega
 simp only [sl,go_sem];exact hK _ (congrArg bl (by simp_all [CF] <;> (intros; omega)))
theorem rC (hG:a6.g=some 1) (s:ByteArray) (hs:s.size≤1048576):∃ r_,(fun w=>w=bl (qM s)) r_∧bG ab 187 [str s] r_:=by
 refine kc tt_ok [] 13 [.tmp 2] (fn:=Tryz.f187) Tryz.func187 rfl Tryz.call187 ⟨rfl,rfl,by simp⟩ fun K hK=>?_;simp only [dk,go_sem];refine bY (fun jH=>?_) (fun jH=>?_);·simp only [dk,go_sem];exact hK _ (congrArg bl (by simp_all [qM,gV]))
 simp only [dk,go_sem];refine cF (iC hG s) ?_;rintro _ rfl;simp only [dk,go_sem];refine bY (fun yX=>?_) (fun yX=>?_);·simp only [dk,go_sem];exact hK _ (congrArg bl (by simp_all [qM,gV]))
 simp only [dk,go_sem];refine cF (kP hG s hs) ?_;rintro _ rfl;simp only [dk,go_sem];exact hK _ (congrArg bl (by simp_all [qM,gV]))
mutual
inductive Ty where
 | mk (kind:Int) (mod name:ByteArray) (args:List Ty) (bd:List Fd)
inductive Fd where
 | mk (name:ByteArray) (ty:Ty) (opt:Bool)
end
structure Lb where
 name:ByteArray
 var:ByteArray
 ty:Ty
 opt:Bool
inductive Ex where
 | mk (kind:Int) (mod name text:ByteArray) (num:Int) (types:List Ty) (labels:List Lb) (kids:List Ex)
structure Pm where
 name:ByteArray
 ef:Int
 bound:Ty
structure Im where
 path:ByteArray
 alias:ByteArray
structure Dc where
 kind:Int
 name:ByteArray
 exported:Bool
 deprecated:Bool
 note:ByteArray
 params:List Pm
 lower:Ty
 upper:Ty
 type:Ty
 expr:Ex
 mod:ByteArray
 target:ByteArray
structure Md where
 path:ByteArray
 imports:List Im
 decls:List Dc

mutual
def cf:Ty→V
 | .mk k m n ts fs=>.agg [.sc (.int .i64 k),.sc (.string m),.sc (.string n),.slice (aQ ts),.slice (bV fs)]
def aQ:List Ty→List V
 | []=>[]
 | t :: r=>cf t :: aQ r
def lE:Fd→V
 | .mk n (.mk k m n' ts fs) o=>.agg [.sc (.string n),.sc (.int .i64 k),.sc (.string m),.sc (.string n'),.slice (aQ ts),.slice (bV fs),.sc (.bool o)]
def bV:List Fd→List V
 | []=>[]
 | f :: r=>lE f :: bV r
end
def Fd.ty:Fd→Ty | .mk _ t _=>t
def Fd.name:Fd→ByteArray | .mk n _ _=>n
def Fd.opt:Fd→Bool | .mk _ _ o=>o
def Ty.bd:Ty→List Fd | .mk _ _ _ _ fs=>fs
def Ty.args:Ty→List Ty | .mk _ _ _ ts _=>ts
def Ty.kind:Ty→Int | .mk k _ _ _ _=>k
def Ty.mod:Ty→ByteArray | .mk _ m _ _ _=>m
def Ty.name:Ty→ByteArray | .mk _ _ n _ _=>n
def Ty.parts (t:Ty):List Ty:=t.args++t.bd.map Fd.ty
def ai (t:Ty):List V:=[.sc (.int .i64 t.kind),.sc (.string t.mod),.sc (.string t.name),.slice (aQ t.args),.slice (bV t.bd)]
theorem aG (t:Ty):cf t = .agg (ai t):=by obtain⟨k,m,n,ts,fs⟩:=t; rfl
theorem cV (ts:List Ty):aQ ts=ts.map cf:=by induction ts with | nil=>rfl | cons t r ih=>simp [aQ,ih]
theorem hY (ts:List Fd):bV ts=ts.map lE:=by induction ts with | nil=>rfl | cons t r ih=>simp [bV,ih]
theorem bN (f:Fd):lE f = .agg ([str f.name]++ai f.ty++[bl f.opt]):=by obtain⟨n',⟨k,m,n,ts,fs⟩,o⟩:=f; rfl
def bO (l:Lb):V:=.agg ([str l.name,str l.var]++ai l.ty++[bl l.opt])
mutual
def cx:Ex→V
 | .mk k m n t i ts ls ks=>.agg [.sc (.int .i64 k),.sc (.string m),.sc (.string n),.sc (.string t),.sc (.int .i64 i),.slice (aQ ts),.slice (ls.map bO),.slice (cr ks)]
def cr:List Ex→List V
 | []=>[]
 | e :: r=>cx e :: cr r
end
def Ex.kind:Ex→Int | .mk k _ _ _ _ _ _ _=>k
def Ex.mod:Ex→ByteArray | .mk _ m _ _ _ _ _ _=>m
def Ex.name:Ex→ByteArray | .mk _ _ n _ _ _ _ _=>n
def Ex.text:Ex→ByteArray | .mk _ _ _ t _ _ _ _=>t
def Ex.num:Ex→Int | .mk _ _ _ _ i _ _ _=>i
def Ex.types:Ex→List Ty | .mk _ _ _ _ _ ts _ _=>ts
def Ex.labels:Ex→List Lb | .mk _ _ _ _ _ _ ls _=>ls
def Ex.kids:Ex→List Ex | .mk _ _ _ _ _ _ _ ks=>ks
theorem jJ (ts:List Ex):cr ts=ts.map cx:=by induction ts with | nil=>rfl | cons t r ih=>simp [cr,ih]
def aC (e:Ex):List V:=[.sc (.int .i64 e.kind),.sc (.string e.mod),.sc (.string e.name),.sc (.string e.text),.sc (.int .i64 e.num),.slice (aQ e.types),.slice (e.labels.map bO),.slice (cr e.kids)]
theorem a8 (e:Ex):cx e = .agg (aC e):=by obtain⟨k,m,n,t,i,ts,ls,ks⟩:=e; rfl
def cX (p:Pm):V:=.agg ([str p.name,num p.ef]++ai p.bound)
def bQ (i:Im):V:=.agg [str i.path,str i.alias]
def aL (d:Dc):V:=.agg ([num d.kind,str d.name,bl d.exported,bl d.deprecated,str d.note,.slice (d.params.map cX)]++ai d.lower++ai d.upper++ai d.type++aC d.expr++[str d.mod,str d.target])
def gN (m:Md):V:=.agg [str m.path,.slice (m.imports.map bQ),.slice (m.decls.map aL)]
theorem Ks (t:Ty):(cf t).cells.length=5:=by rw [aG]; rfl
theorem Kt (t:Fd):(lE t).cells.length=7:=by rw [bN]; rfl
theorem Ku (e:Ex):(cx e).cells.length=8:=by rw [a8]; rfl
theorem kl (ts:List Ty) (n:Nat):dx (aQ ts) n 5=true:=by
 rw [cV]; unfold dx; split;·rename_i h; simp at h; obtain⟨t,-,rfl⟩:=h; simp [Ks]
 rfl
theorem aq (ts:List Ty):(aQ ts).length=ts.length:=by simp [cV]
theorem aJ (ts:List Fd):(bV ts).length=ts.length:=by simp [hY]
theorem aA (ts:List Ex):(cr ts).length=ts.length:=by simp [jJ]
theorem b8 (ts:List Ty) (i:Nat):(aQ ts)[i]?=ts[i]?.map cf:=by simp [cV]
theorem bI (ts:List Fd) (i:Nat):(bV ts)[i]?=ts[i]?.map lE:=by simp [hY]
theorem dn (ts:List Ex) (i:Nat):(cr ts)[i]?=ts[i]?.map cx:=by simp [jJ]

mutual
def Ty.size:Ty→Nat
 | .mk _ _ _ ts fs=>1+rD ts+rE fs
def rD:List Ty→Nat
 | []=>0
 | t :: r=>t.size+rD r
def Fd.size:Fd→Nat
 | .mk _ (.mk _ _ _ ts fs) _=>1+rD ts+rE fs
def rE:List Fd→Nat
 | []=>0
 | f :: r=>f.size+rE r
end
theorem Fd.R6 (f:Fd):f.size=f.ty.size:=by obtain⟨n',⟨k,m,n,ts,fs⟩,o⟩:=f; rfl
theorem EN (ts:List Ty):rD ts=aZ Ty.size ts:=by induction ts with | nil=>rfl | cons t r ih=>simp [rD,aZ,ih]
theorem EO (ts:List Fd):rE ts=aZ (fun f=>f.ty.size) ts:=by induction ts with | nil=>rfl | cons t r ih=>simp [rE,aZ,ih,Fd.R6]
theorem Ty.de (t:Ty):t.size=1+aZ Ty.size t.parts:=by obtain⟨k,m,n,ts,fs⟩:=t;simp only [Ty.size,Ty.parts,Ty.args,Ty.bd,j2,ez,EN,EO]; omega
theorem Ty.size_pos (t:Ty):0<t.size:=by rw [Ty.de]; omega
theorem Ty.fG (t:Ty):t.args.length+t.bd.length<t.size:=by have:=ca Ty.size Ty.size_pos t.parts;rw [Ty.de];simp only [Ty.parts,ch,ag] at this;simp only [Ty.parts]; omega

theorem EP (t:Ty) (hl:t.args.length+t.bd.length≤34359738368):bG ab 75 [cf t] (.slice (aQ t.parts)):=by
 obtain⟨k,m,n,ts,fs⟩:=t;simp only [Ty.args,Ty.bd] at hl;have Gz:ts.length≤34359738368:=by omega
 refine je tt_ok (fn:=Tryz.f75) Tryz.func75 rfl Tryz.call75 ?_;simp only [dO,cn,Tryz.ntmps75,aD,aM,zA,zF,aE,aF];refine af tt_ok fun K hK=>?_;simp only [cf,go_sem];refine hK _ ?_;refine af tt_ok fun K hK=>?_;simp only [kl,aq,Gz,go_sem];refine hK _ ?_;refine bj ?_;refine af tt_ok fun K hK=>?_;simp only [go_sem];refine hK _ ?_;refine bP (cR (fun N st=>∃ (i dw:Nat) (acc:List Ty),N=fs.length-i∧i≤fs.length∧acc=ts++(fs.take i).map Fd.ty ∧ st = { fr:=[cf (.mk k m n ts fs),.ptr 0 0,.undef,.ms 1 dw 0 acc.length,.sc (.int .i64 i)]++List.replicate 21 .undef,mem:=[.box (cf (.mk k m n ts fs)).cells,.rows dw 5 (aQ acc)] }) fs.length ?_ ?_);·exact⟨2,[true,true,false,true,true],by omega,by simp only [bp,aH,aO,aI,zB,ix],by simp only [bp,aH,aO,aI,zB,ix],0,1,ts,by omega,by omega,by simp,rfl⟩
 rintro N st ⟨i,dw,acc,rfl,hi,mL,rfl⟩;have QS:acc.length≤34359738367∨i=fs.length:=by rw [mL]; simp; omega
 simp only [dO,aE,aF,cf,V.cells];refine bj ?_;by_cases bX:i<fs.length;·have hd:=gX bX;(have Ht:acc.length≤34359738367:=by omega);refine af tt_ok fun K hK=>?_;simp only [aJ,hd,go_sem];refine hK _ ?_;refine aU rfl (bZ ?_);refine bj (bP ?_);obtain⟨f,hf⟩:∃ f,fs[i]?=some f:=⟨_,ah bX⟩;(have wX:(fs.take (i+1)).map Fd.ty=(fs.take i).map Fd.ty++[f.ty]:=by rw [bC,hf]; simp);obtain⟨fnm,⟨fk,fm,fn,fts,ffs⟩,fo⟩:=f;refine aV tt_ok fun K hK=>?_;simp only [bI,hf,lE,aq,Ht,go_sem];refine hK _ ?_;refine aV tt_ok fun K hK=>?_;simp only [go_sem];refine hK _ ?_;refine⟨fs.length-(i+1),by omega,2,[true,true,false,true,true],by omega,by simp only [bp,aH,aO,aI,zB,ix],by simp only [bp,aH,aO,aI,zB,ix],i+1,dw+1,acc++[.mk fk fm fn fts ffs],rfl,bX,by rw [mL,wX]; simp [Fd.ty],?_⟩;have hw:IntKind.i64.wrap ((i:Int)+1)=((i+1:Nat):Int):=bB i (by omega);rw [hw];simp [rp,bp,cV,cf]
 have hd:=gY bX;refine af tt_ok fun K hK=>?_;simp only [aJ,hd,go_sem];refine hK _ ?_;refine aU rfl (dZ ?_);have gB:i=fs.length:=by omega
 subst gB;show dN _ _ _ _ _ _;refine af tt_ok fun K hK=>?_;simp only [go_sem];refine hK _ ?_;refine bK ⟨.inl rfl,?_⟩;rw [au] at mL;have hr:aQ (Ty.mk k m n ts fs).parts=aQ acc:=by rw [mL]; rfl
 rw [hr];simp [pV,mZ,oe,Tryz.f75,DR,gu,dg,aq];rw [← aq]; simp

theorem qN:∀ (N:Nat) (t:Ty),t.size≤N→N≤1048576→bG ab 28 [cf t] (num t.size):=by intro N;induction N with | zero=>intro t h; have:=t.size_pos; omega | succ N ih =>intro t hN hb;have Ap:=t.fG;have tp:=t.de;have NT:=ca Ty.size Ty.size_pos t.parts;have hp:=EP t (by omega);refine je tt_ok (fn:=Tryz.f28) Tryz.func28 rfl Tryz.call28 ?_;simp only [dO,cn,Tryz.ntmps28,aD,aM,zA,zF,aE,aF];rw [aG] at hp ⊢;simp only [ai] at hp ⊢;refine af tt_ok fun K hK=>?_;simp only [go_sem];refine hK _ ?_;refine af tt_ok fun K hK=>?_;simp only [go_sem];refine hK _ ?_;refine af tt_ok fun K hK=>?_;simp only [go_sem];refine .inl ⟨_,_,by simp only [go_sem,au],hp,?_⟩;(try simp only [go_sem]);refine hK _ ?_;refine bj ?_;refine af tt_ok fun K hK=>?_;simp only [go_sem];refine hK _ ?_;obtain⟨ps,y3⟩:∃ ps,ps=t.parts:=⟨_,rfl⟩;rw [← y3] at tp NT ⊢;refine bP (cR (fun N st=>∃ (i:Nat),N=ps.length-i∧i≤ps.length ∧ st = { fr:=[.undef,.undef,.undef,num ((1+aZ Ty.size (ps.take i):Nat)),.slice (aQ ps),num i]++List.replicate 16 .undef,mem:=[] }) ps.length ?_ ?_);(·exact⟨0,[false,false,false,true,true,true],by omega,by simp only [bp,aH,aO,aI,zB,ix],by simp only [bp,aH,aO,aI,zB,ix],0,by omega,by omega,rfl⟩);rintro N st ⟨i,rfl,hi,rfl⟩;simp only [dO,aE,aF];refine bj ?_;by_cases bX:i<ps.length;(·have hd:=gX bX;refine af tt_ok fun K hK=>?_;simp only [aq,hd,go_sem];refine hK _ ?_;refine aU rfl (bZ ?_);refine bj (bP ?_);obtain⟨u,hu⟩:∃ u,ps[i]?=some u:=⟨_,ah bX⟩;have WZ:=cb Ty.size hu;have AX:=fc Ty.size hu;have LH:=gj Ty.size ps (i+1);have fK:=ih u (by omega) (by omega);rw [aG] at fK;simp only [ai] at fK;refine aV tt_ok fun K hK=>?_;simp only [b8,hu,aG,ai,go_sem];refine .inl ⟨_,_,by simp only [go_sem,au],fK,?_⟩;(try simp only [go_sem]);refine hK _ ?_;(have hw:IntKind.i64.wrap (((1+aZ Ty.size (ps.take i):Nat):Int)+(u.size:Int))=((1+aZ Ty.size (ps.take (i+1)):Nat):Int):=by rw [n4 _ _ (by omega)]; congr 1; omega);rw [hw];refine aV tt_ok fun K hK=>?_;simp only [go_sem];refine hK _ ?_;have kK:=bB i (by omega);rw [kK];exact⟨ps.length-(i+1),by omega,0,[false,false,false,true,true,true],by omega,by simp only [bp,aH,aO,aI,zB,ix],by simp only [bp,aH,aO,aI,zB,ix],i+1,rfl,bX,by simp [rp,bp]⟩);have hd:=gY bX;refine af tt_ok fun K hK=>?_;simp only [aq,hd,go_sem];refine hK _ ?_;refine aU rfl (dZ ?_);(have gB:i=ps.length:=by omega);subst gB;show dN _ _ _ _ _ _;refine af tt_ok fun K hK=>?_;simp only [go_sem];refine hK _ ?_;refine bK ⟨.inl rfl,?_⟩;(try rw [au]);rw [← tp];simp [pV,mZ,oe,Tryz.f28,DR,gu,dg,jX]

theorem jK (rows:List V) (h1:dx rows 0 5=true) (hl:rows.length≤34359738368):bk ab 53 [.slice rows] [] (.ms 0 1 0 rows.length) [.rows 1 5 rows]:=by refine jD tt_ok (fn:=Tryz.f53) 1 (by simp) Tryz.func53 rfl Tryz.call53 ?_;simp only [dO,cn,Tryz.ntmps53,aD,aM,zA,zF,aE,aF];refine af tt_ok fun K hK=>?_;simp only [go_sem];refine hK _ ?_;refine bj ?_;refine af tt_ok fun K hK=>?_;simp only [go_sem];intro b hb;refine hK _ ?_;cases b with | true =>((have h0:rows=[]:=by cases rows with | nil=>rfl | cons a r=>have:=hb (by simp); cases this);subst h0;refine aU rfl ?_;refine af tt_ok fun K hK=>?_;simp only [go_sem];refine hK _ ?_;refine lO 2 1 5 rfl ?_;exact bK ⟨.inl rfl,rfl,rfl,rfl,rfl⟩) | false =>refine aU rfl (bZ ?_);show dN _ _ _ _ _ _;refine af tt_ok fun K hK=>?_;simp only [h1,hl,go_sem];refine hK _ ?_;refine bK ⟨.inl rfl,?_⟩;simp [ka,mZ,oe,Tryz.f53,aH,aI,aO]

theorem vL (t:Ty) (hl:t.args.length+t.bd.length≤34359738368):bG ab 233 [cf t] (.slice (aQ t.parts)):=by
 obtain⟨k,m,n,ts,fs⟩:=t;simp only [Ty.args,Ty.bd] at hl;have Gz:ts.length≤34359738368:=by omega
 refine je tt_ok (fn:=Tryz.f233) Tryz.func233 rfl Tryz.call233 ?_;simp only [dO,cn,Tryz.ntmps233,aD,aM,zA,zF,aE,aF];refine af tt_ok fun K hK=>?_;simp only [cf,go_sem];refine hK _ ?_;refine af tt_ok fun K hK=>?_;simp only [cf,go_sem];refine .inr <| .inl ⟨_,_,bk.live (by simp only [cf,aq,go_sem,au]) (jK (aQ ts) (kl ts 0) (by rw [aq]; exact Gz)) rfl _,?_⟩
 try simp only [cf,aq,go_sem]
 refine hK _ ?_;refine bj ?_;refine af tt_ok fun K hK=>?_;simp only [aJ,go_sem];refine hK _ ?_;refine bP (cR (fun N st=>∃ (i dw:Nat) (acc:List Ty),N=fs.length-i∧i≤fs.length∧acc=ts++(fs.take i).map Fd.ty ∧ st = { fr:=[.undef,.ptr 0 0,.undef,.ms 1 dw 0 acc.length,.undef,.undef,.undef,.undef,.undef,.undef,.slice (bV fs),num fs.length,num i]++List.replicate 10 .undef,mem:=[.box (cf (.mk k m n ts fs)).cells,.rows dw 5 (aQ acc)] }) fs.length ?_ ?_);·exact⟨2,[false,true,false,true,false,false,false,false,false,false,true,true,true],by omega,by simp only [bp,aH,aO,aI,zB,ix],by simp only [bp,aH,aO,aI,zB,ix],0,1,ts,by omega,by omega,by simp,rfl⟩
 rintro N st ⟨i,dw,acc,rfl,hi,mL,rfl⟩;have QS:acc.length≤34359738367∨i=fs.length:=by rw [mL]; simp; omega
 simp only [dO,aE,aF,cf,V.cells];by_cases bX:i<fs.length;·have hd:=gX bX;(have Ht:acc.length≤34359738367:=by omega);refine af tt_ok fun K hK=>?_;simp only [aJ,hd,go_sem];refine hK _ ?_;refine bj (aU rfl (bZ ?_));refine bj (bP ?_);obtain⟨f,hf⟩:∃ f,fs[i]?=some f:=⟨_,ah bX⟩;(have wX:(fs.take (i+1)).map Fd.ty=(fs.take i).map Fd.ty++[f.ty]:=by rw [bC,hf]; simp);obtain⟨fnm,⟨fk,fm,fn,fts,ffs⟩,fo⟩:=f;refine af tt_ok fun K hK=>?_;simp only [bI,hf,lE,go_sem];refine hK _ ?_;refine aV tt_ok fun K hK=>?_;simp only [aq,Ht,go_sem];refine hK _ ?_;refine aV tt_ok fun K hK=>?_;simp only [go_sem];refine hK _ ?_;have hw:=bB i (by omega);rw [hw];refine⟨fs.length-(i+1),by omega,2,[false,true,false,true,false,false,false,false,false,false,true,true,true],by omega,by simp only [bp,aH,aO,aI,zB,ix],by simp only [bp,aH,aO,aI,zB,ix],i+1,dw+1,acc++[.mk fk fm fn fts ffs],rfl,bX,by rw [mL,wX]; simp [Fd.ty],?_⟩;simp [rp,bp,cV,cf]
 have hd:=gY bX;refine af tt_ok fun K hK=>?_;simp only [aJ,hd,go_sem];refine hK _ ?_;refine bj (aU rfl (dZ ?_));have gB:i=fs.length:=by omega
 subst gB;show dN _ _ _ _ _ _;refine af tt_ok fun K hK=>?_;simp only [go_sem];refine hK _ ?_;refine bK ⟨.inl rfl,?_⟩;rw [au] at mL;have hr:aQ (Ty.mk k m n ts fs).parts=aQ acc:=by rw [mL]; rfl
 rw [hr];simp [pV,mZ,oe,Tryz.f233,DR,gu,dg,aq];rw [← aq]; simp
mutual
def Ty.depth:Ty→Nat
 | .mk _ _ _ ts fs=>1+max (qO ts) (qP fs)
def qO:List Ty→Nat
 | []=>0
 | t :: r=>max t.depth (qO r)
def Fd.depth:Fd→Nat
 | .mk _ (.mk _ _ _ ts fs) _=>1+max (qO ts) (qP fs)
def qP:List Fd→Nat
 | []=>0
 | f :: r=>max f.depth (qP r)
end
theorem Fd.NU (f:Fd):f.depth=f.ty.depth:=by obtain⟨n',⟨k,m,n,ts,fs⟩,o⟩:=f; rfl
def fS {α:Type} (g:α→Nat):List α→Nat
 | []=>0
 | a :: r=>max (g a) (fS g r)
theorem uu {α:Type} (g:α→Nat) (a b:List α):fS g (a++b)=max (fS g a) (fS g b):=by induction a with | nil=>simp [fS] | cons x r ih=>simp [fS,ih,Nat.max_assoc]
theorem vM {α β:Type} (g:β→Nat) (h:α→β) (a:List α):fS g (a.map h)=fS (fun x=>g (h x)) a:=by induction a with | nil=>rfl | cons x r ih=>simp [fS,ih]
theorem CG (ts:List Ty):qO ts=fS Ty.depth ts:=by induction ts with | nil=>rfl | cons t r ih=>simp [qO,fS,ih]
theorem CH (ts:List Fd):qP ts=fS (fun f=>f.ty.depth) ts:=by induction ts with | nil=>rfl | cons t r ih=>simp [qP,fS,ih,Fd.NU]
theorem Ty.my (t:Ty):t.depth=1+fS Ty.depth t.parts:=by obtain⟨k,m,n,ts,fs⟩:=t;simp only [Ty.depth,Ty.parts,Ty.args,Ty.bd,uu,vM,CG,CH]
theorem mM {α:Type} (g:α→Nat) {l:List α} {i:Nat} {a:α} (h:l[i]?=some a):fS g (l.take (i+1))=max (fS g (l.take i)) (g a):=by rw [bC,h,uu]; simp [fS]
theorem y4 {α:Type} (g:α→Nat) {B:Nat}:∀ {l:List α},(∀ (i:Nat) (a:α),l[i]?=some a→g a≤B)→fS g l≤B
 | [],_=>by simp [fS]
 | a :: r,h=>by
  have h1:=h 0 a rfl
  have h2:=y4 g (l:=r) (B:=B) fun i b hb=>h (i+1) b (by simpa using hb)
  simp only [fS]; omega
theorem Ty.sr:∀ (N:Nat) (t:Ty),t.size≤N→t.depth≤t.size:=by intro N;induction N with | zero=>intro t h; have:=t.size_pos; omega | succ N ih =>intro t hN;rw [Ty.my,Ty.de];have h1:=t.de;(have:=y4 Ty.depth (l:=t.parts) (B:=aZ Ty.size t.parts) fun i a ha=>by have:=cb Ty.size ha;have:=ih a (by omega);omega);omega
theorem CI (a b:Nat):(if ((a:Int)<(b:Int)) then ((b:Nat):Int) else (a:Int))=((max a b:Nat):Int):=by split <;> omega

theorem YS:∀ (N:Nat) (t:Ty),t.size≤N→N≤1048576→bG ab 205 [cf t] (num t.depth):=by intro N;induction N with | zero=>intro t h; have:=t.size_pos; omega | succ N ih =>intro t hN hb;have Ap:=t.fG;have tp:=t.de;have hds:=Ty.sr _ t (aw _);have hdp:=t.my;have NT:=ca Ty.size Ty.size_pos t.parts;have hp:=EP t (by omega);refine je tt_ok (fn:=Tryz.f205) Tryz.func205 rfl Tryz.call205 ?_;simp only [dO,cn,Tryz.ntmps205,aD,aM,zA,zF,aE,aF];rw [aG] at hp ⊢;simp only [ai] at hp ⊢;refine af tt_ok fun K hK=>?_;simp only [go_sem];refine hK _ ?_;refine af tt_ok fun K hK=>?_;simp only [go_sem];refine hK _ ?_;refine af tt_ok fun K hK=>?_;simp only [go_sem];refine .inl ⟨_,_,by simp only [go_sem,au],hp,?_⟩;(try simp only [go_sem]);refine hK _ ?_;refine bj ?_;refine af tt_ok fun K hK=>?_;simp only [go_sem];refine hK _ ?_;obtain⟨ps,y3⟩:∃ ps,ps=t.parts:=⟨_,rfl⟩;rw [← y3] at tp NT hdp ⊢;refine bP (cR (fun N st=>∃ (i:Nat),N=ps.length-i∧i≤ps.length ∧ st = { fr:=[.undef,.undef,.undef,num ((fS Ty.depth (ps.take i):Nat)),.slice (aQ ps),num i]++List.replicate 17 .undef,mem:=[] }) ps.length ?_ ?_);(·exact⟨0,[false,false,false,true,true,true],by omega,by simp only [bp,aH,aO,aI,zB,ix],by simp only [bp,aH,aO,aI,zB,ix],0,by omega,by omega,rfl⟩);rintro N st ⟨i,rfl,hi,rfl⟩;simp only [dO,aE,aF];refine bj ?_;by_cases bX:i<ps.length;(·have hd:=gX bX;refine af tt_ok fun K hK=>?_;simp only [aq,hd,go_sem];refine hK _ ?_;refine aU rfl (bZ ?_);refine bj (bP ?_);obtain⟨u,hu⟩:∃ u,ps[i]?=some u:=⟨_,ah bX⟩;have WZ:=cb Ty.size hu;have AX:=mM Ty.depth hu;have fK:=ih u (by omega) (by omega);rw [aG] at fK;simp only [ai] at fK;refine aV tt_ok fun K hK=>?_;simp only [b8,hu,aG,ai,go_sem];refine .inl ⟨_,_,by simp only [go_sem,au],fK,?_⟩;(try simp only [go_sem]);refine hK _ ?_;rw [CI,← AX];refine aV tt_ok fun K hK=>?_;simp only [go_sem];refine hK _ ?_;have kK:=bB i (by omega);rw [kK];exact⟨ps.length-(i+1),by omega,0,[false,false,false,true,true,true],by omega,by simp only [bp,aH,aO,aI,zB,ix],by simp only [bp,aH,aO,aI,zB,ix],i+1,rfl,bX,by simp [rp,bp]⟩);have hd:=gY bX;refine af tt_ok fun K hK=>?_;simp only [aq,hd,go_sem];refine hK _ ?_;refine aU rfl (dZ ?_);(have gB:i=ps.length:=by omega);subst gB;show dN _ _ _ _ _ _;refine af tt_ok fun K hK=>?_;simp only [go_sem];refine hK _ ?_;refine bK ⟨.inl rfl,?_⟩;(try rw [au]);rw [bB _ (by omega)];(have mz:fS Ty.depth ps+1=t.depth:=by omega);rw [mz];simp [pV,mZ,oe,Tryz.f205,DR,gu,dg,jX]

theorem Hu:∀ (N:Nat) (t:Ty),t.size≤N→N≤1048576→bG ab 188 [cf t] (num t.depth):=by intro N;induction N with | zero=>intro t h; have:=t.size_pos; omega | succ N ih =>intro t hN hb;have Ap:=t.fG;have tp:=t.de;have hds:=Ty.sr _ t (aw _);have hdp:=t.my;have NT:=ca Ty.size Ty.size_pos t.parts;have hp:=vL t (by omega);refine je tt_ok (fn:=Tryz.f188) Tryz.func188 rfl Tryz.call188 ?_;simp only [dO,cn,Tryz.ntmps188,aD,aM,zA,zF,aE,aF];rw [aG] at hp ⊢;simp only [ai] at hp ⊢;refine af tt_ok fun K hK=>?_;simp only [go_sem];refine hK _ ?_;refine af tt_ok fun K hK=>?_;simp only [go_sem];refine hK _ ?_;refine bj ?_;refine af tt_ok fun K hK=>?_;simp only [go_sem];refine .inl ⟨_,_,by simp only [aq,go_sem,au],hp,?_⟩;(try simp only [aq,go_sem]);refine hK _ ?_;obtain⟨ps,y3⟩:∃ ps,ps=t.parts:=⟨_,rfl⟩;rw [← y3] at tp NT hdp ⊢;refine bP (cR (fun N st=>∃ (i:Nat),N=ps.length-i∧i≤ps.length ∧ st = { fr:=[.undef,.undef,.undef,num ((fS Ty.depth (ps.take i):Nat)),.undef,.undef,.undef,.slice (aQ ps),num ps.length,num i]++List.replicate 10 .undef,mem:=[] }) ps.length ?_ ?_);(·exact⟨0,[false,false,false,true,false,false,false,true,true,true],by omega,by simp only [bp,aH,aO,aI,zB,ix],by simp only [bp,aH,aO,aI,zB,ix],0,by omega,by omega,rfl⟩);rintro N st ⟨i,rfl,hi,rfl⟩;simp only [dO,aE,aF];by_cases bX:i<ps.length;(·have hd:=gX bX;refine af tt_ok fun K hK=>?_;simp only [aq,hd,go_sem];refine hK _ ?_;refine bj (aU rfl (bZ ?_));refine bj (bP ?_);obtain⟨u,hu⟩:∃ u,ps[i]?=some u:=⟨_,ah bX⟩;have WZ:=cb Ty.size hu;have AX:=mM Ty.depth hu;have fK:=ih u (by omega) (by omega);rw [aG] at fK;simp only [ai] at fK;refine af tt_ok fun K hK=>?_;simp only [b8,hu,aG,ai,go_sem];refine hK _ ?_;refine aV tt_ok fun K hK=>?_;simp only [go_sem];refine .inl ⟨_,_,by simp only [go_sem,au],fK,?_⟩;(try simp only [go_sem]);refine hK _ ?_;rw [CI,← AX];refine aV tt_ok fun K hK=>?_;simp only [go_sem];refine hK _ ?_;have kK:=bB i (by omega);rw [kK];exact⟨ps.length-(i+1),by omega,0,[false,false,false,true,false,false,false,true,true,true],by omega,by simp only [bp,aH,aO,aI,zB,ix],by simp only [bp,aH,aO,aI,zB,ix],i+1,rfl,bX,by simp [rp,bp]⟩);have hd:=gY bX;refine af tt_ok fun K hK=>?_;simp only [aq,hd,go_sem];refine hK _ ?_;refine bj (aU rfl (dZ ?_));(have gB:i=ps.length:=by omega);subst gB;show dN _ _ _ _ _ _;refine af tt_ok fun K hK=>?_;simp only [go_sem];refine hK _ ?_;refine bK ⟨.inl rfl,?_⟩;(try rw [au]);rw [bB _ (by omega)];(have mz:fS Ty.depth ps+1=t.depth:=by omega);rw [mz];simp [pV,mZ,oe,Tryz.f188,DR,gu,dg,jX]
section
mutual
def Ty.nodes:Ty→List Ty
 | .mk k m n ts fs=>.mk k m n ts fs :: (qQ ts++qR fs)
def qQ:List Ty→List Ty
 | []=>[]
 | t :: r=>t.nodes++qQ r
def Fd.nodes:Fd→List Ty
 | .mk _ (.mk k m n ts fs) _=>.mk k m n ts fs :: (qQ ts++qR fs)
def qR:List Fd→List Ty
 | []=>[]
 | f :: r=>f.nodes++qR r
end
theorem Fd.NV (f:Fd):f.nodes=f.ty.nodes:=by obtain⟨n',⟨k,m,n,ts,fs⟩,o⟩:=f; rfl
theorem ER (ts:List Ty):qQ ts=ts.flatMap Ty.nodes:=by induction ts with | nil=>rfl | cons t r ih=>simp [qQ,ih]
theorem ES (ts:List Fd):qR ts=(ts.map Fd.ty).flatMap Ty.nodes:=by induction ts with | nil=>rfl | cons t r ih=>simp [qR,ih,Fd.NV]
theorem Ty.dD (t:Ty):t.nodes=t :: t.parts.flatMap Ty.nodes:=by obtain⟨k,m,n,ts,fs⟩:=t;simp only [Ty.nodes,Ty.parts,Ty.args,Ty.bd,ER,ES,am8]
theorem Ty.uv:∀ (N:Nat) (t:Ty),t.size≤N→t.nodes.length=t.size:=by intro N;induction N with | zero=>intro t h; have:=t.size_pos; omega | succ N ih =>intro t hN;have h1:=t.de;(have gen:∀ (l:List Ty),aZ Ty.size l≤N→(l.flatMap Ty.nodes).length=aZ Ty.size l:=by intro l;induction l with | nil=>intro _; rfl | cons a r R7 =>intro hl;simp only [aZ] at hl ⊢;rw [gq,ch,ih a (by omega),R7 (by omega)]);rw [Ty.dD,aD,gen _ (by omega)]; omega

section
variable {σ α:Type}
def dd (step:σ→α→σ×Bool):σ→List α→σ×Bool
 | s,[]=>(s,true)
 | s,u :: r=>if (step s u).2=true then dd step (step s u).1 r else ((step s u).1,false)
theorem iW (step:σ→α→σ×Bool):∀ (a:List α) (s:σ) (b:List α),dd step s (a++b)=if (dd step s a).2=true then dd step (dd step s a).1 b else ((dd step s a).1,false)
 | [],s,b=>by simp [dd]
 | u :: r,s,b=>by
  simp only [aj,dd]
  split
  ·exact iW step r _ b
  simp
theorem pA (step:σ→α→σ×Bool) {G:σ→Prop} (hG:∀ s u,G s→(step s u).2=true→G (step s u).1):∀ (l:List α) (s:σ),G s→(dd step s l).2=true→G (dd step s l).1
 | [],s,h,_=>h
 | u :: r,s,h,hs=>by
  simp only [dd] at hs ⊢
  split at hs
  ·rename_i hu; rw [if_pos hu]; exact pA step hG r _ (hG s u h hu) hs
  cases hs
end

section
variable {σ:Type} {M:σ→List ba} {n k k1 k2:Nat}
theorem R8 (hn:∀ s,(M s).length=n) (hk:k<n) (ji:k1<n) (l9:k2<n) (h1:∀ s,(M s)[k1]?=some (.box [.jz k])) (h2:∀ s,(M s)[k2]?=some (.box [.cC (.func 235) [] [.ptr k1 0,.ptr k2 0]])) (hb:∀ s,(M s).all (aI n)=true)
  (step:σ→Ty→σ×Bool) (G:σ→Prop) (hG:∀ s u,G s→(step s u).2=true→G (step s u).1) {B:Nat} (hB:B≤1048576) (hy:∀ s u,G s→u.size≤B→Ge ab k [cf u] (M s) (step s u).2 (M (step s u).1)) :
  ∀ (N:Nat) (t:Ty) (s:σ),G s→t.size≤N→N≤B→bk ab 235 [cf t,.ptr k1 0,.ptr k2 0] (M s) (bl (dd step s t.nodes).2) (M (dd step s t.nodes).1):=by
 have g0:∀ s (l:List ba),(M s++l)[n]?=l[0]?:=fun s l=>by rw [aW (by rw [hn]; exact aw _),hn,c5]
 have g1:∀ s (l:List ba),(M s++l)[n+1]?=l[1]?:=fun s l=>by rw [aW (by rw [hn]; omega),hn,dM]
 have Ut:∀ s (l:List ba),(M s++l)[k1]?=some (.box [.jz k]):=fun s l=>by rw [bm (by rw [hn]; exact ji)]; exact h1 s
 have gk2:∀ s (l:List ba),(M s++l)[k2]?=some (.box [.cC (.func 235) [] [.ptr k1 0,.ptr k2 0]]):=fun s l=>by rw [bm (by rw [hn]; exact l9)]; exact h2 s
 have gs:∀ s (l:List ba) X,(M s++l).set n X=M s++l.set 0 X:=fun s l X=>by rw [ep _ _ (by rw [hn]; exact aw _),hn,c5]
 have gt:∀ s (l:List ba),(M s++l).take n=M s:=fun s l=>by rw [← hn s,pJ]
 have Uu:∀ s,(M s).take n=M s:=fun s=>by rw [bE (by rw [hn]; exact aw _)]
 have fy:∀ s u (l:List ba),G s→u.size≤B→Ge ab k [cf u] (M s++l) (step s u).2 (M (step s u).1++l):=fun s u l hg hu=>by refine (hy s u hg hu).frame (by rw [hn]; exact hk) ?_ (by rw [hn]; exact hb s) (by rw [hn,hn]) (by rw [hn]; exact hb _) l;rw [aG]; simp [aH,aO,ai]
 intro N;induction N with | zero=>intro t s hg h; have:=t.size_pos; omega | succ N ih =>intro t s hg hN hNB;have Ap:=t.fG;have tp:=t.de;have NT:=ca Ty.size Ty.size_pos t.parts;have dK:=t.dD;have hp:=vL t (by omega);have NW:=fun l=>fy s t l hg (by omega);(have Uv:∀ u s (l:List ba),G s→u.size≤N→bk ab 235 [cf u,.ptr k1 0,.ptr k2 0] (M s++l) (bl (dd step s u.nodes).2) (M (dd step s u.nodes).1++l):=fun u s l hg hu=>by refine (ih u s hg hu (by omega)).frame ?_ (by rw [hn]; exact hb s) rfl (by rw [hn,hn]) (by rw [hn]; exact hb _) l;rw [aG,hn]; simp [aH,aO,ai,ji,l9]);simp only [aG,ai] at Uv;refine jD tt_ok (fn:=Tryz.f235) n (by rw [hn]; exact aw _) Tryz.func235 rfl Tryz.call235 ?_;simp only [dO,cn,Tryz.ntmps235,aD,aM,zA,zF,aE,aF];rw [aG] at hp NW ⊢;simp only [ai] at hp NW ⊢;refine af tt_ok fun K hK=>?_;simp only [hn,go_sem];refine hK _ ?_;refine bj ?_;refine af tt_ok fun K hK=>?_;simp only [Ut,g0,hn,go_sem];refine .inl ⟨_,_,NW _,?_⟩;(try simp only [go_sem]);refine hK _ ?_;cases NY:(step s t).2 with | false =>refine aU rfl ?_;refine af tt_ok fun K hK=>?_;simp only [go_sem];refine hK _ ?_;refine bK ⟨.inl rfl,?_⟩;(have vi:dd step s t.nodes=((step s t).1,false):=by rw [dK]; simp [dd,NY]);rw [vi];exact⟨rfl,rfl,by dsimp only; rw [gt]; exact hb _,(gt _ _).symm⟩ | true =>refine aU rfl (bZ ?_);show dN _ _ _ _ _ _;refine bj ?_;refine af tt_ok fun K hK=>?_;simp only [Ut,g0,hn,go_sem];refine .inl ⟨_,_,by simp only [aq,go_sem,au],hp,?_⟩;(try simp only [aq,go_sem]);refine hK _ ?_;obtain⟨ps,y3⟩:∃ ps,ps=t.parts:=⟨_,rfl⟩;rw [← y3] at tp NT dK ⊢;refine bP (cR (fun N st=>∃ (i:Nat) (s':σ),G s'∧N=ps.length-i∧i≤ps.length∧dd step s (t :: (ps.take i).flatMap Ty.nodes)=(s',true) ∧ st = { fr:=[.undef,.ptr k1 0,.ptr k2 0,.undef,.undef,.undef,.undef,.undef,.undef,.undef,.undef,.undef,.slice (aQ ps),num ps.length,num i]++List.replicate 8 .undef,mem:=M s' }) ps.length ?_ ?_);(·refine⟨n,(false::true::true::(rp 9 false [true,true,true])),by rw [hn]; exact aw _,by simp only [bp,aH,aO,aI,zB,ji,l9,ix],by dsimp only; rw [gt]; exact hb _,0,(step s t).1,hG s t hg NY,by omega,by omega,by simp [dd,NY],?_⟩;dsimp only; rw [gt]; rfl);rintro N' st ⟨i,s',DT,rfl,hi,NZ,rfl⟩;simp only [dO,aE,aF];by_cases bX:i<ps.length;(·have hd:=gX bX;refine af tt_ok fun K hK=>?_;simp only [aq,hd,go_sem];refine hK _ ?_;refine bj (aU rfl (bZ ?_));refine bj (bP ?_);obtain⟨u,hu⟩:∃ u,ps[i]?=some u:=⟨_,ah bX⟩;have WZ:=cb Ty.size hu;have fK:=fun l=>Uv u s' l DT (by omega);(have tq:(ps.take (i+1)).flatMap Ty.nodes=(ps.take i).flatMap Ty.nodes++u.nodes:=by rw [bC,hu]; simp);(have Jb:dd step s (t :: (ps.take (i+1)).flatMap Ty.nodes)=dd step s' u.nodes:=by rw [tq,← aj,iW,NZ]; simp);refine af tt_ok fun K hK=>?_;simp only [b8,hu,aG,ai,hn,g0,gs,go_sem];refine hK _ ?_;refine af tt_ok fun K hK=>?_;simp only [gk2,g0,hn,go_sem];(refine .inr <| .inl ⟨_,_,fK _,?_⟩);(try simp only [go_sem]);refine hK _ ?_;cases N0:(dd step s' u.nodes).2 with | false =>refine aU rfl ?_;refine af tt_ok fun K hK=>?_;simp only [go_sem];refine hK _ ?_;refine bK ⟨.inl rfl,?_⟩;(have vi:dd step s t.nodes=((dd step s' u.nodes).1,false):=by (have y5:ps.flatMap Ty.nodes=(ps.take (i+1)).flatMap Ty.nodes++(ps.drop (i+1)).flatMap Ty.nodes:=by rw [← am8,u4]);rw [dK,y5,← aj,iW,Jb,N0]; simp);rw [vi];exact⟨rfl,rfl,by dsimp only; rw [gt]; exact hb _,(gt _ _).symm⟩ | true =>refine aU rfl (bZ ?_);show dN _ _ _ _ _ _;refine aV tt_ok fun K hK=>?_;simp only [go_sem];refine hK _ ?_;have kK:=bB i (by omega);rw [kK];refine⟨ps.length-(i+1),by omega,n,(false::true::true::(rp 9 false [true,true,true])),by rw [hn]; exact aw _,by simp only [bp,aH,aO,aI,zB,ji,l9,ix],by dsimp only; rw [gt]; exact hb _,i+1,(dd step s' u.nodes).1,pA step hG _ _ DT N0,rfl,bX,by rw [Jb,← N0],?_⟩;dsimp only; rw [gt]; rfl);have hd:=gY bX;refine af tt_ok fun K hK=>?_;simp only [aq,hd,go_sem];refine hK _ ?_;refine bj (aU rfl (dZ ?_));(have gB:i=ps.length:=by omega);subst gB;show dN _ _ _ _ _ _;refine af tt_ok fun K hK=>?_;simp only [go_sem];refine hK _ ?_;refine bK ⟨.inl rfl,?_⟩;rw [au] at NZ;rw [dK,NZ];exact⟨rfl,rfl,by dsimp only; rw [Uu]; exact hb _,(Uu _).symm⟩
end
end
section

theorem ET (t:Ty) (m:List ba) (hb:m.all (aI (m.length+1))=true):bk ab 189 [cf t] m (.cC (.func 234) [] [.ptr m.length 0]) (m++[.box (ai t)]):=by
 refine jD tt_ok (fn:=Tryz.f189) (m.length+1) (by omega) Tryz.func189 rfl Tryz.call189 ?_;simp only [dO,cn,Tryz.ntmps189,aD,aM,zA,zF,aE,aF];rw [aG];simp only [ai];refine af tt_ok fun K hK=>?_;simp only [go_sem];refine hK _ ?_;refine af tt_ok fun K hK=>?_;simp only [go_sem];refine hK _ ?_;have ht:∀ B:ba,(m++[B]).take (m.length+1)=m++[B]:=fun B=>bE (by simp);refine bK ⟨.inl rfl,rfl,by simp [aH,aO],?_,?_⟩;·dsimp only; rw [ht]; simp [hb,aI,aH,aO]
 dsimp only; rw [ht]

section
variable {σ:Type} {M:σ→List ba} {n k kt:Nat}
theorem R9 (hn:∀ s,(M s).length=n) (hk:k<n) (Kv:kt<n) {t:Ty} (h1:∀ s,(M s)[kt]?=some (.box (ai t))) (hb:∀ s,(M s).all (aI n)=true)
  (step:σ→Ty→σ×Bool) (G:σ→Prop) (hG:∀ s u,G s→(step s u).2=true→G (step s u).1) {B:Nat} (hB:B≤1048576) (hy:∀ s u,G s→u.size≤B→Ge ab k [cf u] (M s) (step s u).2 (M (step s u).1)) (ht:t.size≤B) (s:σ) (hs:G s) :
  bk ab 234 [.jz k,.ptr kt 0] (M s) (.eC []) (M (dd step s t.nodes).1):=by
 have g0:∀ s (l:List ba),(M s++l)[n]?=l[0]?:=fun s l=>by rw [aW (by rw [hn]; exact aw _),hn,c5]
 have g1:∀ s (l:List ba),(M s++l)[n+1]?=l[1]?:=fun s l=>by rw [aW (by rw [hn]; omega),hn,dM]
 have Uw:∀ s (l:List ba),(M s++l)[kt]?=some (.box (ai t)):=fun s l=>by rw [bm (by rw [hn]; exact Kv)]; exact h1 s
 have gs:∀ s (l:List ba) X,(M s++l).set (n+1) X=M s++l.set 1 X:=fun s l X=>by rw [ep _ _ (by rw [hn]; omega),hn,dM]
 have gt:∀ s (l:List ba),(M s++l).take n=M s:=fun s l=>by rw [← hn s,pJ]
 have hw:∀ s,G s→bk ab 235 [cf t,.ptr n 0,.ptr (n+1) 0] (M s++[.box [.jz k],.box [.cC (.func 235) [] [.ptr n 0,.ptr (n+1) 0]]]) (bl (dd step s t.nodes).2) (M (dd step s t.nodes).1++[.box [.jz k],.box [.cC (.func 235) [] [.ptr n 0,.ptr (n+1) 0]]]):=fun s hs=>by refine R8 (M:=fun s=>M s++[.box [.jz k],.box [.cC (.func 235) [] [.ptr n 0,.ptr (n+1) 0]]]) (n:=n+2) (k:=k) (k1:=n) (k2:=n+1) (fun s=>by simp [hn]) (by omega) (by omega) (by omega) (fun s=>g0 _ _) (fun s=>g1 _ _) (fun s=>?_) step G hG hB (fun s u hg hu=>?_) t.size t s hs (aw _) ht;(·rw [Ga,aN];refine⟨pe (by omega) (hb s),?_⟩;simp [aI,aH,aO]; omega);refine (hy s u hg hu).frame (by rw [hn]; exact hk) ?_ (by rw [hn]; exact hb s) (by rw [hn,hn]) (by rw [hn]; exact hb _) _;rw [aG]; simp [aH,aO,ai]
 refine jD tt_ok (fn:=Tryz.f234) n (by rw [hn]; exact aw _) Tryz.func234 rfl Tryz.call234 ?_;simp only [dO,cn,Tryz.ntmps234,aD,aM,zA,zF,aE,aF];have EJ:=hw s hs;rw [aG] at EJ;simp only [ai] at EJ Uw;refine af tt_ok fun K hK=>?_;simp only [hn,go_sem];refine hK _ ?_;refine af tt_ok fun K hK=>?_;simp only [hn,ch,AP,go_sem];refine hK _ ?_;refine af tt_ok fun K hK=>?_;simp only [hn,g1,gs,go_sem];refine hK _ ?_;refine aV tt_ok fun K hK=>?_;simp only [hn,g1,Uw,go_sem];refine .inr <| .inl ⟨_,_,EJ,?_⟩
 try simp only [go_sem]
 refine hK _ ?_;refine⟨.inr rfl,rfl,rfl,?_,?_⟩;·dsimp only; rw [gt]; exact hb _
 dsimp only; rw [gt]

def iE {α:Type} (step:σ→α→σ×Option Code):σ→List α→σ×Option Code
 | s,[]=>(s,none)
 | s,u :: r=>match (step s u).2 with
  | none=>iE step (step s u).1 r
  | some c=>((step s u).1,some c)
def uw {α:Type} (step:σ→α→σ×Option Code) (s:σ×Option Code) (u:α):(σ×Option Code)×Bool:=(step s.1 u,(step s.1 u).2.isNone)
theorem xH {α:Type} (step:σ→α→σ×Option Code):∀ (l:List α) (s:σ),(dd (uw step) (s,none) l).1=iE step s l
 | [],s=>rfl
 | u :: r,s=>by
  simp only [dd,iE]
  have l6:(uw step (s,none) u).1=step s u:=rfl
  have yd:(uw step (s,none) u).2=(step s u).2.isNone:=rfl
  by_cases AT:(step s u).2.isNone=true
  ·rw [if_pos (yd.trans AT),l6]
   have h2:(step s u).2=none:=by simpa using AT
   have e:step s u=((step s u).1,none):=ane rfl h2
   have h3:=xH step r (step s u).1
   rw [← e] at h3
   rw [h2]
   exact h3
  have N1:=AT
  rw [if_neg (fun h=>N1 (yd.symm.trans h)),l6]
  cases h2:(step s u).2 with
  | none=>rw [h2] at N1; exact absurd rfl N1
  | some c=>dsimp only; exact ane rfl h2

theorem take_set {mem pre:List ba} {n:Nat} {X Y:ba} (hn:pre.length=n) (h1:mem[n]?=some Y) (h2:mem.take n=pre):(mem.set n X).take (n+1)=pre++[X]:=by
 have bX:n<mem.length:=(ax.1 h1).1;refine di fun i=>?_;by_cases hi:i<n;·rw [jb (by omega),eE (by omega),bm (by omega),← h2,jb hi]
 by_cases n8:i=n;·subst n8;rw [jb (by omega),List.getElem?_set_self bX,aW (by omega)];simp [hn]
 rw [dF (by simp; omega),dF (by simp [hn]; omega)]

theorem Kw {n0:Nat} {st:St} {Q:Exit→St→Prop} {f:Operand} {params:Array Tmp} {assign body:Code} {t:Ty} (pre:σ→List ba) (s0:σ) (n kt:Nat) (lN:st.mem=pre s0) (hn:∀ s,(pre s).length=n) (Kv:kt<n)
  (ht:∀ s,(pre s)[kt]?=some (.box (ai t))) (hb:∀ s,(pre s).all (aI (n+1))=true) (xv:st.fr.all (aH (n+1))=true) (hf:st.eval f = .cC (.func 234) [] [.ptr kt 0]) (hp:params.size=1) (step:σ→Ty→σ×Option Code) {B:Nat} (hB:B≤1048576) (lZ:t.size≤B)
  (y6:∀ s u,u.size≤B→∀ (l:Nat) (LR LB:ba),aI (n+1) LR=true→aI (n+1) LB=true→dN ab (some l) (n+1) assign { fr:=nV params.toList [cf u] st.fr,mem:=pre s++[LR] } fun ex rW=>ex = .normal∧rW.mem[n]?=some LR ∧
   dN ab (some l) (n+1) body { rW with mem:=rW.mem.set n LB } fun ex xx=>qv ex=some (step s u).2∧xx.mem[n]?=some LB∧xx.mem.take n=pre (step s u).1)
  (hq:match (iE step s0 t.nodes).2 with
   | none=>Q .normal { st with mem:=pre (iE step s0 t.nodes).1++[.dead] }
   | some c=>dN ab none n0 c { st with mem:=pre (iE step s0 t.nodes).1++[.dead] } Q):dN ab none n0 (.rangeFunc f params assign body) st Q:=by
 have hlen:st.mem.length=n:=by rw [lN,hn]
 have gn:∀ s X,(pre s++[X])[n]?=some X:=fun s X=>by rw [aW (by rw [hn]; exact aw _),hn,c5]; rfl
 have gk:∀ s X,(pre s++[X])[kt]?=some (.box (ai t)):=fun s X=>by rw [bm (by rw [hn]; exact Kv)]; exact ht s
 have EU:∀ s (X Y:ba),(pre s++[X]).set n Y=pre s++[Y]:=fun s X Y=>by rw [ep _ _ (by rw [hn]; exact aw _),hn,c5]; rfl
 have wY:∀ (s:σ) (a:LoopState) (b:Option Code),(pre s++[ba.loop a b st.fr params assign body]).all (aI (n+1))=true:=fun s a b=>by rw [Ga,aN];exact⟨hb s,by simp only [cA,dA,aK,aI]; exact xv⟩
 have it:=R9 (M:=fun s:σ×Option Code=>pre s.1++[.loop (if s.2.isNone then .ready else .done) s.2 st.fr params assign body]) (n:=n+1) (k:=n) (kt:=kt) (t:=t) (fun s=>by simp [hn]) (by omega) (by omega) (fun s=>gk _ _) (fun s=>wY _ _ _)
  (uw step) (fun s=>s.2=none) (fun s u hs h=>by simpa [uw] using h) hB (fun s u hs hu=>by
   obtain⟨s,j⟩:=s
   simp only at hs; subst hs
   refine qw (fr:=st.fr) (params:=params) (assign:=assign) (body:=body) (gn _ _) (by simp [hp]) fun l=>?_
   have hl:(pre s++[ba.loop .ready none st.fr params assign body]).length=n+1:=by simp [hn]
   simp only [Yy,if_true,hl]
   refine dN.mono (y6 s u hu l (.loop .ready none st.fr params assign body) (.loop .busy none st.fr params assign body) xv xv) ?_
   rintro ex rW ⟨h1,h2,h3⟩
   refine⟨h1,h2,dN.mono h3 ?_⟩
   rintro ex xx ⟨h4,h5,h6⟩
   refine⟨_,h4,rfl,h5,?_,?_⟩
   ·rw [take_set (hn _) h5 h6]; exact wY _ _ _
   rw [take_set (hn _) h5 h6]; rfl) lZ (s0,none) rfl
 rw [xH] at it;refine og (g:=234) (vs:=[.jz n,.ptr kt 0]) (by rw [hf,hlen]; rfl) (by rw [lN]; exact it) ?_;rw [hlen];refine⟨_,_,_,_,_,_,gn _ _,?_,?_⟩;·cases (iE step s0 t.nodes).2 <;> simp
 generalize hj:(iE step s0 t.nodes).2=j at hq;cases j with | none=>dsimp only at hq ⊢; rw [EU]; exact hq | some c=>dsimp only at hq ⊢; rw [EU]; exact hq
end
end

theorem sU {σ α:Type} (g:σ→α→σ):∀ (l:List α) (s:σ),iE (fun s u=>(g s u,none)) s l=(l.foldl g s,none)
 | [],s=>rfl
 | u :: r,s=>by simp only [iE,eZ]; exact sU g r _
theorem y7 {α:Type}:∀ (l:List α) (a:Nat),a+l.length≤1152921504606846976→l.foldl (fun (s:Int) _=>IntKind.i64.wrap (s+1)) (a:Int)=((a+l.length:Nat):Int)
 | [],a,_=>rfl
 | _ :: r,a,h=>by
  simp only [aD] at h
  rw [eZ,bB a (by omega),y7 r (a+1) (by omega),aD]
  congr 1; omega

theorem nc (t:Ty) (ht:t.size≤1048576):bG ab 175 [cf t] (num t.size):=by
 refine je tt_ok (fn:=Tryz.f175) Tryz.func175 rfl Tryz.call175 ?_;simp only [dO,cn,Tryz.ntmps175,aD,aM,zA,zF,aE,aF];have W0:=fun B0 B1 h=>ET t [B0,B1] h;rw [aG] at W0 ⊢;simp only [ai] at W0 ⊢;refine af tt_ok fun K hK=>?_;simp only [go_sem];refine hK _ ?_;refine af tt_ok fun K hK=>?_;simp only [go_sem];refine hK _ ?_;refine bj ?_;refine af tt_ok fun K hK=>?_;simp only [go_sem];refine .inr <| .inl ⟨_,_,W0 _ _ rfl,?_⟩
 try simp only [go_sem]
 refine hK _ ?_;refine bP (Kw (t:=t) (B:=1048576) (fun s:Int=>[.box (ai t),.box [num s],.box (ai t)]) 0 3 2 rfl (fun _=>rfl) (by omega) (fun _=>rfl) (fun _=>rfl) rfl rfl rfl (fun s _=>(IntKind.i64.wrap (s+1),none)) (by omega) ht ?_ ?_);·intro s u hu l LR LB hLR YT;refine bZ ⟨rfl,rfl,bP ?_⟩;refine aV tt_ok fun K hK=>?_;simp only [go_sem];refine hK _ ?_;exact⟨rfl,rfl,rfl⟩
 rw [sU,show (0:Int)=((0:Nat):Int) from rfl,y7 _ _ (by rw [Ty.uv _ t (aw _)]; omega),Ty.uv _ t (aw _),ct];show dN _ _ _ _ _ _;refine af tt_ok fun K hK=>?_;simp only [go_sem];refine hK _ ?_;exact bK ⟨.inl rfl,rfl⟩
def ec {α:Type} (f:α→Int):List α→Int
  | []=>0
  | u :: r=>if f u=0 then ec f r else f u
def Gi (a b:ByteArray):Int:=if a=b then 5 else if R1 b a=true then 1 else 0
def lg:List ByteArray→Int
  | []=>0
  | a :: r=>match r with
    | []=>0
    | b :: _=>if Gi a b=0 then lg r else Gi a b
def fi (t:Ty):Bool:=decide (t.kind=0)&&gV t.mod&&gV t.name&&decide (t.args.length=0)&&decide (t.bd.length=0)
def QT (t:Ty):Bool :=
  (decide (t.kind=8) || !(t.bd.any Fd.opt)) &&
  (if t.kind=0∨t.kind=1∨t.kind=2∨t.kind=3∨t.kind=4 then gV t.mod&&gV t.name&&decide (t.args.length=0)&&decide (t.bd.length=0)
   else if t.kind=5 then gV t.mod&&gV t.name&&decide (t.args.length=1)&&decide (t.bd.length=0)
   else if t.kind=6∨t.kind=7 then gV t.mod&&gV t.name&&decide (t.args.length=0)
   else if t.kind=8 then gV t.mod&&gV t.name&&decide (t.args.length=1)
   else if t.kind=9 then gV t.mod&&decide (t.args.length=0)&&decide (t.bd.length=0)
   else if t.kind=10 then decide (t.bd.length=0) else false)
def Gj (t:Ty):Int :=
  if QT t=false then 1
  else if 32<t.bd.length∨8<t.args.length then 7
  else if (t.kind=9∧CF t.name=false)∨(t.kind=10∧(qM t.mod=false∨m4 t.name=false)) then 4
  else if (t.bd.any fun f=>!eP f.name)=true then 4
  else lg (t.bd.map Fd.name)
def rF (t:Ty):Int:=if 4096<t.size∨32<t.depth then 7 else ec Gj t.nodes
end Go.Proofs.YtnboooapeopjoaaGreatDoor
end
