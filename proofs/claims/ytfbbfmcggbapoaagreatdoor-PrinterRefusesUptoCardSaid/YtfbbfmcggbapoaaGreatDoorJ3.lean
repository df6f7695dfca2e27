import Derived.Test.YtfbbfmcggbapoaaGreatDoorJ2
import Derived.Shelf.Small.Wraps
import Derived.Shelf.Strings.Search3
import Derived.Shelf.Strings.Split
import Derived.Test.YtfbbfmcggbapoaaGreatDoorProg
import Derived.IntWalk
open Array renaming toArray_toList→cE
open Bool renaming and_eq_true→aL,and_false→aT,and_true→aO,eq_iff_iff→gu,false_eq_true→bF
open ByteArray renaming data_append→arT,ext→arB,size_append→ars
open Go.Proofs.Tryz renaming prog→aj
open Int renaming cast_ofNat_Int→dC,le_refl→cf,lt_of_lt_of_le→asl,toNat_natCast→nK
open List renaming all_append→kK,all_cons→cH,all_eq_true→aZ,all_nil→dS,any_eq_true→tV,append_assoc→aA,cons_append→ay,drop_drop→arE,drop_succ_cons→zq,ext_getElem?→dM,flatMap_append→pU,flatMap_cons→ae,foldl_append→acI,foldl_cons→ew,getElem?_append_left→bA,getElem?_append_right→a8,getElem?_cons_zero→aJ,getElem?_drop→arM,getElem?_eq_getElem→aw,getElem?_eq_none→ec,getElem?_eq_none_iff→asy,getElem?_eq_some_iff→az,getElem?_map→ak,getElem?_set_ne→cP,getElem?_set_self→eX,getElem?_take_of_lt→jI,headD_cons→bh,length_append→ab,length_cons→af,length_drop→dw,length_map→au,length_nil→ai,length_singleton→aru,map_append→pM,map_congr_left→pT,map_cons→bT,map_nil→jo,mem_append→ib,mem_cons_of_mem→ct,mem_cons_self→cA,mem_iff_getElem?→cb,mem_map→eI,mem_of_getElem?→aE,mem_or_eq_of_mem_set→asz,mem_range→al4,mem_singleton→dq,nil_append→aC,replicate_succ→aH,replicate_zero→aI,set_append_right→eH,set_cons_zero→bo,take_add_one→bY,take_append_drop→kT,take_left→rq,take_length→al,take_of_length_le→bR
open Nat renaming add_comm→Te,add_sub_cancel→abZ,add_sub_cancel_left→ee,add_zero→jm,le_antisymm→art,le_of_ble_eq_true→gF,le_of_not_lt→ahj,le_refl→aB,le_succ_of_le→asd,lt_or_ge→bz,not_lt_zero→cR,sub_add_cancel→asm,sub_self→dR,zero_add→cr,zero_le→bj
open Option renaming getD_some→arj,isNone_none→abY,map_eq_some_iff→bc,map_some→cx
open Prod renaming ext→arz
open UInt8 renaming toNat_inj→ar7
set_option linter.all false
section
namespace Go.Proofs.YtfbbfmcggbapoaaGreatDoor
set_option maxHeartbeats 4000000
set_option maxRecDepth 100000
section
open Go.RowKit Go.Lib Go.Shelf
def Hv:Go.Shelf.Ren:=⟨fun|103=>273|210=>286|206=>298|n=>n,fun|9=>9|4=>4|24=>254|3=>3|n=>n,fun|n=>n⟩
theorem UR:Go.Proofs.Lays.n103 aj Hv := {
 mixed:=kr
 f103:=Tryz.func273.trans (congrArg some kr)
 f206:=Tryz.func298.trans (congrArg some kr)
 f210:=Tryz.func286.trans (congrArg some kr)
 t3:=Tryz.underlying3
 a3:=Tryz.isAgg3
 z3:=Tryz.sizeOf3
 v3:=Tryz.zeroValue3
 t4:=Tryz.underlying4
 a4:=Tryz.isAgg4
 z4:=Tryz.sizeOf4
 v4:=Tryz.zeroValue4
 t9:=Tryz.underlying9
 a9:=Tryz.isAgg9
 z9:=Tryz.sizeOf9
 v9:=Tryz.zeroValue9
 t24:=Tryz.underlying254
 a24:=Tryz.isAgg254
 z24:=Tryz.sizeOf254
 v24:=Tryz.zeroValue254 }
theorem strings_CutPrefix (s p:ByteArray) (w:World) :
  Calls aj 273 #[.string s,.string p] w fun e w'=>e = .returned (.tuple #[.string ⟨(Lib.trimPrefix s.data.toList p.data.toList).toArray⟩,.bool (Lib.hasPrefix s.data.toList p.data.toList)])∧w'=w:=Any.strings_CutPrefix UR s p w
def Hw:Go.Shelf.Ren:=⟨fun|144=>247|143=>274|219=>287|217=>299|225=>300|224=>301|267=>302|266=>306|314=>307|n=>n,fun|9=>9|4=>4|3=>3|5=>5|46=>209|146=>276|51=>268|n=>n,fun|1=>0|n=>n⟩
theorem US:Go.Proofs.Lays.n144 aj Hw := {
 mixed:=kr
 f143:=Tryz.func274.trans (congrArg some kr)
 f144:=Tryz.func247.trans (congrArg some kr)
 f217:=Tryz.func299.trans (congrArg some kr)
 f219:=Tryz.func287.trans (congrArg some kr)
 f224:=Tryz.func301.trans (congrArg some kr)
 f225:=Tryz.func300.trans (congrArg some kr)
 f266:=Tryz.func306.trans (congrArg some kr)
 f267:=Tryz.func302.trans (congrArg some kr)
 f314:=Tryz.func307.trans (congrArg some kr)
 t3:=Tryz.underlying3
 a3:=Tryz.isAgg3
 z3:=Tryz.sizeOf3
 v3:=Tryz.zeroValue3
 t4:=Tryz.underlying4
 a4:=Tryz.isAgg4
 z4:=Tryz.sizeOf4
 v4:=Tryz.zeroValue4
 t5:=Tryz.underlying5
 a5:=Tryz.isAgg5
 z5:=Tryz.sizeOf5
 v5:=Tryz.zeroValue5
 t9:=Tryz.underlying9
 a9:=Tryz.isAgg9
 z9:=Tryz.sizeOf9
 v9:=Tryz.zeroValue9
 t46:=Tryz.underlying209
 a46:=Tryz.isAgg209
 z46:=Tryz.sizeOf209
 v46:=Tryz.zeroValue209
 t51:=Tryz.underlying268
 a51:=Tryz.isAgg268
 z51:=Tryz.sizeOf268
 v51:=Tryz.zeroValue268
 t146:=Tryz.underlying276
 a146:=Tryz.isAgg276
 z146:=Tryz.sizeOf276
 v146:=Tryz.zeroValue276
 g1:=kr }
theorem strings_Contains (s sub:ByteArray) (m:Int) (w:World) (hs:s.size<4294967281) (hm:w.cell? ⟨0,0,none⟩=some (.int .i64 m)) :
  Calls aj 247 #[.string s,.string sub] w fun e w'=>e = .returned (.bool (Lib.contains s.data.toList sub.data.toList))∧w'=w:=Any.strings_Contains US s sub m w hs hm
def Hx:Go.Shelf.Ren:=⟨fun|146=>242|221=>272|268=>284|138=>285|143=>274|195=>295|197=>296|218=>297|219=>287|260=>305|217=>299|225=>300|224=>301|267=>302|266=>306|314=>307|n=>n,fun|9=>9|31=>119|3=>3|4=>4|0=>0|105=>272|21=>21|5=>5|46=>209|119=>280|139=>283|138=>282|146=>276|51=>268|n=>n,fun|1=>0|3=>4|4=>5|n=>n⟩
theorem UT:Go.Proofs.Lays.n146 aj Hx := {
 mixed:=kr
 f138:=Tryz.func285.trans (congrArg some kr)
 f143:=Tryz.func274.trans (congrArg some kr)
 f146:=Tryz.func242.trans (congrArg some kr)
 f195:=Tryz.func295.trans (congrArg some kr)
 f197:=Tryz.func296.trans (congrArg some kr)
 f217:=Tryz.func299.trans (congrArg some kr)
 f218:=Tryz.func297.trans (congrArg some kr)
 f219:=Tryz.func287.trans (congrArg some kr)
 f221:=Tryz.func272.trans (congrArg some kr)
 f224:=Tryz.func301.trans (congrArg some kr)
 f225:=Tryz.func300.trans (congrArg some kr)
 f260:=Tryz.func305.trans (congrArg some kr)
 f266:=Tryz.func306.trans (congrArg some kr)
 f267:=Tryz.func302.trans (congrArg some kr)
 f268:=Tryz.func284.trans (congrArg some kr)
 f314:=Tryz.func307.trans (congrArg some kr)
 t0:=Tryz.underlying0
 a0:=Tryz.isAgg0
 z0:=Tryz.sizeOf0
 v0:=Tryz.zeroValue0
 t3:=Tryz.underlying3
 a3:=Tryz.isAgg3
 z3:=Tryz.sizeOf3
 v3:=Tryz.zeroValue3
 t4:=Tryz.underlying4
 a4:=Tryz.isAgg4
 z4:=Tryz.sizeOf4
 v4:=Tryz.zeroValue4
 t5:=Tryz.underlying5
 a5:=Tryz.isAgg5
 z5:=Tryz.sizeOf5
 v5:=Tryz.zeroValue5
 t9:=Tryz.underlying9
 a9:=Tryz.isAgg9
 z9:=Tryz.sizeOf9
 v9:=Tryz.zeroValue9
 t21:=Tryz.underlying21
 a21:=Tryz.isAgg21
 z21:=Tryz.sizeOf21
 v21:=Tryz.zeroValue21
 t31:=Tryz.underlying119
 a31:=Tryz.isAgg119
 z31:=Tryz.sizeOf119
 v31:=Tryz.zeroValue119
 t46:=Tryz.underlying209
 a46:=Tryz.isAgg209
 z46:=Tryz.sizeOf209
 v46:=Tryz.zeroValue209
 t51:=Tryz.underlying268
 a51:=Tryz.isAgg268
 z51:=Tryz.sizeOf268
 v51:=Tryz.zeroValue268
 t105:=Tryz.underlying272
 a105:=Tryz.isAgg272
 z105:=Tryz.sizeOf272
 v105:=Tryz.zeroValue272
 t119:=Tryz.underlying280
 a119:=Tryz.isAgg280
 z119:=Tryz.sizeOf280
 t138:=Tryz.underlying282
 a138:=Tryz.isAgg282
 z138:=Tryz.sizeOf282
 v138:=Tryz.zeroValue282
 t139:=Tryz.underlying283
 a139:=Tryz.isAgg283
 z139:=Tryz.sizeOf283
 v139:=Tryz.zeroValue283
 t146:=Tryz.underlying276
 a146:=Tryz.isAgg276
 z146:=Tryz.sizeOf276
 v146:=Tryz.zeroValue276
 g1:=kr
 g3:=kr
 g4:=kr }
theorem strings_Split (s sep:ByteArray) (m:Int) (w:World) (hs:s.size<4294967281) (hm:w.cell? ⟨0,0,none⟩=some (.int .i64 m)) (h1:1≤sep.size) :
  Calls aj 242 #[.string s,.string sep] w fun e w' =>
   e = .returned (.slice (some ⟨w.heap.size,0,none⟩) (Lib.countB s sep+1) (Lib.countB s sep+1))∧w'=w.alloc (.cells ((Lib.splitB sep 0 (Lib.countB s sep) s).map Value.string).toArray 9):=Any.strings_Split UT kr s sep m w hs hm h1
end
end Go.Proofs.YtfbbfmcggbapoaaGreatDoor
end
section
namespace Go.Eng
variable [bB]
open Go.RowKit (Below)
theorem b8.of_same {P:Program} {f:FuncId} {l:List Value} {v:Value} (hc:∀ (xs:Array Value) (w:World),(callFunc f xs).run P w = .ok (.enter f xs) w) (hG:bB.g=some 0)
  (h:∀ w:World,w.cell? ⟨0,0,none⟩=some (.int .i64 bB.n)→Calls P f l.toArray w fun e w'=>e = .returned v∧w'=w):b8 P f (l.map V.sc) (ka v):=by
 refine⟨hc,fun F hg w xs hF hx=>?_⟩;have n7:xs=l.toArray:=by rw [← cE (xs:=xs)];congr 1;refine dM fun i=>?_;cases hi:l[i]? with|none =>have h1:=hx.1;rw [au] at h1;rw [ec (by have:=asy.1 hi;omega)]|some a =>obtain⟨y,hy,hr⟩:=hx.get (i:=i) (v:=.sc a) (by rw [ak,hi];rfl);rw [hy,fu hr]
 rw [n7];refine (h w (hF _ _ (hg.n 0 hG))).mono ?_;rintro e w' ⟨rfl,rfl⟩;exact⟨F,_,rfl,fun _ _ h=>h,hF,fun _ _ h=>.inl h,⟨hg,kW _ _⟩,Below.refl _ _⟩
end Go.Eng
namespace Go.Proofs.YtfbbfmcggbapoaaGreatDoor
open Go.Eng
open Go.RowKit (Below)
variable [bB]
theorem sI (hG:bB.g=some 0) (s t:ByteArray) (hs:s.size<4294967281):b8 aj 247 [str s,str t] (bl (Lib.contains s.data.toList t.data.toList)) :=
 b8.of_same (l:=[.string s,.string t]) Tryz.call247 hG fun w hw=>strings_Contains s t bB.n w hs hw
theorem Na (hG:bB.g=some 0) (s t:ByteArray):b8 aj 273 [str s,str t] (.eg [str ⟨(Lib.trimPrefix s.data.toList t.data.toList).toArray⟩,bl (Lib.hasPrefix s.data.toList t.data.toList)]) :=
 b8.of_same (l:=[.string s,.string t]) Tryz.call273 hG fun w _=>strings_CutPrefix s t w
def pieces (s:ByteArray):List ByteArray:=Lib.splitB ⟨#[47]⟩ 0 (Lib.countB s ⟨#[47]⟩) s
theorem mU (s:ByteArray):(pieces s).length=Lib.countB s ⟨#[47]⟩+1:=Lib.splitB_all ⟨#[47]⟩ (by decide) 0 _ s rfl
theorem Qz (hG:bB.g=some 0) (s:ByteArray) (hs:s.size<4294967281):b8 aj 242 [str s,str ⟨#[47]⟩] (.slice ((pieces s).map str)):=by
 refine⟨Tryz.call242,fun F hg w xs hF hx=>?_⟩;obtain⟨x,ys,n7,hr,Bd⟩:=hx.of_cons;obtain⟨y,zs,hys,Gj,hz⟩:=Bd.of_cons;have OS:=hz.of_nil;subst OS;have h1:=fu hr;have h2:=fu Gj;subst h1;subst h2;subst hys;obtain rfl:xs = #[.string s,.string ⟨#[47]⟩]:=by rw [← cE (xs:=xs),n7]
 refine (strings_Split s ⟨#[47]⟩ bB.n w hs (hF _ _ (hg.n 0 hG)) (by decide)).mono ?_;rintro e w' ⟨rfl,rfl⟩;have hold:∀ ad y,F ad=some y→ad.block≠w.heap.size:=fun ad y h e=>by have:=World.block_lt_of_cell? w ad (hF ad y h);omega
 have pC:∀ o,(w.alloc (.cells ((pieces s).map Value.string).toArray 9)).cell? ⟨w.heap.size,o,none⟩=((pieces s).map Value.string)[o]?:=fun o=>by unfold World.cell? World.alloc;simp
 let F':Addr→Option Value:=fun ad=>if ad.block=w.heap.size then (w.alloc (.cells ((pieces s).map Value.string).toArray 9)).cell? ad else F ad;have hFF:∀ ad y,F ad=some y→F' ad=some y:=fun ad y h=>by show (if _ then _ else _)=_;rw [if_neg (hold ad y h)];exact h
 have Gp:Gl F':=hg.mono hFF;refine⟨F',_,rfl,hFF,fun ad y h=>?_,fun ad y h=>?_,⟨Gp,?_⟩,(Below.refl _ _).alloc (aB _) _⟩;·by_cases hb:ad.block=w.heap.size;(·rw [show F' ad=_ from if_pos hb] at h;exact h);rw [show F' ad=_ from if_neg hb] at h;have h3:=hF ad y h;rw [← h3];have bL:=World.block_lt_of_cell? w ad h3;unfold World.cell?;rw [Below.heap_alloc w _ _ bL]
 ·by_cases hb:ad.block=w.heap.size;(·exact .inr (by omega));rw [show F' ad=_ from if_neg hb] at h;exact .inl h
 have hl:((pieces s).map str).length=Lib.countB s ⟨#[47]⟩+1:=by rw [au,mU]
 have:=cY.slice ⟨F',fun _ _=>none,Gp⟩ ((pieces s).map str) (some ⟨w.heap.size,0,none⟩) (Lib.countB s ⟨#[47]⟩+1) 1 ⟨w.heap.size,0,none⟩ (fun i _=>(((pieces s).map Value.string)[i]?).getD undef) (fun _=>rfl) (by rw [hl];exact aB _)
  (fun i row hi=>by rw [ak,bc] at hi;obtain⟨u,-,rfl⟩:=hi;rfl)
  (fun i row j c hi hj=>by
   rw [ak,bc] at hi
   obtain⟨u,hu,rfl⟩:=hi
   match j,hj with
   | 0,hj =>
    show F' _=_
    rw [add_lit,show F' _=_ from if_pos rfl,pC]
    simp [hu]
   | j+1,hj=>simp [V.cells] at hj)
  (fun i row j c hi hj=>by
   rw [ak,bc] at hi
   obtain⟨u,hu,rfl⟩:=hi
   simp [hu,Value.oneCell'])
  (fun i row j c hi hj=>by
   rw [ak,bc] at hi
   obtain⟨u,hu,rfl⟩:=hi
   match j,hj with
   | 0,hj =>
    cases hj
    simp only [ak,hu,cx,arj]
    exact .sc _ _
   | j+1,hj=>simp [V.cells] at hj)
 rw [hl] at this;exact this
end Go.Proofs.YtfbbfmcggbapoaaGreatDoor
end
section
namespace Go.Proofs.YtfbbfmcggbapoaaGreatDoor
open Go.Eng
variable [bB]
open Nat renaming reduceAdd → zA, reduceLT → zB, reduceLeDiff → zC, reduceMul → zD, reduceEqDiff → zE, reduceSub → zF
set_option maxHeartbeats 4000000
set_option maxRecDepth 100000
def uk:ByteArray:=⟨#[32,97,110,100,32,97,110,121,32,97,115,32,98,111,111,108,32,100,101,112,114,101,99,97,116,101,100,32,101,108,115,101,32,101,120,112,111,114,116,32,102,97,108,115,101,32,102,110,32,102,111,108,100,32,102,114,111,109,32,105,102,32,105,109,112,111,114,116,32,105,110,32,105,110,116,32,108,101,110,103,116,104,32,108,101,116,32,108,105,115,116,32,109,97,116,99,104,32,109,111,100,117,108,101,32,110,111,110,101,32,110,111,116,32,111,114,32,116,101,120,116,32,116,104,101,110,32,116,114,117,101,32,116,121,112,101,32,117,115,101,32]⟩
def kwB (s:ByteArray):Bool:=Lib.contains uk.data.toList (⟨#[32]⟩++s++⟨#[32]⟩:ByteArray).data.toList
def dX (s:ByteArray):Bool:=decide (1≤s.size)&&decide (s.size≤32)&&Hs (eJ s 0)&&ml uR s && !kwB s
def tO (s:ByteArray):Bool:=dX s&&ml CH s
def mL (s:ByteArray):ByteArray:=⟨(Lib.trimPrefix s.data.toList [118]).toArray⟩
def sJ (s:ByteArray):Bool:=Lib.hasPrefix s.data.toList [118]
def jj (t:ByteArray):Nat→Int
 | 0=>0
 | k+1=>10*jj t k+(eJ t k-48)
def sK (t:ByteArray):Bool:=decide (1≤t.size)&&decide (t.size≤3) && !(decide (1<t.size)&&decide (eJ t 0=48))&&ml kQ t
def ga (s:ByteArray):Bool:=sJ s&&sK (mL s)
def oR (s:ByteArray):Int:=jj (mL s) (mL s).size
theorem Be {p:Int→Bool} {s:ByteArray} (h:ml p s=true) {i:Nat} {c:UInt8} (hc:s[i]?=some c):p c.toNat=true:=aZ.1 h c (aE (wo hc))
theorem uS {t:ByteArray} (h:ml kQ t=true):∀ k,k≤t.size→0≤jj t k∧jj t k<10 ^ k
 | 0,_=>⟨cf _,by simp [jj]⟩
 | k+1,hk=>by
  obtain⟨h1,h2⟩:=uS h k (by omega)
  obtain⟨c,hc⟩:=eC (s:=t) (i:=k) (by omega)
  have h3:=Be h hc
  unfold kQ at h3
  simp only [aL,decide_eq_true_eq] at h3
  rw [jj,eQ hc,Int.pow_succ]
  omega
theorem QA {t:ByteArray} (h:ml kQ t=true) (h3:t.size≤3) {k:Nat} (hk:k≤t.size):0≤jj t k∧jj t k<1000:=by
 obtain⟨h1,h2⟩:=uS h k hk;refine⟨h1,asl h2 ?_⟩;have:k=0∨k=1∨k=2∨k=3:=by omega
 rcases this with rfl|rfl|rfl|rfl <;> decide
theorem JX (hG:bB.g=some 0) (s:ByteArray) (hs:s.size≤1000000):Cn 240 [str s] (bl (kwB s)):=by refine gy tt_ok [] 7 [.tmp 2] (fn:=Tryz.f240) Tryz.func240 rfl Tryz.call240 ⟨rfl,rfl,by simp⟩ fun K hK=>?_;have sa1:=fun x y=>Ez aj 9 x y ⟨#[32]⟩ s (by rw [show (⟨#[32]⟩:ByteArray).size=1 from rfl,show IntKind.i64.max=9223372036854775807 from rfl];omega);have sa2:=fun x y=>Ez aj 9 x y (⟨#[32]⟩++s) ⟨#[32]⟩ (by rw [ars,show (⟨#[32]⟩:ByteArray).size=1 from rfl,show IntKind.i64.max=9223372036854775807 from rfl];omega);simp only [sa1,sa2,go_sem];refine dK (⟨_,rfl,sI hG _ _ (by decide)⟩) ?_;simp only [sa1,sa2,go_sem];exact hK _ rfl
theorem je (hG:bB.g=some 0) (s:ByteArray):Cn 176 [str s] (bl (dX s)):=by
 refine gy tt_ok [] 24 [.tmp 2] (fn:=Tryz.f176) Tryz.func176 rfl Tryz.call176 ⟨rfl,rfl,by simp⟩ fun K hK=>?_;have lD:aj.underlying 9=some .string:=kr;have sl:∀ (a:ByteArray) (ty:TypeId),iq aj (Builtin.len_ #[9] ty) [.sc (.string a)]=some (num a.size):=fun a ty=>gi (P:=aj) (tt:=tt) (T:=9) a lD ty;simp only [sl,go_sem];refine ca (fun qk=>?_) (fun qk=>?_);·have h1:=zP rfl qk;obtain⟨Hy,kj⟩:=eC (s:=s) (i:=(0:Int).toNat) (by omega);have dD:=eR (P:=aj) s lD .i64 (0) (by omega) (c:=Hy) kj;have lg:eJ s 0=Hy.toNat:=eQ kj;simp only [dD,sl,go_sem];refine ca (fun yL=>?_) (fun yL=>?_) <;> simp only [dD,sl,go_sem];(·refine dK (Ba _) ?_;repeat' (simp only [dD,sl,go_sem];first|refine ca (fun hg=>?_) (fun hg=>?_)|refine dK (Bc 238 uR LG s (by have:=of_decide_eq_true yL;omega)) ?_|refine dK (JX hG s (by have:=of_decide_eq_true yL;omega)) ?_|(exact hK _ (congrArg bl (by simp_all [dX] <;> (intros;omega))))));exact hK _ (congrArg bl (by simp_all [dX] <;> (intros;omega)))
 have h1:=wq rfl qk;simp only [sl,go_sem];exact hK _ (congrArg bl (by simp_all [dX] <;> (intros;omega)))
theorem JY (hG:bB.g=some 0) (s:ByteArray):Cn 243 [str s] (.eg [num (if ga s=true then oR s else 0),bl (ga s)]):=by
 refine gy tt_ok [] 53 [.tmp 2,.tmp 3] (fn:=Tryz.f243) Tryz.func243 rfl Tryz.call243 ⟨rfl,rfl,by simp⟩ fun K hK=>?_;have lD:aj.underlying 9=some .string:=kr;have sl:∀ (a:ByteArray) (ty:TypeId),iq aj (Builtin.len_ #[9] ty) [.sc (.string a)]=some (num a.size):=fun a ty=>gi (P:=aj) (tt:=tt) (T:=9) a lD ty;have hT5:aj.underlying 5=some (.int .u8):=kr;have hT3:aj.underlying 3=some (.int .i64):=kr;have cv:=fun (k:IntKind) (n:Int)=>Ld (P:=aj) (src:=5) (dst:=3) hT5 hT3 k n;simp only [sl,cv,go_sem];refine dK (⟨_,rfl,Na hG s ⟨#[118]⟩⟩) ?_;obtain⟨t,ht⟩:∃ t,t=mL s:=⟨_,rfl⟩;obtain⟨hv,hhv⟩:∃ b,b=sJ s:=⟨_,rfl⟩;have e1:(⟨(Lib.trimPrefix s.data.toList [118]).toArray⟩:ByteArray)=t:=ht.symm;have e2:Lib.hasPrefix s.data.toList [118]=hv:=hhv.symm;have IT:ga s=(hv&&sK t):=by rw [hhv,ht];rfl
 simp only [e1,e2];simp only [sl,cv,go_sem];refine ca (fun rD=>?_) (fun rD=>?_)
 ·have jS:ga s=false:=by rw [IT];simp_all [sK] <;> (intros;omega)
  simp only [sl,cv,go_sem];refine hK _ ?_
  first
   | (rw [jS];rfl)
   | (rw [gV];subst gq;unfold oR;rw [← ht];rfl)
 simp only [sl,cv,go_sem];refine ca (fun QB=>?_) (fun QB=>?_)
 ·have h1:t.size=0:=wq (e:=⟨#[]⟩) rfl (by rw [QB];rfl);have jS:ga s=false:=by rw [IT];simp_all [sK] <;> (intros;omega)
  simp only [sl,cv,go_sem];refine hK _ ?_
  first
   | (rw [jS];rfl)
   | (rw [gV];subst gq;unfold oR;rw [← ht];rfl)
 have h1:1≤t.size:=zP (e:=⟨#[]⟩) rfl (by rw [QB];rfl);obtain⟨Hy,kj⟩:=eC (s:=t) (i:=(0:Int).toNat) (by omega);have dD:=eR (P:=aj) t lD .i64 (0) (by omega) (c:=Hy) kj;have lg:eJ t 0=Hy.toNat:=eQ kj;simp only [dD,sl,cv,go_sem];refine ca (fun JZ=>?_) (fun JZ=>?_)
 ·have jS:ga s=false:=by rw [IT];simp_all [sK] <;> (intros;omega)
  simp only [dD,sl,cv,go_sem];refine hK _ ?_
  first
   | (rw [jS];rfl)
   | (rw [gV];subst gq;unfold oR;rw [← ht];rfl)
 simp only [dD,sl,cv,go_sem];refine ca (fun ZF=>?_) (fun ZF=>?_) <;> simp only [dD,sl,cv,go_sem]
 ·refine ca (fun ZG=>?_) (fun ZG=>?_)
  ·have jS:ga s=false:=by rw [IT];simp_all [sK] <;> (intros;omega)
   simp only [dD,sl,cv,go_sem];refine hK _ ?_
   first
    | (rw [jS];rfl)
    | (rw [gV];subst gq;unfold oR;rw [← ht];rfl)
  simp only [dD,sl,cv,go_sem];refine dK (Bc 245 kQ wu t (by have:=of_decide_eq_false JZ;omega)) ?_;simp only [dD,sl,cv,go_sem];refine ca (fun QC=>?_) (fun QC=>?_)
  ·have jS:ga s=false:=by rw [IT];simp_all [sK] <;> (intros;omega)
   simp only [dD,sl,cv,go_sem];refine hK _ ?_
   first
    | (rw [jS];rfl)
    | (rw [gV];subst gq;unfold oR;rw [← ht];rfl)
  have gV:ga s=true:=by rw [IT];simp_all [sK] <;> (intros;omega)
  have Nb:sK t=true:=by rw [IT] at gV;simp at gV;exact gV.2
  have UU:ml kQ t=true:=by unfold sK at Nb;simp only [aL] at Nb;exact Nb.2
  have h3:t.size≤3:=by unfold sK at Nb;simp only [aL,decide_eq_true_eq] at Nb;exact Nb.1.1.2
  simp only [dD,sl,cv,go_sem];refine eh tt_ok [] [40,5] 0 [0,2,3,37,39] (fun vs=>((t.size:Int)-Go.Eng.intOf (vs.headD .undef)).toNat) (fun vs=>∃ i:Nat,vs=[num i,num (jj t i)]∧i≤t.size) (by omega) (by simp only [dD,sl,cv,go_sem]) (⟨0,rfl,bj _⟩) fun vs hI Z1 dW=>?_;obtain⟨i,rfl,hi⟩:=hI;simp only [dD,sl,cv,go_sem];refine ca (fun J0=>?_) (fun J0=>?_);·(have bL:i<t.size:=by simpa using J0);have hw:=bm i (by omega);obtain⟨c,vh⟩:=eC (s:=t) (i:=i) bL;have jt:=eR (P:=aj) t lD .i64 (i:Int) (by omega) (c:=c) (show t[((i:Nat):Int).toNat]?=some c from vh);have UW:=Be UU vh;unfold kQ at UW;simp only [aL,decide_eq_true_eq] at UW;obtain⟨hd0,TX⟩:=QA UU h3 hi;(have hu:IntKind.u8.wrap ((c.toNat:Int)-48)=(c.toNat:Int)-48:=by have h:=c.toNat_lt;simp only [IntKind.wrap,IntKind.bits,IntKind.signed];simp;omega);have Bf:IntKind.i64.wrap ((c.toNat:Int)-48)=(c.toNat:Int)-48:=IntWalk.i64_in _ (by omega);have Bg:IntKind.i64.wrap (10*jj t i)=10*jj t i:=IntWalk.i64_in _ (by omega);(have um:IntKind.i64.wrap (10*jj t i+((c.toNat:Int)-48))=jj t (i+1):=by rw [jj,eQ vh];exact IntWalk.i64_in _ (by omega));simp only [dD,hw,jt,hu,Bf,Bg,um,sl,cv,go_sem];refine dW _ (jd (by omega) (by simp only [dD,hw,jt,hu,Bf,Bg,um,sl,cv,go_sem]) ?_ ?_) <;> simp only [fY,lk,reduceIte,zE];(·exact⟨i+1,rfl,bL⟩);simp only [Go.Eng.intOf,bh];omega
  have gq:i=t.size:=art hi (ahj (by simpa using J0));simp only [dD,sl,cv,go_sem];refine hK _ ?_
  first
   | (rw [jS];rfl)
   | (rw [gV];subst gq;unfold oR;rw [← ht];rfl)
 refine dK (Bc 245 kQ wu t (by have:=of_decide_eq_false JZ;omega)) ?_;simp only [dD,sl,cv,go_sem];refine ca (fun QC=>?_) (fun QC=>?_)
 ·have jS:ga s=false:=by rw [IT];simp_all [sK] <;> (intros;omega)
  simp only [dD,sl,cv,go_sem];refine hK _ ?_
  first
   | (rw [jS];rfl)
   | (rw [gV];subst gq;unfold oR;rw [← ht];rfl)
 have gV:ga s=true:=by rw [IT];simp_all [sK] <;> (intros;omega)
 have Nb:sK t=true:=by rw [IT] at gV;simp at gV;exact gV.2
 have UU:ml kQ t=true:=by unfold sK at Nb;simp only [aL] at Nb;exact Nb.2
 have h3:t.size≤3:=by unfold sK at Nb;simp only [aL,decide_eq_true_eq] at Nb;exact Nb.1.1.2
 simp only [dD,sl,cv,go_sem];refine eh tt_ok [] [40,5] 0 [0,2,3,37,39] (fun vs=>((t.size:Int)-Go.Eng.intOf (vs.headD .undef)).toNat) (fun vs=>∃ i:Nat,vs=[num i,num (jj t i)]∧i≤t.size) (by omega) (by simp only [dD,sl,cv,go_sem]) (⟨0,rfl,bj _⟩) fun vs hI Z2 pP=>?_;obtain⟨i,rfl,hi⟩:=hI;simp only [dD,sl,cv,go_sem];refine ca (fun J0=>?_) (fun J0=>?_);·(have bL:i<t.size:=by simpa using J0);have hw:=bm i (by omega);obtain⟨c,vh⟩:=eC (s:=t) (i:=i) bL;have jt:=eR (P:=aj) t lD .i64 (i:Int) (by omega) (c:=c) (show t[((i:Nat):Int).toNat]?=some c from vh);have UW:=Be UU vh;unfold kQ at UW;simp only [aL,decide_eq_true_eq] at UW;obtain⟨hd0,TX⟩:=QA UU h3 hi;(have hu:IntKind.u8.wrap ((c.toNat:Int)-48)=(c.toNat:Int)-48:=by have h:=c.toNat_lt;simp only [IntKind.wrap,IntKind.bits,IntKind.signed];simp;omega);have Bf:IntKind.i64.wrap ((c.toNat:Int)-48)=(c.toNat:Int)-48:=IntWalk.i64_in _ (by omega);have Bg:IntKind.i64.wrap (10*jj t i)=10*jj t i:=IntWalk.i64_in _ (by omega);(have um:IntKind.i64.wrap (10*jj t i+((c.toNat:Int)-48))=jj t (i+1):=by rw [jj,eQ vh];exact IntWalk.i64_in _ (by omega));simp only [dD,hw,jt,hu,Bf,Bg,um,sl,cv,go_sem];refine pP _ (jd (by omega) (by simp only [dD,hw,jt,hu,Bf,Bg,um,sl,cv,go_sem]) ?_ ?_) <;> simp only [fY,lk,reduceIte,zE];(·exact⟨i+1,rfl,bL⟩);simp only [Go.Eng.intOf,bh];omega
 have gq:i=t.size:=art hi (ahj (by simpa using J0));simp only [dD,sl,cv,go_sem];refine hK _ ?_
 first
  | (rw [jS];rfl)
  | (rw [gV];subst gq;unfold oR;rw [← ht];rfl)
section
def Dw (s:ByteArray):ByteArray:=(pieces s).getLast?.getD ⟨#[]⟩
def dV (s:ByteArray):Bool:=ga (Dw s)&&decide (s.size≤64)&&decide (2≤(pieces s).length)&&(pieces s).all tO
def kl (s:ByteArray):Int:=if dV s=true then oR (Dw s) else 0
def jX (s:ByteArray):Int:=if dV s=true then 0 else 4
theorem Dx (s:ByteArray):(pieces s).length≤s.size+1:=by rw [mU];have:=Lib.countB_le ⟨#[47]⟩ (by decide) s.size s (aB _);omega
theorem Hz {s z:ByteArray} (h:(pieces s)[(pieces s).length-1]?=some z):Dw s=z:=by unfold Dw;rw [List.getLast?_eq_getElem?,h];rfl
theorem QD {α:Type} {q:α→Bool} {l:List α} (h:∀ j<l.length,∀ x,l[j]?=some x→q x=true):l.all q=true:=by rw [aZ];intro x hx;obtain⟨j,hj⟩:=cb.1 hx;exact h j (az.1 hj).1 x hj
theorem J1 {α:Type} {q:α→Bool} {l:List α} {i:Nat} {x:α} (h:l[i]?=some x) (hq:q x=false):l.all q=false:=by cases ha:l.all q with|false=>rfl|true=>have:=aZ.1 ha x (aE h);rw [hq] at this;cases this
section
attribute [local go_sem] au ak
theorem QE (hG:bB.g=some 0) (s:ByteArray) (hs:s.size≤1048576):Cn 179 [str s] (.eg [num (kl s),num (jX s)]):=by
 refine gy tt_ok [] 49 [.tmp 2,.tmp 3] (fn:=Tryz.f179) Tryz.func179 rfl Tryz.call179 ⟨rfl,rfl,by simp⟩ fun K hK=>?_;have lD:aj.underlying 9=some .string:=kr;have sl:∀ (a:ByteArray) (ty:TypeId),iq aj (Builtin.len_ #[9] ty) [.sc (.string a)]=some (num a.size):=fun a ty=>gi (P:=aj) (tt:=tt) (T:=9) a lD ty;simp only [sl,go_sem];refine dK (⟨_,rfl,Qz hG s (by omega)⟩) ?_;obtain⟨P,hP⟩:∃ P,P=pieces s:=⟨_,rfl⟩;have Tv:=Dx s;have hP1:=mU s;rw [← hP];rw [← hP] at Tv hP1;obtain⟨z,hz⟩:∃ z,P[P.length-1]?=some z:=⟨_,aw (by omega)⟩;have vi:Dw s=z:=Hz (by rw [← hP];exact hz);have jY:IntKind.i64.wrap ((P.length:Int)-1)=((P.length-1:Nat):Int):=ld _ _ (by omega) (by omega);simp only [hz,jY,sl,go_sem];refine dK (JY hG z) ?_;simp only [hz,jY,sl,go_sem];refine ca (fun aed=>?_) (fun aed=>?_)
 ·have jS:dV s=false:=by unfold dV;rw [vi,← hP];simp_all <;> (intros;omega)
  simp only [hz,jY,sl,go_sem];refine hK _ ?_
  first
   | (unfold kl jX;rw [jS];rfl)
   | (unfold kl jX;rw [gV,vi];simp_all;done)
   | (unfold kl jX;rw [gV,vi];simp_all;rfl)
 simp only [hz,jY,sl,go_sem];refine ca (fun aee=>?_) (fun aee=>?_)
 ·have jS:dV s=false:=by unfold dV;rw [vi,← hP];simp_all <;> (intros;omega)
  simp only [hz,jY,sl,go_sem];refine hK _ ?_
  first
   | (unfold kl jX;rw [jS];rfl)
   | (unfold kl jX;rw [gV,vi];simp_all;done)
   | (unfold kl jX;rw [gV,vi];simp_all;rfl)
 simp only [hz,jY,sl,go_sem];refine ca (fun J2=>?_) (fun J2=>?_)
 ·have jS:dV s=false:=by unfold dV;rw [vi,← hP];simp_all <;> (intros;omega)
  simp only [hz,jY,sl,go_sem];refine hK _ ?_
  first
   | (unfold kl jX;rw [jS];rfl)
   | (unfold kl jX;rw [gV,vi];simp_all;done)
   | (unfold kl jX;rw [gV,vi];simp_all;rfl)
 simp only [hz,jY,sl,go_sem];refine eh tt_ok [] [35] 0 [5,32,33,34] (fun vs=>((P.length:Int)-Go.Eng.intOf (vs.headD .undef)).toNat) (fun vs=>∃ i:Nat,vs=[num i]∧i≤P.length∧∀ j<i,∀ x,P[j]?=some x→tO x=true) (by omega) (by simp only [hz,jY,sl,go_sem]) (⟨0,rfl,bj _,fun j hj=>absurd hj (cR j)⟩) fun vs hI Z1 dW=>?_;obtain⟨i,rfl,hi,dN⟩:=hI;simp only [hz,jY,sl,go_sem];refine ca (fun nn=>?_) (fun nn=>?_)
 ·have bL:i<P.length:=by simpa using nn
  have hw:=bm i (by omega);obtain⟨x,hx⟩:∃ x,P[i]?=some x:=⟨_,aw bL⟩;simp only [hz,jY,hw,hx,sl,go_sem];refine dK (je hG x) ?_;simp only [hz,jY,hw,hx,sl,go_sem];refine ca (fun W2=>?_) (fun W2=>?_)
  ·have jS:dV s=false:=by have ha:P.all tO=false:=J1 hx (by unfold tO;simp_all);unfold dV;rw [← hP,ha];simp
   simp only [hz,jY,hw,hx,sl,go_sem];refine hK _ ?_
   first
    | (unfold kl jX;rw [jS];rfl)
    | (unfold kl jX;rw [gV,vi];simp_all;done)
    | (unfold kl jX;rw [gV,vi];simp_all;rfl)
  have xb:dX x=true:=by simpa using W2
  simp only [hz,jY,hw,hx,sl,go_sem];refine dK (Bc 244 CH ad6 x (by have h:=xb;unfold dX at h;simp only [aL,decide_eq_true_eq] at h;omega)) ?_;simp only [hz,jY,hw,hx,sl,go_sem];refine ca (fun ZH=>?_) (fun ZH=>?_)
  ·have jS:dV s=false:=by have ha:P.all tO=false:=J1 hx (by unfold tO;simp_all);unfold dV;rw [← hP,ha];simp
   simp only [hz,jY,hw,hx,sl,go_sem];refine hK _ ?_
   first
    | (unfold kl jX;rw [jS];rfl)
    | (unfold kl jX;rw [gV,vi];simp_all;done)
    | (unfold kl jX;rw [gV,vi];simp_all;rfl)
  simp only [hz,jY,hw,hx,sl,go_sem];refine dW _ (jd (by omega) (by simp only [hz,jY,hw,hx,sl,go_sem]) ?_ ?_) <;> simp only [fY,lk,reduceIte,zE];·refine⟨i+1,rfl,bL,fun j hj=>?_⟩;(rcases bz j i with h|h);(·exact dN j h);(obtain rfl:j=i:=by omega);intro y hy;rw [hx] at hy;cases hy;unfold tO;simp_all
  simp only [Go.Eng.intOf,bh];omega
 have gq:¬ i<P.length:=by simpa using nn
 have gV:dV s=true:=by have ha:P.all tO=true:=QD fun j hj=>dN j (by omega);unfold dV;rw [vi,← hP,ha];simp_all <;> omega
 simp only [hz,jY,sl,go_sem];refine hK _ ?_
 first
  | (unfold kl jX;rw [jS];rfl)
  | (unfold kl jX;rw [gV,vi];simp_all;done)
  | (unfold kl jX;rw [gV,vi];simp_all;rfl)
end
theorem oc (hG:bB.g=some 0) (s:ByteArray) (hs:s.size≤1048576):Cn 90 [str s] (bl (dV s)):=by refine gy tt_ok [] 12 [.tmp 2] (fn:=Tryz.f90) Tryz.func90 rfl Tryz.call90 ⟨rfl,rfl,by simp⟩ fun K hK=>?_;simp only [go_sem];refine dK (QE hG s hs) ?_;simp only [go_sem];exact hK _ (congrArg bl (by unfold jX;by_cases h:dV s=true <;> simp [h]))
end
end Go.Proofs.YtfbbfmcggbapoaaGreatDoor
end
section
namespace Go.Proofs.YtfbbfmcggbapoaaGreatDoor
open Go.Eng
set_option maxHeartbeats 4000000
set_option maxRecDepth 100000
def kwL:List (List UInt8):=[[97,110,100],[97,110,121],[97,115],[98,111,111,108],[100,101,112,114,101,99,97,116,101,100],[101,108,115,101],[101,120,112,111,114,116],[102,97,108,115,101],[102,110],[102,111,108,100],[102,114,111,109],[105,102],[105,109,112,111,114,116],[105,110],[105,110,116],[108,101,110,103,116,104],[108,101,116],[108,105,115,116],[109,97,116,99,104],[109,111,100,117,108,101],[110,111,110,101],[110,111,116],[111,114],[116,101,120,116],[116,104,101,110],[116,114,117,101],[116,121,112,101],[117,115,101]]
def ZI:List ByteArray:=kwL.map fun l=>⟨l.toArray⟩
theorem UX:kwL.all (fun k=>Lib.contains uk.data.toList (32 :: k++[32]))=true:=kr
def tw (l:List UInt8):List UInt8:=l.takeWhile (· != 32)
theorem aeg:(List.range 200).all (fun i=>!((uk.data.toList.drop i).head?==some 32)||((uk.data.toList.drop (i+1)).isEmpty||kwL.contains (tw (uk.data.toList.drop (i+1)))))=true:=kr
theorem ZJ {k r:List UInt8} (h:∀ b∈k,b≠32):tw (k++32 :: r)=k:=by induction k with|nil=>rfl|cons b k ih =>(have hb:(b != 32)=true:=by simpa using h b (cA ..));show List.takeWhile _ (b :: (k++32 :: r))=_;rw [List.takeWhile_cons,hb];simp only [if_true];exact congrArg (b :: ·) (ih fun c hc=>h c (ct _ hc))
theorem UY:Nat.ble uk.data.toList.length 200=true:=kr
theorem UZ (s:ByteArray) (h:ml uR s=true):kwB s=ZI.any fun k=>decide (k=s):=by
 have jS:∀ b∈fS s,b≠32:=fun b hb e=>by have h1:=aZ.1 h b hb;rw [e] at h1;revert h1;decide
 have hd:(⟨#[32]⟩++s++⟨#[32]⟩:ByteArray).data.toList=32 :: fS s++[32]:=by rw [arT,arT];simp [fS]
 have hm:s∈ZI↔fS s∈kwL:=by unfold ZI;rw [eI];refine⟨fun ⟨l,hl,e⟩=>by rw [← e];simpa [fS] using hl,fun h=>⟨_,h,?_⟩⟩;obtain⟨⟨l⟩⟩:=s;rfl
 have T9:(ZI.any fun k=>decide (k=s))=true↔fS s∈kwL:=by rw [tV,← hm];exact⟨fun ⟨k,hk,e⟩=>by rw [← of_decide_eq_true e];exact hk,fun h=>⟨s,h,by simp⟩⟩
 rw [gu,T9];unfold kwB;rw [hd];constructor;·intro hc;unfold Lib.contains at hc;rw [decide_eq_true_eq] at hc;(rcases Lib.index_spec uk.data.toList (32 :: fS s++[32]) with ⟨h1,_⟩|⟨i,h1,h2,h3,_⟩);(·omega);unfold Lib.occAt at h3;rw [List.isPrefixOf_iff_prefix] at h3;obtain⟨r,hr⟩:=h3;(have hi:i<200:=by have hl:=congrArg List.length hr;have:=gF UY;simp only [ab,af,dw] at hl;omega);have h4:=aZ.1 aeg i (al4.2 hi);(have e1:uk.data.toList.drop (i+1)=fS s++32 :: r:=by (have:uk.data.toList.drop (i+1)=(uk.data.toList.drop i).drop 1:=by rw [arE]);rw [this,← hr];simp);rw [← hr,e1,ZJ jS] at h4;simpa using h4
 intro hc;exact aZ.1 UX _ hc
theorem Bh (s:ByteArray):dX s=(decide (1≤s.size)&&decide (s.size≤32)&&Hs (eJ s 0)&&ml uR s && !(ZI.any fun k=>decide (k=s))):=by unfold dX;cases h:ml uR s with|false=>simp|true=>rw [UZ s h]
def lr (o:List ByteArray) (c:UInt8):List ByteArray:=if c=47 then o++[⟨#[]⟩] else o.set (o.length-1) ((o[o.length-1]?).getD ⟨#[]⟩++⟨#[c]⟩)
def lu (l:List UInt8):List ByteArray:=l.foldl lr [⟨#[]⟩]
def wv (cur:List UInt8):List (List UInt8)→List (List UInt8)
 | []=>[cur]
 | h :: t=>(cur++h) :: t
def Nc (l:List UInt8):ByteArray:=⟨l.toArray⟩
theorem CI (r:List UInt8):Lib.split (47 :: r) [47]=[] :: Lib.split r [47]:=by
 have jt:Lib.index (47 :: r) [47]=0:=by rw [Lib.index];simp [List.isPrefixOf]
 unfold Lib.split;rw [Lib.count_cons_eq,Te,Lib.splitK,jt];simp
theorem CJ (b:UInt8) (r:List UInt8) (h:b≠47):Lib.split (b :: r) [47]=wv [b] (Lib.split r [47]):=by
 have hp:([47]:List UInt8).isPrefixOf (b :: r)=false:=by simp [List.isPrefixOf,Ne.symm h]
 have jt:Lib.index (b :: r) [47]=if Lib.index r [47] == -1 then -1 else Lib.index r [47]+1:=by rw [Lib.index,hp];simp
 unfold Lib.split;rw [Lib.count_cons_ne b 47 r h];cases hk:Lib.count r [47] with|zero=>rfl|succ k =>rw [Lib.splitK,Lib.splitK,jt];by_cases hm:Lib.index r [47] = -1;(·rw [hm];rfl);have gq:=Lib.index_ge r [47];obtain⟨j,hj⟩:∃ j:Nat,Lib.index r [47]=j:=⟨(Lib.index r [47]).toNat,by omega⟩;(have h1:((j:Int) == -1)=false:=by rw [beq_eq_false_iff_ne];omega);(have h2:((j:Int)+1 == -1)=false:=by rw [beq_eq_false_iff_ne];omega);(have h3:((j:Int)+1).toNat=j+1:=by omega);rw [hj,h1];simp only [bF,if_false,h2,h3,nK,wv,af,ai,jm];rw [show j+1+(0+1)=(j+(0+1))+1 by omega,zq];rfl
theorem U0 (a b:List UInt8):Nc a++Nc b=Nc (a++b):=by apply arB;rw [arT];simp [Nc]
theorem E7:∀ (l:List UInt8) (pre:List ByteArray) (cur:List UInt8),l.foldl lr (pre++[Nc cur])=pre++(wv cur (Lib.split l [47])).map Nc
 | [],pre,cur=>by
  have:Lib.split [] [47]=[[]]:=rfl
  rw [this];simp [wv]
 | b :: r,pre,cur=>by
  rw [ew]
  by_cases h:b=47
  ·subst h
   have hs:lr (pre++[Nc cur]) 47=(pre++[Nc cur])++[Nc []]:=by simp [lr,Nc]
   rw [hs,E7 r,CI]
   have:wv [] (Lib.split r [47])=Lib.split r [47]:=by
    cases hq:Lib.split r [47] with
    | nil=>exfalso;unfold Lib.split at hq;cases hk:Lib.count r [47] <;> rw [hk] at hq <;> rw [Lib.splitK] at hq <;> first|cases hq|(split at hq <;> cases hq)
    | cons a t=>rfl
   rw [this]
   simp [wv]
  have hs:lr (pre++[Nc cur]) b=pre++[Nc (cur++[b])]:=by
   unfold lr
   rw [if_neg h,ab,aru,abZ]
   rw [a8 (aB _),dR]
   simp only [aJ,arj]
   rw [eH _ _ (aB _),dR,bo]
   exact congrArg (fun z=>pre++[z]) (U0 cur [b])
  rw [hs,E7 r,CJ b r h]
  cases hq:Lib.split r [47] with
  | nil=>simp [wv]
  | cons a t=>simp [wv]
theorem Nd (s:ByteArray):Nc s.data.toList=s:=by obtain⟨⟨l⟩⟩:=s;rfl
theorem sL (s:ByteArray):lu (fS s)=pieces s:=by
 have h:=E7 (fS s) [] [];have h2:wv [] (Lib.split (fS s) [47])=Lib.split (fS s) [47]:=by cases hq:Lib.split (fS s) [47] with|nil=>(exfalso;unfold Lib.split at hq;cases hk:Lib.count (fS s) [47] <;> rw [hk] at hq <;> rw [Lib.splitK] at hq <;> first|cases hq|(split at hq <;> cases hq))|cons a t=>rfl
 rw [h2,aC] at h;have h3:=Lib.splitB_data ⟨#[47]⟩ 0 (Lib.countB s ⟨#[47]⟩) s;have h4:(pieces s).map (fun x=>x.data.toList)=Lib.split (fS s) [47]:=h3;rw [show lu (fS s)=_ from h,← h4,List.map_map];conv=>rhs;rw [← List.map_id (pieces s)]
 exact pT fun x _=>Nd x
theorem wy (l:List UInt8) (c:UInt8):lu (l++[c])=lr (lu l) c:=by unfold lu;rw [acI];rfl
theorem xK (s:ByteArray):sJ s=(decide (1≤s.size)&&decide (eJ s 0=118)):=by obtain⟨⟨l⟩⟩:=s;cases l with|nil=>rfl|cons b l =>have hb:eJ ⟨⟨b :: l⟩⟩ 0=(b.toNat:Int):=rfl;have hs:(⟨⟨b :: l⟩⟩:ByteArray).size=l.length+1:=rfl;rw [hb,hs];show ((118:UInt8)==b&&([]:List UInt8).isPrefixOf l)=_;simp only [List.isPrefixOf_nil_left,aO];rw [gu];simp only [beq_iff_eq,aL,decide_eq_true_eq];constructor;(·rintro rfl;exact⟨by omega,rfl⟩);rintro⟨-,h⟩;apply ar7.1;(have:b.toNat=118:=by omega);rw [this];rfl
theorem uT {s:ByteArray} (h:sJ s=true) (k:Nat):(mL s)[k]?=s[k+1]?:=by
 have hd:(mL s).data.toList=s.data.toList.drop 1:=by show Lib.trimPrefix s.data.toList [118]=_;unfold Lib.trimPrefix;rw [if_pos (show Lib.hasPrefix s.data.toList [118]=true from h)];rfl
 have g:∀ (t:ByteArray) (j:Nat),t[j]?=t.data.toList[j]?:=fun t j=>by obtain⟨⟨l⟩⟩:=t;by_cases hj:j<l.length;(·rw [getElem?_pos (⟨⟨l⟩⟩:ByteArray) j (by exact hj)];show some _=l[j]?;rw [aw hj];rfl);rw [getElem?_neg (⟨⟨l⟩⟩:ByteArray) j (by exact hj)];show none=l[j]?;rw [ec (by omega)]
 rw [g,g,hd,arM,Te]
theorem sM {s:ByteArray} (h:sJ s=true):(mL s).size=s.size-1:=by
 have hd:(mL s).data.toList=s.data.toList.drop 1:=by show Lib.trimPrefix s.data.toList [118]=_;unfold Lib.trimPrefix;rw [if_pos (show Lib.hasPrefix s.data.toList [118]=true from h)];rfl
 rw [Lib.size_eq,hd,dw,← Lib.size_eq]
theorem Nf {s:ByteArray} (h:sJ s=true) (k:Nat):eJ (mL s) k=eJ s (k+1):=by unfold eJ;rw [uT h]
def y7 (s:ByteArray):Bool:=!(decide (s.size<2)||decide (4<s.size) || !decide (eJ s 0=118)||(decide (eJ s 1=48)&&decide (2<s.size)))
theorem oC (s:ByteArray):ga s=(y7 s&&ml kQ (mL s)):=by unfold ga y7;cases hv:sJ s with|false =>rw [xK] at hv;by_cases h1:s.size<2 <;> simp_all <;> (intros;omega)|true =>have h1:=sM hv;have h2:=Nf hv 0;rw [xK] at hv;simp only [aL,decide_eq_true_eq] at hv;unfold sK;rw [h1,h2];cases ml kQ (mL s);(·simp);rw [gu];simp [hv.2];omega
end Go.Proofs.YtfbbfmcggbapoaaGreatDoor
end
section
namespace Go.Proofs.YtfbbfmcggbapoaaGreatDoor
open Go.Eng
variable [bB]
open Nat renaming reduceAdd → zA, reduceLT → zB, reduceLeDiff → zC, reduceMul → zD, reduceEqDiff → zE, reduceSub → zF
set_option maxHeartbeats 4000000
set_option maxRecDepth 100000
section
theorem E8  : Cn 159 [] (.slice (ZI.map str)):=by refine gy tt_ok [] 2 [.tmp 0] (fn:=Tryz.f159) Tryz.func159 rfl Tryz.call159 ⟨rfl,rfl,by simp⟩ fun K hK=>?_;simp only [go_sem];exact hK _ rfl
section
attribute [local go_sem] au
theorem Bi (l:List ByteArray) (s:ByteArray) (hl:l.length≤1048576):Cn 158 [.slice (l.map str),str s] (bl (l.any fun k=>decide (k=s))):=by
 refine gy tt_ok [] 18 [.tmp 4] (fn:=Tryz.f158) Tryz.func158 rfl Tryz.call158 ⟨rfl,rfl,by simp⟩ fun K hK=>?_;simp only [go_sem];refine eh tt_ok [] [5] 0 [0,1] (fun vs=>((l.length:Int)-Go.Eng.intOf (vs.headD .undef)).toNat) (fun vs=>∃ i:Nat,vs=[num i]∧i≤l.length∧∀ j<i,∀ x,l[j]?=some x→decide (x=s)=false) (by omega) (by simp only [go_sem]) (⟨0,rfl,bj _,fun j hj=>absurd hj (cR j)⟩) fun vs hI Z1 dW=>?_;obtain⟨i,rfl,hi,dN⟩:=hI;simp only [go_sem];refine ca (fun iI=>?_) (fun iI=>?_);·(have bL:i<l.length:=by simpa using iI);have hw:=bm i (by omega);obtain⟨x,hx⟩:∃ x,l[i]?=some x:=⟨_,aw bL⟩;simp only [hw,ak,hx,go_sem];refine ca (fun nD=>?_) (fun nD=>?_);(·have cg:true=l.any fun k=>decide (k=s):=(lF hx (by simpa [dh] using nD)).symm;simp only [hw,ak,hx,go_sem];exact hK _ (congrArg bl cg));simp only [hw,ak,hx,go_sem];refine dW _ (jd (by omega) (by simp only [hw,ak,hx,go_sem]) ?_ ?_) <;> simp only [fY,lk,reduceIte,zE];(·refine⟨i+1,rfl,bL,fun j hj=>?_⟩;(rcases bz j i with h|h);(·exact dN j h);(obtain rfl:j=i:=by omega);intro y hy;rw [hx] at hy;cases hy;simpa [dh] using nD);simp only [Go.Eng.intOf,bh];omega
 have gq:¬ i<l.length:=by simpa using iI
 have cg:false=l.any fun k=>decide (k=s):=(any_none fun j hj=>dN j (by omega)).symm;simp only [go_sem];exact hK _ (congrArg bl cg)
end
theorem mM (s:ByteArray):Cn 160 [str s] (bl (dX s)):=by
 refine gy tt_ok [] 26 [.tmp 2] (fn:=Tryz.f160) Tryz.func160 rfl Tryz.call160 ⟨rfl,rfl,by simp⟩ fun K hK=>?_;have lD:aj.underlying 9=some .string:=kr;have sl:∀ (a:ByteArray) (ty:TypeId),iq aj (Builtin.len_ #[9] ty) [.sc (.string a)]=some (num a.size):=fun a ty=>gi (P:=aj) (tt:=tt) (T:=9) a lD ty;simp only [sl,go_sem];refine ca (fun nO=>?_) (fun nO=>?_) <;> simp only [sl,go_sem];·refine ca (fun ql=>?_) (fun ql=>?_);(·obtain⟨v0,kj⟩:=eC (s:=s) (i:=0) (by have:=of_decide_eq_true nO;omega);have dD:=eR (P:=aj) s lD .i64 (0:Int) (by omega) (c:=v0) (show s[((0:Nat):Int).toNat]?=some v0 from kj);have lg:eJ s 0=v0.toNat:=eQ kj;simp only [dD,sl,go_sem];refine dK (xI _) ?_;repeat' (simp only [dD,sl,go_sem];first|refine ca (fun hg=>?_) (fun hg=>?_)|refine dK (Ht s (by have:=of_decide_eq_true ql;omega)) ?_|refine dK (E8) ?_|refine dK (Bi ZI s (by decide)) ?_|(exact hK _ (congrArg bl (by rw [Bh];simp_all <;> (intros;omega))))));simp only [sl,go_sem];exact hK _ (congrArg bl (by rw [Bh];simp_all <;> (intros;omega)))
 exact hK _ (congrArg bl (by rw [Bh];simp_all <;> (intros;omega)))
theorem HA (s:ByteArray) (hs:s.size≤1048576):Cn 230 [str s] (bl (tO s)):=by
 refine gy tt_ok [] 24 [.tmp 2] (fn:=Tryz.f230) Tryz.func230 rfl Tryz.call230 ⟨rfl,rfl,by simp⟩ fun K hK=>?_;have lD:aj.underlying 9=some .string:=kr;have sl:∀ (a:ByteArray) (ty:TypeId),iq aj (Builtin.len_ #[9] ty) [.sc (.string a)]=some (num a.size):=fun a ty=>gi (P:=aj) (tt:=tt) (T:=9) a lD ty;simp only [sl,go_sem];refine eh tt_ok [] [3] 0 [0] (fun vs=>((s.size:Int)-Go.Eng.intOf (vs.headD .undef)).toNat) (fun vs=>∃ i:Nat,vs=[num i]∧i≤s.size∧∀ j<i,∀ b,s[j]?=some b→CH b.toNat=true) (by omega) (by simp only [sl,go_sem]) (⟨0,rfl,bj _,fun j hj=>absurd hj (cR j)⟩) fun vs hI Z1 dW=>?_;obtain⟨i,rfl,hi,jS⟩:=hI;simp only [sl,go_sem];refine ca (fun yK=>?_) (fun yK=>?_);·(have bL:i<s.size:=by simpa using yK);have hw:=bm i (by omega);obtain⟨c,vh⟩:=eC (s:=s) (i:=i) bL;have jt:=eR (P:=aj) s lD .i64 (i:Int) (by omega) (c:=c) (show s[((i:Nat):Int).toNat]?=some c from vh);simp only [hw,jt,sl,go_sem];refine dK (xI _) ?_;simp only [hw,jt,sl,go_sem];refine ca (fun aeh=>?_) (fun aeh=>?_) <;> simp only [hw,jt,sl,go_sem];(·refine dK (tu _) ?_;simp only [hw,jt,sl,go_sem];refine ca (fun QF=>?_) (fun QF=>?_);(·(have cg:false=tO s:=by unfold tO;rw [oB (p:=CH) vh (by unfold CH;simp_all),aT]);simp only [hw,jt,sl,go_sem];exact hK _ (congrArg bl cg));simp only [hw,jt,sl,go_sem];refine dW _ (jd (by omega) (by simp only [hw,jt,sl,go_sem]) ?_ ?_) <;> simp only [fY,lk,reduceIte,zE];(·refine⟨i+1,rfl,bL,fun j hj b hb=>?_⟩;(rcases bz j i with h|h);(·exact jS j h b hb);(obtain rfl:j=i:=by omega);rw [vh] at hb;cases hb;unfold CH;simp_all);simp only [Go.Eng.intOf,bh];omega);refine dW _ (jd (by omega) (by simp only [hw,jt,sl,go_sem]) ?_ ?_) <;> simp only [fY,lk,reduceIte,zE];(·refine⟨i+1,rfl,bL,fun j hj b hb=>?_⟩;(rcases bz j i with h|h);(·exact jS j h b hb);(obtain rfl:j=i:=by omega);rw [vh] at hb;cases hb;unfold CH;simp_all);simp only [Go.Eng.intOf,bh];omega
 have gq:¬ i<s.size:=by simpa using yK
 have dN:ml CH s=true:=qj fun j hj b hb=>jS j (by omega) b hb;have cg:dX s=tO s:=by unfold tO;rw [dN,aO]
 simp only [sl,go_sem];refine dK (mM s) ?_;simp only [sl,go_sem];exact hK _ (congrArg bl cg)
end
theorem HB (t:ByteArray):∀ k,(∀ j<k,kQ (eJ t j)=true)→0≤jj t k∧jj t k<10 ^ k
 | 0,_=>⟨cf _,by simp [jj]⟩
 | k+1,h=>by
  obtain⟨h1,h2⟩:=HB t k fun j hj=>h j (by omega)
  have h3:=h k (by omega)
  unfold kQ at h3
  simp only [aL,decide_eq_true_eq] at h3
  rw [jj,Int.pow_succ]
  omega
theorem Dy {t:ByteArray} {k:Nat} (hk:k≤3) (h:∀ j<k,kQ (eJ t j)=true):0≤jj t k∧jj t k<1000:=by
 obtain⟨h1,h2⟩:=HB t k h;refine⟨h1,asl h2 ?_⟩;have:k=0∨k=1∨k=2∨k=3:=by omega
 rcases this with rfl|rfl|rfl|rfl <;> decide
theorem J3 {s:ByteArray} (h:y7 s=true):sJ s=true∧2≤s.size∧s.size≤4:=by unfold y7 at h;rw [xK];by_cases h1:s.size<2 <;> by_cases h2:4<s.size <;> simp_all <;> omega
theorem QG {o:List ByteArray} {z:ByteArray} {c:UInt8} (h:o[o.length-1]?=some z) (hc:c≠47):lr o c=o.set (o.length-1) (z++⟨#[c]⟩):=by unfold lr;rw [if_neg hc,h];rfl
theorem Dz {s:ByteArray} {i:Nat} {c:UInt8} (h:s[i]?=some c):(fS s).take (i+1)=(fS s).take i++[c]:=by unfold fS;rw [bY,wo h];rfl
theorem HC (s:ByteArray):Cn 231 [str s] (num (if ga s=true then oR s else -1)):=by
 refine gy tt_ok [] 48 [.tmp 2] (fn:=Tryz.f231) Tryz.func231 rfl Tryz.call231 ⟨rfl,rfl,by simp⟩ fun K hK=>?_;have lD:aj.underlying 9=some .string:=kr;have sl:∀ (a:ByteArray) (ty:TypeId),iq aj (Builtin.len_ #[9] ty) [.sc (.string a)]=some (num a.size):=fun a ty=>gi (P:=aj) (tt:=tt) (T:=9) a lD ty;have hT5:aj.underlying 5=some (.int .u8):=kr;have hT3:aj.underlying 3=some (.int .i64):=kr;have cv:=fun (k:IntKind) (n:Int)=>Ld (P:=aj) (src:=5) (dst:=3) hT5 hT3 k n;simp only [sl,cv,go_sem];refine ca (fun nO=>?_) (fun nO=>?_);·(have jS:ga s=false:=by rw [oC];unfold y7;simp_all <;> (intros;omega));(have cg : -1=if ga s=true then oR s else -1:=by rw [jS];rfl);simp only [sl,cv,go_sem];exact hK _ (congrArg num cg)
 simp only [sl,cv,go_sem];refine ca (fun ql=>?_) (fun ql=>?_);·(have jS:ga s=false:=by rw [oC];unfold y7;simp_all <;> (intros;omega));(have cg : -1=if ga s=true then oR s else -1:=by rw [jS];rfl);simp only [sl,cv,go_sem];exact hK _ (congrArg num cg)
 have rH:2≤s.size:=by simp_all <;> omega
 obtain⟨v0,kj⟩:=eC (s:=s) (i:=0) (by omega);have dD:=eR (P:=aj) s lD .i64 (0:Int) (by omega) (c:=v0) (show s[((0:Nat):Int).toNat]?=some v0 from kj);have lg:eJ s 0=v0.toNat:=eQ kj;simp only [dD,sl,cv,go_sem];refine ca (fun qZ=>?_) (fun qZ=>?_);·(have jS:ga s=false:=by rw [oC];unfold y7;simp_all <;> (intros;omega));(have cg : -1=if ga s=true then oR s else -1:=by rw [jS];rfl);simp only [dD,sl,cv,go_sem];exact hK _ (congrArg num cg)
 obtain⟨v1,yM⟩:=eC (s:=s) (i:=1) (by omega);have jM:=eR (P:=aj) s lD .i64 (1:Int) (by omega) (c:=v1) (show s[((1:Nat):Int).toNat]?=some v1 from yM);have nN:eJ s 1=v1.toNat:=eQ yM;simp only [dD,jM,sl,cv,go_sem];refine ca (fun ZK=>?_) (fun ZK=>?_);·simp only [dD,jM,sl,cv,go_sem];refine ca (fun oD=>?_) (fun oD=>?_);(·(have jS:ga s=false:=by rw [oC];unfold y7;simp_all <;> (intros;omega));(have cg : -1=if ga s=true then oR s else -1:=by rw [jS];rfl);simp only [dD,jM,sl,cv,go_sem];exact hK _ (congrArg num cg));(have hvh:y7 s=true:=by unfold y7;simp_all <;> (intros;omega));obtain⟨hv,rH,hs4⟩:=J3 hvh;obtain⟨t,ht⟩:∃ t,t=mL s:=⟨_,rfl⟩;(have htz:t.size=s.size-1:=by rw [ht];exact sM hv);(have IT:ga s=ml kQ t:=by rw [oC,hvh,ht];rfl);simp only [dD,jM,sl,cv,go_sem];refine eh tt_ok [] [4,3] 0 [0,27] (fun vs=>((s.size:Int)-Go.Eng.intOf (vs.headD .undef)).toNat) (fun vs=>∃ i:Nat,vs=[num i,num (jj t (i-1))]∧1≤i∧i≤s.size∧∀ j<i-1,kQ (eJ t j)=true) (by omega) (by simp only [dD,jM,sl,cv,go_sem]) (⟨1,rfl,aB _,by omega,fun j hj=>absurd hj (cR j)⟩) fun vs hI Z1 dW=>?_;obtain⟨i,rfl,ud,hi,jS⟩:=hI;simp only [dD,jM,sl,cv,go_sem];refine ca (fun pK=>?_) (fun pK=>?_);(·(have bL:i<s.size:=by simpa using pK);have hw:=bm i (by omega);obtain⟨c,vh⟩:=eC (s:=s) (i:=i) bL;have jt:=eR (P:=aj) s lD .i64 (i:Int) (by omega) (c:=c) (show s[((i:Nat):Int).toNat]?=some c from vh);(have hct:t[i-1]?=some c:=by rw [ht,uT hv,asm ud];exact vh);have hbt:eJ t (i-1)=c.toNat:=eQ hct;simp only [dD,jM,hw,jt,sl,cv,go_sem];refine dK (tu _) ?_;simp only [dD,jM,hw,jt,sl,cv,go_sem];refine ca (fun tP=>?_) (fun tP=>?_);(·(have hdf:kQ (c.toNat:Int)=false:=by simpa using tP);(have JS:ga s=false:=by rw [IT];exact oB hct hdf);(have cg : -1=if ga s=true then oR s else -1:=by rw [JS];rfl);simp only [dD,jM,hw,jt,sl,cv,go_sem];exact hK _ (congrArg num cg));(have UW:kQ (c.toNat:Int)=true:=by simpa using tP);have QH:=UW;unfold kQ at QH;simp only [aL,decide_eq_true_eq] at QH;obtain⟨hd0,TX⟩:=Dy (t:=t) (k:=i-1) (by omega) jS;(have hu:IntKind.u8.wrap ((c.toNat:Int)-48)=(c.toNat:Int)-48:=by have h:=c.toNat_lt;simp only [IntKind.wrap,IntKind.bits,IntKind.signed];simp;omega);have Bf:IntKind.i64.wrap ((c.toNat:Int)-48)=(c.toNat:Int)-48:=IntWalk.i64_in _ (by omega);have Bg:IntKind.i64.wrap (10*jj t (i-1))=10*jj t (i-1):=IntWalk.i64_in _ (by omega);(have um:IntKind.i64.wrap (10*jj t (i-1)+((c.toNat:Int)-48))=jj t i:=by (conv=>rhs;rw [show i=i-1+1 by omega,jj,hbt]);exact IntWalk.i64_in _ (by omega));simp only [dD,jM,hw,jt,hu,Bf,Bg,um,sl,cv,go_sem];refine dW _ (jd (by omega) (by simp only [dD,jM,hw,jt,hu,Bf,Bg,um,sl,cv,go_sem]) ?_ ?_) <;> simp only [fY,lk,reduceIte,zE];(·refine⟨i+1,by rw [abZ],by omega,bL,fun j hj=>?_⟩;rw [abZ] at hj;(rcases bz j (i-1) with h|h);(·exact jS j h);(obtain rfl:j=i-1:=by omega);rw [hbt];simpa using tP);simp only [Go.Eng.intOf,bh];omega);have gq:i=s.size:=art hi (ahj (by simpa using pK));(have UU:ml kQ t=true:=qj fun j hj b hb=>by have h:=jS j (by omega);rwa [eQ hb] at h);(have cg:jj t (i-1)=if ga s=true then oR s else -1:=by rw [IT,UU,if_pos rfl];unfold oR;rw [← ht,htz,gq]);simp only [dD,jM,sl,cv,go_sem];exact hK _ (congrArg num cg)
 have hvh:y7 s=true:=by unfold y7;simp_all <;> (intros;omega)
 obtain⟨hv,rH,hs4⟩:=J3 hvh;obtain⟨t,ht⟩:∃ t,t=mL s:=⟨_,rfl⟩;have htz:t.size=s.size-1:=by rw [ht];exact sM hv
 have IT:ga s=ml kQ t:=by rw [oC,hvh,ht];rfl
 simp only [dD,jM,sl,cv,go_sem];refine eh tt_ok [] [4,3] 0 [0,27] (fun vs=>((s.size:Int)-Go.Eng.intOf (vs.headD .undef)).toNat) (fun vs=>∃ i:Nat,vs=[num i,num (jj t (i-1))]∧1≤i∧i≤s.size∧∀ j<i-1,kQ (eJ t j)=true) (by omega) (by simp only [dD,jM,sl,cv,go_sem]) (⟨1,rfl,aB _,by omega,fun j hj=>absurd hj (cR j)⟩) fun vs hI Z2 pP=>?_;obtain⟨i,rfl,ud,hi,jS⟩:=hI;simp only [dD,jM,sl,cv,go_sem];refine ca (fun pK=>?_) (fun pK=>?_);·(have bL:i<s.size:=by simpa using pK);have hw:=bm i (by omega);obtain⟨c,vh⟩:=eC (s:=s) (i:=i) bL;have jt:=eR (P:=aj) s lD .i64 (i:Int) (by omega) (c:=c) (show s[((i:Nat):Int).toNat]?=some c from vh);(have hct:t[i-1]?=some c:=by rw [ht,uT hv,asm ud];exact vh);have hbt:eJ t (i-1)=c.toNat:=eQ hct;simp only [dD,jM,hw,jt,sl,cv,go_sem];refine dK (tu _) ?_;simp only [dD,jM,hw,jt,sl,cv,go_sem];refine ca (fun tP=>?_) (fun tP=>?_);(·(have hdf:kQ (c.toNat:Int)=false:=by simpa using tP);(have JS:ga s=false:=by rw [IT];exact oB hct hdf);(have cg : -1=if ga s=true then oR s else -1:=by rw [JS];rfl);simp only [dD,jM,hw,jt,sl,cv,go_sem];exact hK _ (congrArg num cg));(have UW:kQ (c.toNat:Int)=true:=by simpa using tP);have QH:=UW;unfold kQ at QH;simp only [aL,decide_eq_true_eq] at QH;obtain⟨hd0,TX⟩:=Dy (t:=t) (k:=i-1) (by omega) jS;(have hu:IntKind.u8.wrap ((c.toNat:Int)-48)=(c.toNat:Int)-48:=by have h:=c.toNat_lt;simp only [IntKind.wrap,IntKind.bits,IntKind.signed];simp;omega);have Bf:IntKind.i64.wrap ((c.toNat:Int)-48)=(c.toNat:Int)-48:=IntWalk.i64_in _ (by omega);have Bg:IntKind.i64.wrap (10*jj t (i-1))=10*jj t (i-1):=IntWalk.i64_in _ (by omega);(have um:IntKind.i64.wrap (10*jj t (i-1)+((c.toNat:Int)-48))=jj t i:=by (conv=>rhs;rw [show i=i-1+1 by omega,jj,hbt]);exact IntWalk.i64_in _ (by omega));simp only [dD,jM,hw,jt,hu,Bf,Bg,um,sl,cv,go_sem];refine pP _ (jd (by omega) (by simp only [dD,jM,hw,jt,hu,Bf,Bg,um,sl,cv,go_sem]) ?_ ?_) <;> simp only [fY,lk,reduceIte,zE];(·refine⟨i+1,by rw [abZ],by omega,bL,fun j hj=>?_⟩;rw [abZ] at hj;(rcases bz j (i-1) with h|h);(·exact jS j h);(obtain rfl:j=i-1:=by omega);rw [hbt];simpa using tP);simp only [Go.Eng.intOf,bh];omega
 have gq:i=s.size:=art hi (ahj (by simpa using pK));have UU:ml kQ t=true:=qj fun j hj b hb=>by have h:=jS j (by omega);rwa [eQ hb] at h
 have cg:jj t (i-1)=if ga s=true then oR s else -1:=by rw [IT,UU,if_pos rfl];unfold oR;rw [← ht,htz,gq]
 simp only [dD,jM,sl,cv,go_sem];exact hK _ (congrArg num cg)
section
theorem U1 (c:UInt8):strOfNums [(c.toNat:Int)]=⟨#[c]⟩:=by unfold strOfNums;simp
theorem Ng {s:ByteArray} {i:Nat} {c:UInt8} {xs:List ByteArray} {y:ByteArray} (hc:s[i]?=some c) (hx:lu ((fS s).take i)=xs++[y]) (h:(c.toNat:Int)=47):lu ((fS s).take (i+1))=(xs++[y])++[⟨#[]⟩]:=by have e:c=47:=ar7.1 (by rw [show (47:UInt8).toNat=47 from rfl];omega);rw [Dz hc,wy,hx,e];rfl
theorem QI {s:ByteArray} {i:Nat} {c:UInt8} {xs:List ByteArray} {y:ByteArray} (hc:s[i]?=some c) (hx:lu ((fS s).take i)=xs++[y]) (h:¬ (c.toNat:Int)=47):lu ((fS s).take (i+1))=xs++[y++⟨#[c]⟩]:=by have e:c≠47:=fun e=>h (by rw [e];rfl);rw [Dz hc,wy,hx,QG (z:=y) (by simp) e];simp
theorem J4 (s:ByteArray):0<(pieces s).length:=by rw [mU];omega
theorem J5 {s z:ByteArray} (h:z∈pieces s):z.size≤s.size:=by
 have key:∀ (l:List UInt8) (o:List ByteArray) (n:Nat),(∀ x∈o,x.size≤n)→∀ x∈l.foldl lr o,x.size≤n+l.length:=by intro l;induction l with|nil=>intro o n h x hx;simpa using h x hx|cons b l ih =>intro o n h x hx;rw [ew] at hx;have:=ih (lr o b) (n+1) (fun y hy=>by unfold lr at hy;split at hy;(·(rcases ib.1 hy with hy|hy);(·exact asd (h y hy));rw [dq.1 hy];exact bj _);(rcases asz hy with hy|hy);(·exact asd (h y hy));rw [hy,ars];have hs:(⟨#[b]⟩:ByteArray).size=1:=rfl;(have:((o[o.length-1]?).getD ⟨#[]⟩).size≤n:=by cases hq:o[o.length-1]? with|none=>exact bj _|some q=>exact h q (aE hq));omega) x hx;rw [af];omega
 rw [← sL] at h;have:=key (fS s) [⟨#[]⟩] 0 (fun x hx=>by rw [dq.1 hx];exact bj _) z h;rw [cr] at this;exact this
theorem LH {z:ByteArray} (h:ga z=true):0≤oR z:=by rw [oC] at h;simp only [aL] at h;obtain⟨-,-,h4⟩:=J3 h.1;exact (uS h.2 _ (aB _)).1
theorem QJ (s:ByteArray) (hs:s.size≤1048576):Cn 229 [str s] (.slice ((pieces s).map str)):=by
 refine gy tt_ok [] 37 [.tmp 2] (fn:=Tryz.f229) Tryz.func229 rfl Tryz.call229 ⟨rfl,rfl,by simp⟩ fun K hK=>?_;have lD:aj.underlying 9=some .string:=kr;have sl:∀ (a:ByteArray) (ty:TypeId),iq aj (Builtin.len_ #[9] ty) [.sc (.string a)]=some (num a.size):=fun a ty=>gi (P:=aj) (tt:=tt) (T:=9) a lD ty;have Tw:=fun (n:Int)=>F7 (P:=aj) (mem:=[]) (s:=125) (d:=9) (e:=5) (rows:=[.sc (.int .u8 n)]) (ns:=[n]) kr kr lD rfl;have Bj:∀ c:Int,(strOfNums [c]).size=1:=fun c=>rfl;simp only [sl,Tw,go_sem];refine mv tt_ok [] (fun a:Nat×Nat×List ByteArray×ByteArray=>[(0,str s),(3,.ms 0 a.2.1 0 (a.2.1+1)),(4,num a.1)]) (fun a:Nat×Nat×List ByteArray×ByteArray=>[.rows a.2.1 1 ((a.2.2.1++[a.2.2.2]).map str)]) (fun a=>s.size-a.1) (fun a=>a.1≤s.size∧a.2.2.1.length=a.2.1∧a.2.1≤a.1∧a.2.2.2.size≤a.1∧(∀ x∈a.2.2.1,x.size≤s.size)∧lu ((fS s).take a.1)=a.2.2.1++[a.2.2.2]) ((0,0,[],⟨#[]⟩)) 1 (eK (by omega) (by simp only [sl,Tw,bT,jo,aC,dC,go_sem] <;> rfl)) (⟨bj _,rfl,aB _,aB _,(fun x hx=>by cases hx),rfl⟩) ?_;rintro⟨i,k,xs,y⟩ ⟨hi,Gh,hki,hyi,dN,U2⟩;try dsimp only at hi Gh hki hyi dN U2
 try dsimp only
 intro Z1 dW;simp only [sl,Tw,go_sem];refine ca (fun iI=>?_) (fun iI=>?_);·(have bL:i<s.size:=by simpa using iI);have hw:=bm i (by omega);obtain⟨c,vh⟩:=eC (s:=s) (i:=i) bL;have jt:=eR (P:=aj) s lD .i64 (i:Int) (by omega) (c:=c) (show s[((i:Nat):Int).toNat]?=some c from vh);have jY:IntKind.i64.wrap (((k+1:Nat):Int)-1)=((k:Nat):Int):=ld _ k (by omega) (by omega);(have iw:((k:Nat):Int)<((k+1:Nat):Int):=by omega);(have hgy:(xs++[y])[k]?=some y:=by rw [a8 (by omega),Gh,dR];rfl);(have uo:k+1+1≤34359738368:=by omega);have hsa:=fun a b=>Ez aj 9 a b y (strOfNums [(c.toNat:Int)]) (by rw [Bj,show IntKind.i64.max=9223372036854775807 from rfl];omega);simp only [hw,jt,jY,iw,uo,Gh,ak,hgy,hsa,au,ab,af,ai,cr,sl,Tw,go_sem];refine ca (fun kR=>?_) (fun kR=>?_);(·let nv:Nat×Nat×List ByteArray×ByteArray:=(i+1,k+1,xs++[y],⟨#[]⟩);(have QK:∀ x∈nv.2.2.1,x.size≤s.size:=fun x hx=>by (rcases ib.1 hx with h|h);(·exact dN x h);rw [dq.1 h];omega);have QL:lu ((fS s).take nv.1)=nv.2.2.1++[nv.2.2.2]:=Ng vh U2 (by simpa using kR);simp only [hw,jt,jY,iw,uo,Gh,ak,hgy,hsa,au,ab,af,ai,cr,sl,Tw,go_sem];refine dW _ ⟨nv,?_,?_,eK (by omega) (by (simp [nv,FY,lk,wi,zN,aG,aK,pM];first|done|(rw [eH _ _ (by rw [au];omega),au,Gh,dR];rfl)))⟩;(·refine⟨bL,?_,?_,?_,?_⟩;(·dsimp only [nv];first|exact Gh|(rw [ab,Gh];rfl));(·dsimp only [nv];omega);(·dsimp only [nv];first|exact bj _|(rw [ars,Bj];omega));exact⟨QK,QL⟩);dsimp only [nv];omega);let nv:Nat×Nat×List ByteArray×ByteArray:=(i+1,k,xs,y++strOfNums [(c.toNat:Int)]);have QK:∀ x∈nv.2.2.1,x.size≤s.size:=dN;(have QL:lu ((fS s).take nv.1)=nv.2.2.1++[nv.2.2.2]:=by show _=xs++[y++strOfNums [(c.toNat:Int)]];rw [U1];exact QI vh U2 (by simpa using kR));simp only [hw,jt,jY,iw,uo,Gh,ak,hgy,hsa,au,ab,af,ai,cr,sl,Tw,go_sem];refine fL tt_ok cu [pN,pN,pN,pN,pN,pN,pN,pN,pR,pR,pN,pN,pN,pN,pN,pN,pR,⟨.w,0,[],[],[]⟩] 1 kr ?_;simp only [hw,jt,jY,iw,uo,Gh,ak,hgy,hsa,au,ab,af,ai,cr,sl,Tw,go_sem];refine dW _ ⟨nv,?_,?_,eK (by omega) (by (simp [nv,FY,lk,wi,zN,aG,aK,pM];first|done|(rw [eH _ _ (by rw [au];omega),au,Gh,dR];rfl)))⟩;(·refine⟨bL,?_,?_,?_,?_⟩;(·dsimp only [nv];first|exact Gh|(rw [ab,Gh];rfl));(·dsimp only [nv];omega);(·dsimp only [nv];first|exact bj _|(rw [ars,Bj];omega));exact⟨QK,QL⟩);dsimp only [nv];omega
 have gq:¬ i<s.size:=by simpa using iI
 have oE:pieces s=xs++[y]:=by rw [← sL,← U2,bR];exact ahj gq
 simp only [sl,Tw,go_sem];exact Qn (by simp [Gh]) (hK _ (by rw [oE]))
section
attribute [local go_sem] au ak
theorem Nh (s:ByteArray) (hs:s.size≤1048576):Cn 165 [str s] (.eg [num (kl s),num (jX s)]):=by
 refine gy tt_ok [] 39 [.tmp 2,.tmp 3] (fn:=Tryz.f165) Tryz.func165 rfl Tryz.call165 ⟨rfl,rfl,by simp⟩ fun K hK=>?_;have lD:aj.underlying 9=some .string:=kr;have sl:∀ (a:ByteArray) (ty:TypeId),iq aj (Builtin.len_ #[9] ty) [.sc (.string a)]=some (num a.size):=fun a ty=>gi (P:=aj) (tt:=tt) (T:=9) a lD ty;simp only [sl,go_sem];refine ca (fun iI=>?_) (fun iI=>?_)
 ·have jS:dV s=false:=by unfold dV;simp_all <;> (intros;omega)
  simp only [sl,go_sem];refine hK _ ?_
  first
   | (unfold kl jX;rw [jS];rfl)
   | (unfold kl jX;rw [gV,vi];simp_all;done)
   | (unfold kl jX;rw [gV,vi];simp_all;rfl)
 simp only [sl,go_sem];refine dK (QJ s (by omega)) ?_;obtain⟨P,hP⟩:∃ P,P=pieces s:=⟨_,rfl⟩;have Tv:=Dx s;have hP1:=J4 s;have hPz:∀ x∈P,x.size≤s.size:=fun x hx=>J5 (hP ▸ hx);rw [← hP];rw [← hP] at Tv hP1;obtain⟨z,hz⟩:∃ z,P[P.length-1]?=some z:=⟨_,aw (by omega)⟩;have vi:Dw s=z:=Hz (by rw [← hP];exact hz);have jY:IntKind.i64.wrap ((P.length:Int)-1)=((P.length-1:Nat):Int):=ld _ _ (by omega) (by omega);simp only [hz,jY,sl,go_sem];refine eh tt_ok [] [5] 0 [4,9] (fun vs=>((P.length:Int)-Go.Eng.intOf (vs.headD .undef)).toNat) (fun vs=>∃ i:Nat,vs=[num i]∧i≤P.length∧∀ j<i,∀ x,P[j]?=some x→tO x=true) (by omega) (by simp only [hz,jY,sl,go_sem]) (⟨0,rfl,bj _,fun j hj=>absurd hj (cR j)⟩) fun vs hI Z1 dW=>?_;obtain⟨i,rfl,hi,dN⟩:=hI;simp only [hz,jY,sl,go_sem];refine ca (fun kR=>?_) (fun kR=>?_)
 ·have bL:i<P.length:=by simpa using kR
  have hw:=bm i (by omega);obtain⟨x,hx⟩:∃ x,P[i]?=some x:=⟨_,aw bL⟩;simp only [hz,jY,hw,hx,sl,go_sem];refine dK (HA x (by have:=hPz x (aE hx);omega)) ?_;simp only [hz,jY,hw,hx,sl,go_sem];refine ca (fun E9=>?_) (fun E9=>?_)
  ·have jS:dV s=false:=by have ha:P.all tO=false:=J1 hx (by simpa using E9);unfold dV;rw [← hP,ha];simp
   simp only [hz,jY,hw,hx,sl,go_sem];refine hK _ ?_
   first
    | (unfold kl jX;rw [jS];rfl)
    | (unfold kl jX;rw [gV,vi];simp_all;done)
    | (unfold kl jX;rw [gV,vi];simp_all;rfl)
  simp only [hz,jY,hw,hx,sl,go_sem];refine dW _ (jd (by omega) (by simp only [hz,jY,hw,hx,sl,go_sem]) ?_ ?_) <;> simp only [fY,lk,reduceIte,zE];·refine⟨i+1,rfl,bL,fun j hj=>?_⟩;(rcases bz j i with h|h);(·exact dN j h);(obtain rfl:j=i:=by omega);intro y hy;rw [hx] at hy;cases hy;simpa using E9
  simp only [Go.Eng.intOf,bh];omega
 have gq:¬ i<P.length:=by simpa using kR
 have ha:P.all tO=true:=QD fun j hj=>dN j (by omega);simp only [hz,jY,sl,go_sem];refine dK (HC z) ?_;simp only [hz,jY,sl,go_sem];refine ca (fun ZL=>?_) (fun ZL=>?_)
 ·have jS:dV s=false:=by unfold dV;rw [vi,← hP];by_cases hv:ga z=true;(·have:=LH hv;simp_all;omega);simp [hv]
  simp only [hz,jY,sl,go_sem];refine hK _ ?_
  first
   | (unfold kl jX;rw [jS];rfl)
   | (unfold kl jX;rw [gV,vi];simp_all;done)
   | (unfold kl jX;rw [gV,vi];simp_all;rfl)
 simp only [hz,jY,sl,go_sem];refine ca (fun QC=>?_) (fun QC=>?_)
 ·have jS:dV s=false:=by unfold dV;rw [vi,← hP];by_cases hv:ga z=true;(·have:=LH hv;simp_all;omega);simp [hv]
  simp only [hz,jY,sl,go_sem];refine hK _ ?_
  first
   | (unfold kl jX;rw [jS];rfl)
   | (unfold kl jX;rw [gV,vi];simp_all;done)
   | (unfold kl jX;rw [gV,vi];simp_all;rfl)
 have hvz:ga z=true:=by by_cases hv:ga z=true;(·exact hv);exfalso;simp_all
 have gV:dV s=true:=by unfold dV;rw [vi,← hP,ha,hvz];simp_all;omega
 simp only [hz,jY,sl,go_sem];refine hK _ ?_
 first
  | (unfold kl jX;rw [jS];rfl)
  | (unfold kl jX;rw [gV,vi];simp_all;done)
  | (unfold kl jX;rw [gV,vi];simp_all;rfl)
end
theorem uU (s:ByteArray) (hs:s.size≤1048576):Cn 78 [str s] (bl (dV s)):=by refine gy tt_ok [] 12 [.tmp 2] (fn:=Tryz.f78) Tryz.func78 rfl Tryz.call78 ⟨rfl,rfl,by simp⟩ fun K hK=>?_;simp only [go_sem];refine dK (Nh s hs) ?_;simp only [go_sem];exact hK _ (congrArg bl (by unfold jX;by_cases h:dV s=true <;> simp [h]))
end
def xL (s:ByteArray):Bool:=kI s||decide (s.size=2)&&decide (eJ s 0=35)&&decide (48≤eJ s 1)&&decide (eJ s 1≤55)
def jU (s:ByteArray):Bool:=decide (s=⟨#[]⟩)
def nY (s:ByteArray):Bool:=jU s||dX s||dV s
theorem qm (s:ByteArray):Cn 174 [str s] (bl (kI s)):=by
 refine gy tt_ok [] 19 [.tmp 2] (fn:=Tryz.f174) Tryz.func174 rfl Tryz.call174 ⟨rfl,rfl,by simp⟩ fun K hK=>?_;have lD:aj.underlying 9=some .string:=kr;have sl:∀ (a:ByteArray) (ty:TypeId),iq aj (Builtin.len_ #[9] ty) [.sc (.string a)]=some (num a.size):=fun a ty=>gi (P:=aj) (tt:=tt) (T:=9) a lD ty;simp only [sl,go_sem];refine ca (fun qk=>?_) (fun qk=>?_);·have h1:=zP rfl qk;obtain⟨Hy,kj⟩:=eC (s:=s) (i:=(0:Int).toNat) (by omega);have dD:=eR (P:=aj) s lD .i64 (0) (by omega) (c:=Hy) kj;have lg:eJ s 0=Hy.toNat:=eQ kj;simp only [dD,sl,go_sem];refine ca (fun yL=>?_) (fun yL=>?_) <;> simp only [dD,sl,go_sem];(·refine dK (Bb _) ?_;repeat' (simp only [dD,sl,go_sem];first|refine ca (fun hg=>?_) (fun hg=>?_)|refine dK (Bc 238 uR LG s (by have:=of_decide_eq_true yL;omega)) ?_|(exact hK _ (congrArg bl (by simp_all [kI] <;> (intros;omega))))));exact hK _ (congrArg bl (by simp_all [kI] <;> (intros;omega)))
 have h1:=wq rfl qk;simp only [sl,go_sem];exact hK _ (congrArg bl (by simp_all [kI] <;> (intros;omega)))
theorem Bk (s:ByteArray):Cn 161 [str s] (bl (kI s)):=by
 refine gy tt_ok [] 20 [.tmp 2] (fn:=Tryz.f161) Tryz.func161 rfl Tryz.call161 ⟨rfl,rfl,by simp⟩ fun K hK=>?_;have lD:aj.underlying 9=some .string:=kr;have sl:∀ (a:ByteArray) (ty:TypeId),iq aj (Builtin.len_ #[9] ty) [.sc (.string a)]=some (num a.size):=fun a ty=>gi (P:=aj) (tt:=tt) (T:=9) a lD ty;simp only [sl,go_sem];refine ca (fun nO=>?_) (fun nO=>?_);·(have h1:1≤s.size:=by have:=of_decide_eq_true nO;omega);obtain⟨Hy,kj⟩:=eC (s:=s) (i:=(0:Int).toNat) (by omega);have dD:=eR (P:=aj) s lD .i64 (0) (by omega) (c:=Hy) kj;have lg:eJ s 0=Hy.toNat:=eQ kj;simp only [dD,sl,go_sem];refine ca (fun ql=>?_) (fun ql=>?_) <;> simp only [dD,sl,go_sem];(·refine dK (yJ _) ?_;repeat' (simp only [dD,sl,go_sem];first|refine ca (fun hg=>?_) (fun hg=>?_)|refine dK (Ht s (by have:=of_decide_eq_true ql;omega)) ?_|(exact hK _ (congrArg bl (by simp_all [kI] <;> (intros;omega))))));exact hK _ (congrArg bl (by simp_all [kI] <;> (intros;omega)))
 have h1:s.size=0:=by have:=of_decide_eq_false nO;omega
 simp only [sl,go_sem];exact hK _ (congrArg bl (by simp_all [kI] <;> (intros;omega)))
theorem HD (s:ByteArray):Cn 172 [str s] (bl (xL s)):=by
 refine gy tt_ok [] 25 [.tmp 2] (fn:=Tryz.f172) Tryz.func172 rfl Tryz.call172 ⟨rfl,rfl,by simp⟩ fun K hK=>?_;have lD:aj.underlying 9=some .string:=kr;have sl:∀ (a:ByteArray) (ty:TypeId),iq aj (Builtin.len_ #[9] ty) [.sc (.string a)]=some (num a.size):=fun a ty=>gi (P:=aj) (tt:=tt) (T:=9) a lD ty;simp only [sl,go_sem];refine dK (qm s) ?_;simp only [sl,go_sem];refine ca (fun qk=>?_) (fun qk=>?_) <;> simp only [sl,go_sem];·exact hK _ (congrArg bl (by simp_all [xL] <;> (intros;omega)))
 refine ca (fun Bl=>?_) (fun Bl=>?_);·(have hz2:s.size=2:=by have:=of_decide_eq_true Bl;omega);obtain⟨Hy,kj⟩:=eC (s:=s) (i:=(0:Int).toNat) (by omega);have dD:=eR (P:=aj) s lD .i64 (0) (by omega) (c:=Hy) kj;obtain⟨cv1,yM⟩:=eC (s:=s) (i:=(1:Int).toNat) (by omega);have jM:=eR (P:=aj) s lD .i64 (1) (by omega) (c:=cv1) yM;have lg:eJ s 0=Hy.toNat:=eQ kj;have nN:eJ s 1=cv1.toNat:=eQ yM;repeat' (simp only [dD,jM,sl,go_sem];first|refine ca (fun hg=>?_) (fun hg=>?_)|(exact hK _ (congrArg bl (by simp_all [xL] <;> (intros;omega)))))
 have hz2:s.size≠2:=by have:=of_decide_eq_false Bl;omega
 simp only [sl,go_sem];exact hK _ (congrArg bl (by simp_all [xL] <;> (intros;omega)))
theorem Fa (s:ByteArray):Cn 225 [str s] (bl (xL s)):=by
 refine gy tt_ok [] 25 [.tmp 2] (fn:=Tryz.f225) Tryz.func225 rfl Tryz.call225 ⟨rfl,rfl,by simp⟩ fun K hK=>?_;have lD:aj.underlying 9=some .string:=kr;have sl:∀ (a:ByteArray) (ty:TypeId),iq aj (Builtin.len_ #[9] ty) [.sc (.string a)]=some (num a.size):=fun a ty=>gi (P:=aj) (tt:=tt) (T:=9) a lD ty;simp only [sl,go_sem];refine dK (Bk s) ?_;simp only [sl,go_sem];refine ca (fun qk=>?_) (fun qk=>?_) <;> simp only [sl,go_sem];·exact hK _ (congrArg bl (by simp_all [xL] <;> (intros;omega)))
 refine ca (fun Bl=>?_) (fun Bl=>?_);·(have hz2:s.size=2:=by have:=of_decide_eq_true Bl;omega);obtain⟨Hy,kj⟩:=eC (s:=s) (i:=(0:Int).toNat) (by omega);have dD:=eR (P:=aj) s lD .i64 (0) (by omega) (c:=Hy) kj;obtain⟨cv1,yM⟩:=eC (s:=s) (i:=(1:Int).toNat) (by omega);have jM:=eR (P:=aj) s lD .i64 (1) (by omega) (c:=cv1) yM;have lg:eJ s 0=Hy.toNat:=eQ kj;have nN:eJ s 1=cv1.toNat:=eQ yM;repeat' (simp only [dD,jM,sl,go_sem];first|refine ca (fun hg=>?_) (fun hg=>?_)|(exact hK _ (congrArg bl (by simp_all [xL] <;> (intros;omega)))))
 have hz2:s.size≠2:=by have:=of_decide_eq_false Bl;omega
 simp only [sl,go_sem];exact hK _ (congrArg bl (by simp_all [xL] <;> (intros;omega)))
theorem xM (hG:bB.g=some 0) (s:ByteArray) (hs:s.size≤1048576):Cn 173 [str s] (bl (nY s)):=by refine gy tt_ok [] 13 [.tmp 2] (fn:=Tryz.f173) Tryz.func173 rfl Tryz.call173 ⟨rfl,rfl,by simp⟩ fun K hK=>?_;repeat' (simp only [dh,go_sem];first|refine ca (fun hg=>?_) (fun hg=>?_)|refine dK (je hG s) ?_|refine dK (oc hG s hs) ?_|(exact hK _ (congrArg bl (by simp_all [nY,jU]))))
theorem Bm (s:ByteArray) (hs:s.size≤1048576):Cn 226 [str s] (bl (nY s)):=by refine gy tt_ok [] 13 [.tmp 2] (fn:=Tryz.f226) Tryz.func226 rfl Tryz.call226 ⟨rfl,rfl,by simp⟩ fun K hK=>?_;repeat' (simp only [dh,go_sem];first|refine ca (fun hg=>?_) (fun hg=>?_)|refine dK (mM s) ?_|refine dK (uU s hs) ?_|(exact hK _ (congrArg bl (by simp_all [nY,jU]))))
mutual
inductive Ty where
 | mk (kind:Int) (mod name:ByteArray) (args:List Ty) (bD:List Fd)
inductive Fd where
 | mk (name:ByteArray) (ty:Ty) (opt:Bool)
end
structure Lb where
 name:ByteArray
 var:ByteArray
 ty:Ty
 opt:Bool
inductive Ex where
 | mk (kind:Int) (mod name text:ByteArray) (num:Int) (types:List Ty) (labels:List Lb) (kids:List Ex)
structure Pm where
 name:ByteArray
 eD:Int
 bound:Ty
structure Im where
 path:ByteArray
 alias:ByteArray
structure Dc where
 kind:Int
 name:ByteArray
 exported:Bool
 deprecated:Bool
 note:ByteArray
 params:List Pm
 lower:Ty
 upper:Ty
 type:Ty
 expr:Ex
 mod:ByteArray
 target:ByteArray
structure Md where
 path:ByteArray
 imports:List Im
 decls:List Dc
mutual
def br:Ty→V
 | .mk k m n ts fs=>.agg [.sc (.int .i64 k),.sc (.string m),.sc (.string n),.slice (cX ts),.slice (jf fs)]
def cX:List Ty→List V
 | []=>[]
 | t :: r=>br t :: cX r
def du:Fd→V
 | .mk n (.mk k m n' ts fs) o=>.agg [.sc (.string n),.sc (.int .i64 k),.sc (.string m),.sc (.string n'),.slice (cX ts),.slice (jf fs),.sc (.bool o)]
def jf:List Fd→List V
 | []=>[]
 | f :: r=>du f :: jf r
end
def Fd.ty:Fd→Ty|.mk _ t _=>t
def Fd.name:Fd→ByteArray|.mk n _ _=>n
def Fd.opt:Fd→Bool|.mk _ _ o=>o
def Ty.bD:Ty→List Fd|.mk _ _ _ _ fs=>fs
def Ty.args:Ty→List Ty|.mk _ _ _ ts _=>ts
def Ty.kind:Ty→Int|.mk k _ _ _ _=>k
def Ty.mod:Ty→ByteArray|.mk _ m _ _ _=>m
def Ty.name:Ty→ByteArray|.mk _ _ n _ _=>n
def Ty.parts (t:Ty):List Ty:=t.args++t.bD.map Fd.ty
def ax (t:Ty):List V:=[.sc (.int .i64 t.kind),.sc (.string t.mod),.sc (.string t.name),.slice (cX t.args),.slice (jf t.bD)]
theorem aM (t:Ty):br t = .agg (ax t):=by obtain⟨k,m,n,ts,fs⟩:=t;rfl
theorem aV (ts:List Ty):cX ts=ts.map br:=by induction ts with|nil=>rfl|cons t r ih=>simp [cX,ih]
theorem bG (ts:List Fd):jf ts=ts.map du:=by induction ts with|nil=>rfl|cons t r ih=>simp [jf,ih]
theorem bZ (f:Fd):du f = .agg ([str f.name]++ax f.ty++[bl f.opt]):=by obtain⟨n',⟨k,m,n,ts,fs⟩,o⟩:=f;rfl
def b7 (l:Lb):V:=.agg ([str l.name,str l.var]++ax l.ty++[bl l.opt])
mutual
def bH:Ex→V
 | .mk k m n t i ts ls ks=>.agg [.sc (.int .i64 k),.sc (.string m),.sc (.string n),.sc (.string t),.sc (.int .i64 i),.slice (cX ts),.slice (ls.map b7),.slice (oF ks)]
def oF:List Ex→List V
 | []=>[]
 | e :: r=>bH e :: oF r
end
def Ex.kind:Ex→Int|.mk k _ _ _ _ _ _ _=>k
def Ex.mod:Ex→ByteArray|.mk _ m _ _ _ _ _ _=>m
def Ex.name:Ex→ByteArray|.mk _ _ n _ _ _ _ _=>n
def Ex.text:Ex→ByteArray|.mk _ _ _ t _ _ _ _=>t
def Ex.num:Ex→Int|.mk _ _ _ _ i _ _ _=>i
def Ex.types:Ex→List Ty|.mk _ _ _ _ _ ts _ _=>ts
def Ex.labels:Ex→List Lb|.mk _ _ _ _ _ _ ls _=>ls
def Ex.kids:Ex→List Ex|.mk _ _ _ _ _ _ _ ks=>ks
theorem bN (ts:List Ex):oF ts=ts.map bH:=by induction ts with|nil=>rfl|cons t r ih=>simp [oF,ih]
def aX (e:Ex):List V:=[.sc (.int .i64 e.kind),.sc (.string e.mod),.sc (.string e.name),.sc (.string e.text),.sc (.int .i64 e.num),.slice (cX e.types),.slice (e.labels.map b7),.slice (oF e.kids)]
theorem bk (e:Ex):bH e = .agg (aX e):=by obtain⟨k,m,n,t,i,ts,ls,ks⟩:=e;rfl
def eL (p:Pm):V:=.agg ([str p.name,num p.eD]++ax p.bound)
def fI (i:Im):V:=.agg [str i.path,str i.alias]
def dt (d:Dc):V:=.agg ([num d.kind,str d.name,bl d.exported,bl d.deprecated,str d.note,.slice (d.params.map eL)]++ax d.lower++ax d.upper++ax d.type++aX d.expr++[str d.mod,str d.target])
def sN (m:Md):V:=.agg [str m.path,.slice (m.imports.map fI),.slice (m.decls.map dt)]
theorem Ni (t:Ty):(br t).cells.length=5:=by rw [aM];rfl
theorem xN (e:Ex):(bH e).cells.length=8:=by rw [bk];rfl
theorem wz (ts:List Ty) (n:Nat):gg (cX ts) n 5=true:=by
 rw [aV];unfold gg;split;·rename_i h;simp at h;obtain⟨t,-,rfl⟩:=h;simp [Ni]
 rfl
theorem aD (ts:List Ty):(cX ts).length=ts.length:=by simp [aV]
theorem dd (ts:List Fd):(jf ts).length=ts.length:=by simp [bG]
theorem cJ (ts:List Ex):(oF ts).length=ts.length:=by simp [bN]
theorem bn (ts:List Ty) (i:Nat):(cX ts)[i]?=ts[i]?.map br:=by simp [aV]
theorem bP (ts:List Fd) (i:Nat):(jf ts)[i]?=ts[i]?.map du:=by simp [bG]
theorem fc (ts:List Ex) (i:Nat):(oF ts)[i]?=ts[i]?.map bH:=by simp [bN]
mutual
def Ty.size:Ty→Nat
 | .mk _ _ _ ts fs=>1+wA ts+wB fs
def wA:List Ty→Nat
 | []=>0
 | t :: r=>t.size+wA r
def Fd.size:Fd→Nat
 | .mk _ (.mk _ _ _ ts fs) _=>1+wA ts+wB fs
def wB:List Fd→Nat
 | []=>0
 | f :: r=>f.size+wB r
end
theorem Fd.U3 (f:Fd):f.size=f.ty.size:=by obtain⟨n',⟨k,m,n,ts,fs⟩,o⟩:=f;rfl
theorem HE (ts:List Ty):wA ts=aS Ty.size ts:=by induction ts with|nil=>rfl|cons t r ih=>simp [wA,aS,ih]
theorem HF (ts:List Fd):wB ts=aS (fun f=>f.ty.size) ts:=by induction ts with|nil=>rfl|cons t r ih=>simp [wB,aS,ih,Fd.U3]
theorem Ty.dB (t:Ty):t.size=1+aS Ty.size t.parts:=by obtain⟨k,m,n,ts,fs⟩:=t;simp only [Ty.size,Ty.parts,Ty.args,Ty.bD,fC,jT,HE,HF];omega
theorem Ty.size_pos (t:Ty):0<t.size:=by rw [Ty.dB];omega
theorem Ty.fE (t:Ty):t.args.length+t.bD.length<t.size:=by have:=ch Ty.size Ty.size_pos t.parts;rw [Ty.dB];simp only [Ty.parts,ab,au] at this;simp only [Ty.parts];omega
theorem sO (t:Ty) (hl:t.args.length+t.bD.length≤34359738368):b8 aj 82 [br t] (.slice (cX t.parts)):=by
 obtain⟨k,m,n,ts,fs⟩:=t;simp only [Ty.args,Ty.bD] at hl;have om:ts.length≤34359738368:=by omega
 refine jL tt_ok (fn:=Tryz.f82) Tryz.func82 rfl Tryz.call82 ?_;simp only [cZ,cO,Tryz.ntmps82,af,ai,zA,zF,aH,aI];refine aq tt_ok fun K hK=>?_;simp only [br,go_sem];refine hK _ ?_;refine aq tt_ok fun K hK=>?_;simp only [wz,aD,om,go_sem];refine hK _ ?_;refine bE ?_;refine aq tt_ok fun K hK=>?_;simp only [go_sem];refine hK _ ?_;refine bU (dj (fun N st=>∃ (i dZ:Nat) (acc:List Ty),N=fs.length-i∧i≤fs.length∧acc=ts++(fs.take i).map Fd.ty ∧ st = { fr:=[br (.mk k m n ts fs),.ptr 0 0,.undef,.ms 1 dZ 0 acc.length,.sc (.int .i64 i)]++List.replicate 21 .undef,mem:=[.box (br (.mk k m n ts fs)).cells,.rows dZ 5 (cX acc)] }) fs.length ?_ ?_);·exact⟨2,[true,true,false,true,true],by omega,by simp only [aW,aG,aQ,aK,zB,ef],by simp only [aW,aG,aQ,aK,zB,ef],0,1,ts,by omega,by omega,by simp,rfl⟩
 rintro N st ⟨i,dZ,acc,rfl,hi,nE,rfl⟩;have zR:acc.length≤34359738367∨i=fs.length:=by rw [nE];simp;omega
 simp only [cZ,aH,aI,br,V.cells];refine bE ?_;by_cases bL:i<fs.length;·have hd:=iR bL;(have J6:acc.length≤34359738367:=by omega);refine aq tt_ok fun K hK=>?_;simp only [dd,hd,go_sem];refine hK _ ?_;refine bd rfl (cw ?_);refine bE (bU ?_);obtain⟨f,hf⟩:∃ f,fs[i]?=some f:=⟨_,aw bL⟩;(have rE:(fs.take (i+1)).map Fd.ty=(fs.take i).map Fd.ty++[f.ty]:=by rw [bY,hf];simp);obtain⟨fnm,⟨fk,fm,fn,fts,ffs⟩,fo⟩:=f;refine a7 tt_ok fun K hK=>?_;simp only [bP,hf,du,aD,J6,go_sem];refine hK _ ?_;refine a7 tt_ok fun K hK=>?_;simp only [go_sem];refine hK _ ?_;refine⟨fs.length-(i+1),by omega,2,[true,true,false,true,true],by omega,by simp only [aW,aG,aQ,aK,zB,ef],by simp only [aW,aG,aQ,aK,zB,ef],i+1,dZ+1,acc++[.mk fk fm fn fts ffs],rfl,bL,by rw [nE,rE];simp [Fd.ty],?_⟩;have hw:IntKind.i64.wrap ((i:Int)+1)=((i+1:Nat):Int):=bm i (by omega);rw [hw];simp [rp,aW,aV,br]
 have hd:=iS bL;refine aq tt_ok fun K hK=>?_;simp only [dd,hd,go_sem];refine hK _ ?_;refine bd rfl (ep ?_);have lh:i=fs.length:=by omega
 subst lh;show ek _ _ _ _ _ _;refine aq tt_ok fun K hK=>?_;simp only [go_sem];refine hK _ ?_;refine cn ⟨.inl rfl,?_⟩;rw [al] at nE;have hr:cX (Ty.mk k m n ts fs).parts=cX acc:=by rw [nE];rfl
 rw [hr];simp [nU,nT,pG,Tryz.f82,CA,ke,ej,aD];rw [← aD];simp
theorem oG:∀ (N:Nat) (t:Ty),t.size≤N→N≤1048576→b8 aj 31 [br t] (num t.size):=by intro N;induction N with|zero=>intro t h;have:=t.size_pos;omega|succ N ih =>intro t hN hb;have vj:=t.fE;have nZ:=t.dB;have QM:=ch Ty.size Ty.size_pos t.parts;have hp:=sO t (by omega);refine jL tt_ok (fn:=Tryz.f31) Tryz.func31 rfl Tryz.call31 ?_;simp only [cZ,cO,Tryz.ntmps31,af,ai,zA,zF,aH,aI];rw [aM] at hp ⊢;simp only [ax] at hp ⊢;refine aq tt_ok fun K hK=>?_;simp only [go_sem];refine hK _ ?_;refine aq tt_ok fun K hK=>?_;simp only [go_sem];refine hK _ ?_;refine aq tt_ok fun K hK=>?_;simp only [go_sem];refine .inl ⟨_,_,by simp only [go_sem,al],hp,?_⟩;(try simp only [go_sem]);refine hK _ ?_;refine bE ?_;refine aq tt_ok fun K hK=>?_;simp only [go_sem];refine hK _ ?_;obtain⟨ps,Bn⟩:∃ ps,ps=t.parts:=⟨_,rfl⟩;rw [← Bn] at nZ QM ⊢;refine bU (dj (fun N st=>∃ (i:Nat),N=ps.length-i∧i≤ps.length ∧ st = { fr:=[.undef,.undef,.undef,num ((1+aS Ty.size (ps.take i):Nat)),.slice (cX ps),num i]++List.replicate 16 .undef,mem:=[] }) ps.length ?_ ?_);(·exact⟨0,[false,false,false,true,true,true],by omega,by simp only [aW,aG,aQ,aK,zB,ef],by simp only [aW,aG,aQ,aK,zB,ef],0,by omega,by omega,rfl⟩);rintro N st ⟨i,rfl,hi,rfl⟩;simp only [cZ,aH,aI];refine bE ?_;by_cases bL:i<ps.length;(·have hd:=iR bL;refine aq tt_ok fun K hK=>?_;simp only [aD,hd,go_sem];refine hK _ ?_;refine bd rfl (cw ?_);refine bE (bU ?_);obtain⟨u,hu⟩:∃ u,ps[i]?=some u:=⟨_,aw bL⟩;have ZM:=b9 Ty.size hu;have zy:=eZ Ty.size hu;have PH:=gp Ty.size ps (i+1);have j7:=ih u (by omega) (by omega);rw [aM] at j7;simp only [ax] at j7;refine a7 tt_ok fun K hK=>?_;simp only [bn,hu,aM,ax,go_sem];refine .inl ⟨_,_,by simp only [go_sem,al],j7,?_⟩;(try simp only [go_sem]);refine hK _ ?_;(have hw:IntKind.i64.wrap (((1+aS Ty.size (ps.take i):Nat):Int)+(u.size:Int))=((1+aS Ty.size (ps.take (i+1)):Nat):Int):=by rw [ph _ _ (by omega)];congr 1;omega);rw [hw];refine a7 tt_ok fun K hK=>?_;simp only [go_sem];refine hK _ ?_;have ix:=bm i (by omega);rw [ix];exact⟨ps.length-(i+1),by omega,0,[false,false,false,true,true,true],by omega,by simp only [aW,aG,aQ,aK,zB,ef],by simp only [aW,aG,aQ,aK,zB,ef],i+1,rfl,bL,by simp [rp,aW]⟩);have hd:=iS bL;refine aq tt_ok fun K hK=>?_;simp only [aD,hd,go_sem];refine hK _ ?_;refine bd rfl (ep ?_);(have lh:i=ps.length:=by omega);subst lh;show ek _ _ _ _ _ _;refine aq tt_ok fun K hK=>?_;simp only [go_sem];refine hK _ ?_;refine cn ⟨.inl rfl,?_⟩;(try rw [al]);rw [← nZ];simp [nU,nT,pG,Tryz.f31,CA,ke,ej,pZ]
theorem Bo (rows:List V) (h1:gg rows 0 5=true) (hl:rows.length≤34359738368):bI aj 234 [.slice rows] [] (.ms 0 1 0 rows.length) [.rows 1 5 rows]:=by refine ov tt_ok (fn:=Tryz.f234) 1 (by simp) Tryz.func234 rfl Tryz.call234 ?_;simp only [cZ,cO,Tryz.ntmps234,af,ai,zA,zF,aH,aI];refine aq tt_ok fun K hK=>?_;simp only [go_sem];refine hK _ ?_;refine bE ?_;refine aq tt_ok fun K hK=>?_;simp only [go_sem];intro b hb;refine hK _ ?_;cases b with|true =>((have h0:rows=[]:=by cases rows with|nil=>rfl|cons a r=>have:=hb (by simp);cases this);subst h0;refine bd rfl ?_;refine aq tt_ok fun K hK=>?_;simp only [go_sem];refine hK _ ?_;refine MQ 2 1 5 rfl ?_;exact cn ⟨.inl rfl,rfl,rfl,rfl,rfl⟩)|false =>refine bd rfl (cw ?_);show ek _ _ _ _ _ _;refine aq tt_ok fun K hK=>?_;simp only [h1,hl,go_sem];refine hK _ ?_;refine cn ⟨.inl rfl,?_⟩;simp [pH,nT,pG,Tryz.f234,aG,aK,aQ]
theorem xO (t:Ty) (hl:t.args.length+t.bD.length≤34359738368):b8 aj 168 [br t] (.slice (cX t.parts)):=by
 obtain⟨k,m,n,ts,fs⟩:=t;simp only [Ty.args,Ty.bD] at hl;have om:ts.length≤34359738368:=by omega
 refine jL tt_ok (fn:=Tryz.f168) Tryz.func168 rfl Tryz.call168 ?_;simp only [cZ,cO,Tryz.ntmps168,af,ai,zA,zF,aH,aI];refine aq tt_ok fun K hK=>?_;simp only [br,go_sem];refine hK _ ?_;refine aq tt_ok fun K hK=>?_;simp only [br,go_sem];refine .inr <| .inl ⟨_,_,bI.live (by simp only [br,aD,go_sem,al]) (Bo (cX ts) (wz ts 0) (by rw [aD];exact om)) rfl _,?_⟩
 try simp only [br,aD,go_sem]
 refine hK _ ?_;refine bE ?_;refine aq tt_ok fun K hK=>?_;simp only [dd,go_sem];refine hK _ ?_;refine bU (dj (fun N st=>∃ (i dZ:Nat) (acc:List Ty),N=fs.length-i∧i≤fs.length∧acc=ts++(fs.take i).map Fd.ty ∧ st = { fr:=[.undef,.ptr 0 0,.undef,.ms 1 dZ 0 acc.length,.undef,.undef,.undef,.undef,.undef,.undef,.slice (jf fs),num fs.length,num i]++List.replicate 10 .undef,mem:=[.box (br (.mk k m n ts fs)).cells,.rows dZ 5 (cX acc)] }) fs.length ?_ ?_);·exact⟨2,[false,true,false,true,false,false,false,false,false,false,true,true,true],by omega,by simp only [aW,aG,aQ,aK,zB,ef],by simp only [aW,aG,aQ,aK,zB,ef],0,1,ts,by omega,by omega,by simp,rfl⟩
 rintro N st ⟨i,dZ,acc,rfl,hi,nE,rfl⟩;have zR:acc.length≤34359738367∨i=fs.length:=by rw [nE];simp;omega
 simp only [cZ,aH,aI,br,V.cells];by_cases bL:i<fs.length;·have hd:=iR bL;(have J6:acc.length≤34359738367:=by omega);refine aq tt_ok fun K hK=>?_;simp only [dd,hd,go_sem];refine hK _ ?_;refine bE (bd rfl (cw ?_));refine bE (bU ?_);obtain⟨f,hf⟩:∃ f,fs[i]?=some f:=⟨_,aw bL⟩;(have rE:(fs.take (i+1)).map Fd.ty=(fs.take i).map Fd.ty++[f.ty]:=by rw [bY,hf];simp);obtain⟨fnm,⟨fk,fm,fn,fts,ffs⟩,fo⟩:=f;refine aq tt_ok fun K hK=>?_;simp only [bP,hf,du,go_sem];refine hK _ ?_;refine a7 tt_ok fun K hK=>?_;simp only [aD,J6,go_sem];refine hK _ ?_;refine a7 tt_ok fun K hK=>?_;simp only [go_sem];refine hK _ ?_;have hw:=bm i (by omega);rw [hw];refine⟨fs.length-(i+1),by omega,2,[false,true,false,true,false,false,false,false,false,false,true,true,true],by omega,by simp only [aW,aG,aQ,aK,zB,ef],by simp only [aW,aG,aQ,aK,zB,ef],i+1,dZ+1,acc++[.mk fk fm fn fts ffs],rfl,bL,by rw [nE,rE];simp [Fd.ty],?_⟩;simp [rp,aW,aV,br]
 have hd:=iS bL;refine aq tt_ok fun K hK=>?_;simp only [dd,hd,go_sem];refine hK _ ?_;refine bE (bd rfl (ep ?_));have lh:i=fs.length:=by omega
 subst lh;show ek _ _ _ _ _ _;refine aq tt_ok fun K hK=>?_;simp only [go_sem];refine hK _ ?_;refine cn ⟨.inl rfl,?_⟩;rw [al] at nE;have hr:cX (Ty.mk k m n ts fs).parts=cX acc:=by rw [nE];rfl
 rw [hr];simp [nU,nT,pG,Tryz.f168,CA,ke,ej,aD];rw [← aD];simp
mutual
def Ty.depth:Ty→Nat
 | .mk _ _ _ ts fs=>1+max (sP ts) (sQ fs)
def sP:List Ty→Nat
 | []=>0
 | t :: r=>max t.depth (sP r)
def Fd.depth:Fd→Nat
 | .mk _ (.mk _ _ _ ts fs) _=>1+max (sP ts) (sQ fs)
def sQ:List Fd→Nat
 | []=>0
 | f :: r=>max f.depth (sQ r)
end
theorem Fd.QN (f:Fd):f.depth=f.ty.depth:=by obtain⟨n',⟨k,m,n,ts,fs⟩,o⟩:=f;rfl
def gz {α:Type} (g:α→Nat):List α→Nat
 | []=>0
 | a :: r=>max (g a) (gz g r)
theorem wC {α:Type} (g:α→Nat) (a b:List α):gz g (a++b)=max (gz g a) (gz g b):=by induction a with|nil=>simp [gz]|cons x r ih=>simp [gz,ih,Nat.max_assoc]
theorem Nj {α β:Type} (g:β→Nat) (h:α→β) (a:List α):gz g (a.map h)=gz (fun x=>g (h x)) a:=by induction a with|nil=>rfl|cons x r ih=>simp [gz,ih]
theorem Fb (ts:List Ty):sP ts=gz Ty.depth ts:=by induction ts with|nil=>rfl|cons t r ih=>simp [sP,gz,ih]
theorem Fc (ts:List Fd):sQ ts=gz (fun f=>f.ty.depth) ts:=by induction ts with|nil=>rfl|cons t r ih=>simp [sQ,gz,ih,Fd.QN]
theorem Ty.sR (t:Ty):t.depth=1+gz Ty.depth t.parts:=by obtain⟨k,m,n,ts,fs⟩:=t;simp only [Ty.depth,Ty.parts,Ty.args,Ty.bD,wC,Nj,Fb,Fc]
theorem lx {α:Type} (g:α→Nat) {l:List α} {i:Nat} {a:α} (h:l[i]?=some a):gz g (l.take (i+1))=max (gz g (l.take i)) (g a):=by rw [bY,h,wC];simp [gz]
theorem Bp {α:Type} (g:α→Nat) {B:Nat}:∀ {l:List α},(∀ (i:Nat) (a:α),l[i]?=some a→g a≤B)→gz g l≤B
 | [],_=>by simp [gz]
 | a :: r,h=>by
  have h1:=h 0 a rfl
  have h2:=Bp g (l:=r) (B:=B) fun i b hb=>h (i+1) b (by simpa using hb)
  simp only [gz];omega
theorem Ty.uq:∀ (N:Nat) (t:Ty),t.size≤N→t.depth≤t.size:=by intro N;induction N with|zero=>intro t h;have:=t.size_pos;omega|succ N ih =>intro t hN;rw [Ty.sR,Ty.dB];have h1:=t.dB;(have:=Bp Ty.depth (l:=t.parts) (B:=aS Ty.size t.parts) fun i a ha=>by have:=b9 Ty.size ha;have:=ih a (by omega);omega);omega
theorem zS (a b:Nat):(if ((a:Int)<(b:Int)) then ((b:Nat):Int) else (a:Int))=((max a b:Nat):Int):=by split <;> omega
theorem Nk:∀ (N:Nat) (t:Ty),t.size≤N→N≤1048576→b8 aj 75 [br t] (num t.depth):=by intro N;induction N with|zero=>intro t h;have:=t.size_pos;omega|succ N ih =>intro t hN hb;have vj:=t.fE;have nZ:=t.dB;have hds:=Ty.uq _ t (aB _);have hdp:=t.sR;have QM:=ch Ty.size Ty.size_pos t.parts;have hp:=sO t (by omega);refine jL tt_ok (fn:=Tryz.f75) Tryz.func75 rfl Tryz.call75 ?_;simp only [cZ,cO,Tryz.ntmps75,af,ai,zA,zF,aH,aI];rw [aM] at hp ⊢;simp only [ax] at hp ⊢;refine aq tt_ok fun K hK=>?_;simp only [go_sem];refine hK _ ?_;refine aq tt_ok fun K hK=>?_;simp only [go_sem];refine hK _ ?_;refine aq tt_ok fun K hK=>?_;simp only [go_sem];refine .inl ⟨_,_,by simp only [go_sem,al],hp,?_⟩;(try simp only [go_sem]);refine hK _ ?_;refine bE ?_;refine aq tt_ok fun K hK=>?_;simp only [go_sem];refine hK _ ?_;obtain⟨ps,Bn⟩:∃ ps,ps=t.parts:=⟨_,rfl⟩;rw [← Bn] at nZ QM hdp ⊢;refine bU (dj (fun N st=>∃ (i:Nat),N=ps.length-i∧i≤ps.length ∧ st = { fr:=[.undef,.undef,.undef,num ((gz Ty.depth (ps.take i):Nat)),.slice (cX ps),num i]++List.replicate 17 .undef,mem:=[] }) ps.length ?_ ?_);(·exact⟨0,[false,false,false,true,true,true],by omega,by simp only [aW,aG,aQ,aK,zB,ef],by simp only [aW,aG,aQ,aK,zB,ef],0,by omega,by omega,rfl⟩);rintro N st ⟨i,rfl,hi,rfl⟩;simp only [cZ,aH,aI];refine bE ?_;by_cases bL:i<ps.length;(·have hd:=iR bL;refine aq tt_ok fun K hK=>?_;simp only [aD,hd,go_sem];refine hK _ ?_;refine bd rfl (cw ?_);refine bE (bU ?_);obtain⟨u,hu⟩:∃ u,ps[i]?=some u:=⟨_,aw bL⟩;have ZM:=b9 Ty.size hu;have zy:=lx Ty.depth hu;have j7:=ih u (by omega) (by omega);rw [aM] at j7;simp only [ax] at j7;refine a7 tt_ok fun K hK=>?_;simp only [bn,hu,aM,ax,go_sem];refine .inl ⟨_,_,by simp only [go_sem,al],j7,?_⟩;(try simp only [go_sem]);refine hK _ ?_;rw [zS,← zy];refine a7 tt_ok fun K hK=>?_;simp only [go_sem];refine hK _ ?_;have ix:=bm i (by omega);rw [ix];exact⟨ps.length-(i+1),by omega,0,[false,false,false,true,true,true],by omega,by simp only [aW,aG,aQ,aK,zB,ef],by simp only [aW,aG,aQ,aK,zB,ef],i+1,rfl,bL,by simp [rp,aW]⟩);have hd:=iS bL;refine aq tt_ok fun K hK=>?_;simp only [aD,hd,go_sem];refine hK _ ?_;refine bd rfl (ep ?_);(have lh:i=ps.length:=by omega);subst lh;show ek _ _ _ _ _ _;refine aq tt_ok fun K hK=>?_;simp only [go_sem];refine hK _ ?_;refine cn ⟨.inl rfl,?_⟩;(try rw [al]);rw [bm _ (by omega)];(have oE:gz Ty.depth ps+1=t.depth:=by omega);rw [oE];simp [nU,nT,pG,Tryz.f75,CA,ke,ej,pZ]
theorem J7:∀ (N:Nat) (t:Ty),t.size≤N→N≤1048576→b8 aj 87 [br t] (num t.depth):=by intro N;induction N with|zero=>intro t h;have:=t.size_pos;omega|succ N ih =>intro t hN hb;have vj:=t.fE;have nZ:=t.dB;have hds:=Ty.uq _ t (aB _);have hdp:=t.sR;have QM:=ch Ty.size Ty.size_pos t.parts;have hp:=xO t (by omega);refine jL tt_ok (fn:=Tryz.f87) Tryz.func87 rfl Tryz.call87 ?_;simp only [cZ,cO,Tryz.ntmps87,af,ai,zA,zF,aH,aI];rw [aM] at hp ⊢;simp only [ax] at hp ⊢;refine aq tt_ok fun K hK=>?_;simp only [go_sem];refine hK _ ?_;refine aq tt_ok fun K hK=>?_;simp only [go_sem];refine hK _ ?_;refine bE ?_;refine aq tt_ok fun K hK=>?_;simp only [go_sem];refine .inl ⟨_,_,by simp only [aD,go_sem,al],hp,?_⟩;(try simp only [aD,go_sem]);refine hK _ ?_;obtain⟨ps,Bn⟩:∃ ps,ps=t.parts:=⟨_,rfl⟩;rw [← Bn] at nZ QM hdp ⊢;refine bU (dj (fun N st=>∃ (i:Nat),N=ps.length-i∧i≤ps.length ∧ st = { fr:=[.undef,.undef,.undef,num ((gz Ty.depth (ps.take i):Nat)),.undef,.undef,.undef,.slice (cX ps),num ps.length,num i]++List.replicate 10 .undef,mem:=[] }) ps.length ?_ ?_);(·exact⟨0,[false,false,false,true,false,false,false,true,true,true],by omega,by simp only [aW,aG,aQ,aK,zB,ef],by simp only [aW,aG,aQ,aK,zB,ef],0,by omega,by omega,rfl⟩);rintro N st ⟨i,rfl,hi,rfl⟩;simp only [cZ,aH,aI];by_cases bL:i<ps.length;(·have hd:=iR bL;refine aq tt_ok fun K hK=>?_;simp only [aD,hd,go_sem];refine hK _ ?_;refine bE (bd rfl (cw ?_));refine bE (bU ?_);obtain⟨u,hu⟩:∃ u,ps[i]?=some u:=⟨_,aw bL⟩;have ZM:=b9 Ty.size hu;have zy:=lx Ty.depth hu;have j7:=ih u (by omega) (by omega);rw [aM] at j7;simp only [ax] at j7;refine aq tt_ok fun K hK=>?_;simp only [bn,hu,aM,ax,go_sem];refine hK _ ?_;refine a7 tt_ok fun K hK=>?_;simp only [go_sem];refine .inl ⟨_,_,by simp only [go_sem,al],j7,?_⟩;(try simp only [go_sem]);refine hK _ ?_;rw [zS,← zy];refine a7 tt_ok fun K hK=>?_;simp only [go_sem];refine hK _ ?_;have ix:=bm i (by omega);rw [ix];exact⟨ps.length-(i+1),by omega,0,[false,false,false,true,false,false,false,true,true,true],by omega,by simp only [aW,aG,aQ,aK,zB,ef],by simp only [aW,aG,aQ,aK,zB,ef],i+1,rfl,bL,by simp [rp,aW]⟩);have hd:=iS bL;refine aq tt_ok fun K hK=>?_;simp only [aD,hd,go_sem];refine hK _ ?_;refine bE (bd rfl (ep ?_));(have lh:i=ps.length:=by omega);subst lh;show ek _ _ _ _ _ _;refine aq tt_ok fun K hK=>?_;simp only [go_sem];refine hK _ ?_;refine cn ⟨.inl rfl,?_⟩;(try rw [al]);rw [bm _ (by omega)];(have oE:gz Ty.depth ps+1=t.depth:=by omega);rw [oE];simp [nU,nT,pG,Tryz.f87,CA,ke,ej,pZ]
section
mutual
def Ty.nodes:Ty→List Ty
 | .mk k m n ts fs=>.mk k m n ts fs :: (sS ts++sT fs)
def sS:List Ty→List Ty
 | []=>[]
 | t :: r=>t.nodes++sS r
def Fd.nodes:Fd→List Ty
 | .mk _ (.mk k m n ts fs) _=>.mk k m n ts fs :: (sS ts++sT fs)
def sT:List Fd→List Ty
 | []=>[]
 | f :: r=>f.nodes++sT r
end
theorem Fd.QO (f:Fd):f.nodes=f.ty.nodes:=by obtain⟨n',⟨k,m,n,ts,fs⟩,o⟩:=f;rfl
theorem HG (ts:List Ty):sS ts=ts.flatMap Ty.nodes:=by induction ts with|nil=>rfl|cons t r ih=>simp [sS,ih]
theorem HH (ts:List Fd):sT ts=(ts.map Fd.ty).flatMap Ty.nodes:=by induction ts with|nil=>rfl|cons t r ih=>simp [sT,ih,Fd.QO]
theorem Ty.er (t:Ty):t.nodes=t :: t.parts.flatMap Ty.nodes:=by obtain⟨k,m,n,ts,fs⟩:=t;simp only [Ty.nodes,Ty.parts,Ty.args,Ty.bD,HG,HH,pU]
theorem Ty.wD:∀ (N:Nat) (t:Ty),t.size≤N→t.nodes.length=t.size:=by intro N;induction N with|zero=>intro t h;have:=t.size_pos;omega|succ N ih =>intro t hN;have h1:=t.dB;(have gen:∀ (l:List Ty),aS Ty.size l≤N→(l.flatMap Ty.nodes).length=aS Ty.size l:=by intro l;induction l with|nil=>intro _;rfl|cons a r QP =>intro hl;simp only [aS] at hl ⊢;rw [ae,ab,ih a (by omega),QP (by omega)]);rw [Ty.er,af,gen _ (by omega)];omega
section
variable {σ α:Type}
def dE (step:σ→α→σ×Bool):σ→List α→σ×Bool
 | s,[]=>(s,true)
 | s,u :: r=>if (step s u).2=true then dE step (step s u).1 r else ((step s u).1,false)
theorem jB (step:σ→α→σ×Bool):∀ (a:List α) (s:σ) (b:List α),dE step s (a++b)=if (dE step s a).2=true then dE step (dE step s a).1 b else ((dE step s a).1,false)
 | [],s,b=>by simp [dE]
 | u :: r,s,b=>by
  simp only [ay,dE]
  split
  ·exact jB step r _ b
  simp
theorem ra (step:σ→α→σ×Bool) {G:σ→Prop} (hG:∀ s u,G s→(step s u).2=true→G (step s u).1):∀ (l:List α) (s:σ),G s→(dE step s l).2=true→G (dE step s l).1
 | [],s,h,_=>h
 | u :: r,s,h,hs=>by
  simp only [dE] at hs ⊢
  split at hs
  ·rename_i hu;rw [if_pos hu];exact ra step hG r _ (hG s u h hu) hs
  cases hs
end
section
variable {σ:Type} {M:σ→List bx} {n k k1 k2:Nat}
theorem U4 (hn:∀ s,(M s).length=n) (hk:k<n) (iw:k1<n) (kG:k2<n) (h1:∀ s,(M s)[k1]?=some (.box [.j9 k])) (h2:∀ s,(M s)[k2]?=some (.box [.iU (.func 170) [] [.ptr k1 0,.ptr k2 0]])) (hb:∀ s,(M s).all (aK n)=true)
  (step:σ→Ty→σ×Bool) (G:σ→Prop) (hG:∀ s u,G s→(step s u).2=true→G (step s u).1) {B:Nat} (hB:B≤1048576) (hy:∀ s u,G s→u.size≤B→IS aj k [br u] (M s) (step s u).2 (M (step s u).1)) :
  ∀ (N:Nat) (t:Ty) (s:σ),G s→t.size≤N→N≤B→bI aj 170 [br t,.ptr k1 0,.ptr k2 0] (M s) (bl (dE step s t.nodes).2) (M (dE step s t.nodes).1):=by
 have g0:∀ s (l:List bx),(M s++l)[n]?=l[0]?:=fun s l=>by rw [a8 (by rw [hn];exact aB _),hn,dR]
 have g1:∀ s (l:List bx),(M s++l)[n+1]?=l[1]?:=fun s l=>by rw [a8 (by rw [hn];omega),hn,ee]
 have W3:∀ s (l:List bx),(M s++l)[k1]?=some (.box [.j9 k]):=fun s l=>by rw [bA (by rw [hn];exact iw)];exact h1 s
 have gk2:∀ s (l:List bx),(M s++l)[k2]?=some (.box [.iU (.func 170) [] [.ptr k1 0,.ptr k2 0]]):=fun s l=>by rw [bA (by rw [hn];exact kG)];exact h2 s
 have gs:∀ s (l:List bx) X,(M s++l).set n X=M s++l.set 0 X:=fun s l X=>by rw [eH _ _ (by rw [hn];exact aB _),hn,dR]
 have gt:∀ s (l:List bx),(M s++l).take n=M s:=fun s l=>by rw [← hn s,rq]
 have W4:∀ s,(M s).take n=M s:=fun s=>by rw [bR (by rw [hn];exact aB _)]
 have fy:∀ s u (l:List bx),G s→u.size≤B→IS aj k [br u] (M s++l) (step s u).2 (M (step s u).1++l):=fun s u l hg hu=>by refine (hy s u hg hu).frame (by rw [hn];exact hk) ?_ (by rw [hn];exact hb s) (by rw [hn,hn]) (by rw [hn];exact hb _) l;rw [aM];simp [aG,aQ,ax]
 intro N;induction N with|zero=>intro t s hg h;have:=t.size_pos;omega|succ N ih =>intro t s hg hN hNB;have vj:=t.fE;have nZ:=t.dB;have QM:=ch Ty.size Ty.size_pos t.parts;have dL:=t.er;have hp:=xO t (by omega);have QQ:=fun l=>fy s t l hg (by omega);(have W5:∀ u s (l:List bx),G s→u.size≤N→bI aj 170 [br u,.ptr k1 0,.ptr k2 0] (M s++l) (bl (dE step s u.nodes).2) (M (dE step s u.nodes).1++l):=fun u s l hg hu=>by refine (ih u s hg hu (by omega)).frame ?_ (by rw [hn];exact hb s) rfl (by rw [hn,hn]) (by rw [hn];exact hb _) l;rw [aM,hn];simp [aG,aQ,ax,iw,kG]);simp only [aM,ax] at W5;refine ov tt_ok (fn:=Tryz.f170) n (by rw [hn];exact aB _) Tryz.func170 rfl Tryz.call170 ?_;simp only [cZ,cO,Tryz.ntmps170,af,ai,zA,zF,aH,aI];rw [aM] at hp QQ ⊢;simp only [ax] at hp QQ ⊢;refine aq tt_ok fun K hK=>?_;simp only [hn,go_sem];refine hK _ ?_;refine bE ?_;refine aq tt_ok fun K hK=>?_;simp only [W3,g0,hn,go_sem];refine .inl ⟨_,_,QQ _,?_⟩;(try simp only [go_sem]);refine hK _ ?_;cases QR:(step s t).2 with|false =>refine bd rfl ?_;refine aq tt_ok fun K hK=>?_;simp only [go_sem];refine hK _ ?_;refine cn ⟨.inl rfl,?_⟩;(have oN:dE step s t.nodes=((step s t).1,false):=by rw [dL];simp [dE,QR]);rw [oN];exact⟨rfl,rfl,by dsimp only;rw [gt];exact hb _,(gt _ _).symm⟩|true =>refine bd rfl (cw ?_);show ek _ _ _ _ _ _;refine bE ?_;refine aq tt_ok fun K hK=>?_;simp only [W3,g0,hn,go_sem];refine .inl ⟨_,_,by simp only [aD,go_sem,al],hp,?_⟩;(try simp only [aD,go_sem]);refine hK _ ?_;obtain⟨ps,Bn⟩:∃ ps,ps=t.parts:=⟨_,rfl⟩;rw [← Bn] at nZ QM dL ⊢;refine bU (dj (fun N st=>∃ (i:Nat) (s':σ),G s'∧N=ps.length-i∧i≤ps.length∧dE step s (t :: (ps.take i).flatMap Ty.nodes)=(s',true) ∧ st = { fr:=[.undef,.ptr k1 0,.ptr k2 0,.undef,.undef,.undef,.undef,.undef,.undef,.undef,.undef,.undef,.slice (cX ps),num ps.length,num i]++List.replicate 8 .undef,mem:=M s' }) ps.length ?_ ?_);(·refine⟨n,(false::true::true::(rp 9 false [true,true,true])),by rw [hn];exact aB _,by simp only [aW,aG,aQ,aK,zB,iw,kG,ef],by dsimp only;rw [gt];exact hb _,0,(step s t).1,hG s t hg QR,by omega,by omega,by simp [dE,QR],?_⟩;dsimp only;rw [gt];rfl);rintro N' st ⟨i,s',Gp,rfl,hi,QS,rfl⟩;simp only [cZ,aH,aI];by_cases bL:i<ps.length;(·have hd:=iR bL;refine aq tt_ok fun K hK=>?_;simp only [aD,hd,go_sem];refine hK _ ?_;refine bE (bd rfl (cw ?_));refine bE (bU ?_);obtain⟨u,hu⟩:∃ u,ps[i]?=some u:=⟨_,aw bL⟩;have ZM:=b9 Ty.size hu;have j7:=fun l=>W5 u s' l Gp (by omega);(have zT:(ps.take (i+1)).flatMap Ty.nodes=(ps.take i).flatMap Ty.nodes++u.nodes:=by rw [bY,hu];simp);(have DA:dE step s (t :: (ps.take (i+1)).flatMap Ty.nodes)=dE step s' u.nodes:=by rw [zT,← ay,jB,QS];simp);refine aq tt_ok fun K hK=>?_;simp only [bn,hu,aM,ax,hn,g0,gs,go_sem];refine hK _ ?_;refine aq tt_ok fun K hK=>?_;simp only [gk2,g0,hn,go_sem];(refine .inr <| .inl ⟨_,_,j7 _,?_⟩);(try simp only [go_sem]);refine hK _ ?_;cases QT:(dE step s' u.nodes).2 with|false =>refine bd rfl ?_;refine aq tt_ok fun K hK=>?_;simp only [go_sem];refine hK _ ?_;refine cn ⟨.inl rfl,?_⟩;(have oN:dE step s t.nodes=((dE step s' u.nodes).1,false):=by (have Bq:ps.flatMap Ty.nodes=(ps.take (i+1)).flatMap Ty.nodes++(ps.drop (i+1)).flatMap Ty.nodes:=by rw [← pU,kT]);rw [dL,Bq,← ay,jB,DA,QT];simp);rw [oN];exact⟨rfl,rfl,by dsimp only;rw [gt];exact hb _,(gt _ _).symm⟩|true =>refine bd rfl (cw ?_);show ek _ _ _ _ _ _;refine a7 tt_ok fun K hK=>?_;simp only [go_sem];refine hK _ ?_;have ix:=bm i (by omega);rw [ix];refine⟨ps.length-(i+1),by omega,n,(false::true::true::(rp 9 false [true,true,true])),by rw [hn];exact aB _,by simp only [aW,aG,aQ,aK,zB,iw,kG,ef],by dsimp only;rw [gt];exact hb _,i+1,(dE step s' u.nodes).1,ra step hG _ _ Gp QT,rfl,bL,by rw [DA,← QT],?_⟩;dsimp only;rw [gt];rfl);have hd:=iS bL;refine aq tt_ok fun K hK=>?_;simp only [aD,hd,go_sem];refine hK _ ?_;refine bE (bd rfl (ep ?_));(have lh:i=ps.length:=by omega);subst lh;show ek _ _ _ _ _ _;refine aq tt_ok fun K hK=>?_;simp only [go_sem];refine hK _ ?_;refine cn ⟨.inl rfl,?_⟩;rw [al] at QS;rw [dL,QS];exact⟨rfl,rfl,by dsimp only;rw [W4];exact hb _,(W4 _).symm⟩
end
end
section
theorem HI (t:Ty) (m:List bx) (hb:m.all (aK (m.length+1))=true):bI aj 88 [br t] m (.iU (.func 169) [] [.ptr m.length 0]) (m++[.box (ax t)]):=by
 refine ov tt_ok (fn:=Tryz.f88) (m.length+1) (by omega) Tryz.func88 rfl Tryz.call88 ?_;simp only [cZ,cO,Tryz.ntmps88,af,ai,zA,zF,aH,aI];rw [aM];simp only [ax];refine aq tt_ok fun K hK=>?_;simp only [go_sem];refine hK _ ?_;refine aq tt_ok fun K hK=>?_;simp only [go_sem];refine hK _ ?_;have ht:∀ B:bx,(m++[B]).take (m.length+1)=m++[B]:=fun B=>bR (by simp);refine cn ⟨.inl rfl,rfl,by simp [aG,aQ],?_,?_⟩;·dsimp only;rw [ht];simp [hb,aK,aG,aQ]
 dsimp only;rw [ht]
section
variable {σ:Type} {M:σ→List bx} {n k kt:Nat}
theorem U5 (hn:∀ s,(M s).length=n) (hk:k<n) (Nl:kt<n) {t:Ty} (h1:∀ s,(M s)[kt]?=some (.box (ax t))) (hb:∀ s,(M s).all (aK n)=true)
  (step:σ→Ty→σ×Bool) (G:σ→Prop) (hG:∀ s u,G s→(step s u).2=true→G (step s u).1) {B:Nat} (hB:B≤1048576) (hy:∀ s u,G s→u.size≤B→IS aj k [br u] (M s) (step s u).2 (M (step s u).1)) (ht:t.size≤B) (s:σ) (hs:G s) :
  bI aj 169 [.j9 k,.ptr kt 0] (M s) (.eg []) (M (dE step s t.nodes).1):=by
 have g0:∀ s (l:List bx),(M s++l)[n]?=l[0]?:=fun s l=>by rw [a8 (by rw [hn];exact aB _),hn,dR]
 have g1:∀ s (l:List bx),(M s++l)[n+1]?=l[1]?:=fun s l=>by rw [a8 (by rw [hn];omega),hn,ee]
 have W6:∀ s (l:List bx),(M s++l)[kt]?=some (.box (ax t)):=fun s l=>by rw [bA (by rw [hn];exact Nl)];exact h1 s
 have gs:∀ s (l:List bx) X,(M s++l).set (n+1) X=M s++l.set 1 X:=fun s l X=>by rw [eH _ _ (by rw [hn];omega),hn,ee]
 have gt:∀ s (l:List bx),(M s++l).take n=M s:=fun s l=>by rw [← hn s,rq]
 have hw:∀ s,G s→bI aj 170 [br t,.ptr n 0,.ptr (n+1) 0] (M s++[.box [.j9 k],.box [.iU (.func 170) [] [.ptr n 0,.ptr (n+1) 0]]]) (bl (dE step s t.nodes).2) (M (dE step s t.nodes).1++[.box [.j9 k],.box [.iU (.func 170) [] [.ptr n 0,.ptr (n+1) 0]]]):=fun s hs=>by refine U4 (M:=fun s=>M s++[.box [.j9 k],.box [.iU (.func 170) [] [.ptr n 0,.ptr (n+1) 0]]]) (n:=n+2) (k:=k) (k1:=n) (k2:=n+1) (fun s=>by simp [hn]) (by omega) (by omega) (by omega) (fun s=>g0 _ _) (fun s=>g1 _ _) (fun s=>?_) step G hG hB (fun s u hg hu=>?_) t.size t s hs (aB _) ht;(·rw [kK,aL];refine⟨qO (by omega) (hb s),?_⟩;simp [aK,aG,aQ];omega);refine (hy s u hg hu).frame (by rw [hn];exact hk) ?_ (by rw [hn];exact hb s) (by rw [hn,hn]) (by rw [hn];exact hb _) _;rw [aM];simp [aG,aQ,ax]
 refine ov tt_ok (fn:=Tryz.f169) n (by rw [hn];exact aB _) Tryz.func169 rfl Tryz.call169 ?_;simp only [cZ,cO,Tryz.ntmps169,af,ai,zA,zF,aH,aI];have um:=hw s hs;rw [aM] at um;simp only [ax] at um W6;refine aq tt_ok fun K hK=>?_;simp only [hn,go_sem];refine hK _ ?_;refine aq tt_ok fun K hK=>?_;simp only [hn,ab,aA,go_sem];refine hK _ ?_;refine aq tt_ok fun K hK=>?_;simp only [hn,g1,gs,go_sem];refine hK _ ?_;refine a7 tt_ok fun K hK=>?_;simp only [hn,g1,W6,go_sem];refine .inr <| .inl ⟨_,_,um,?_⟩
 try simp only [go_sem]
 refine hK _ ?_;refine⟨.inr rfl,rfl,rfl,?_,?_⟩;·dsimp only;rw [gt];exact hb _
 dsimp only;rw [gt]
def jg {α:Type} (step:σ→α→σ×Option Code):σ→List α→σ×Option Code
 | s,[]=>(s,none)
 | s,u :: r=>match (step s u).2 with
  | none=>jg step (step s u).1 r
  | some c=>((step s u).1,some c)
def wE {α:Type} (step:σ→α→σ×Option Code) (s:σ×Option Code) (u:α):(σ×Option Code)×Bool:=(step s.1 u,(step s.1 u).2.isNone)
theorem zU {α:Type} (step:σ→α→σ×Option Code):∀ (l:List α) (s:σ),(dE (wE step) (s,none) l).1=jg step s l
 | [],s=>rfl
 | u :: r,s=>by
  simp only [dE,jg]
  have nN:(wE step (s,none) u).1=step s u:=rfl
  have vg:(wE step (s,none) u).2=(step s u).2.isNone:=rfl
  by_cases CW:(step s u).2.isNone=true
  ·rw [if_pos (vg.trans CW),nN]
   have h2:(step s u).2=none:=by simpa using CW
   have e:step s u=((step s u).1,none):=arz rfl h2
   have h3:=zU step r (step s u).1
   rw [← e] at h3
   rw [h2]
   exact h3
  have QU:=CW
  rw [if_neg (fun h=>QU (vg.symm.trans h)),nN]
  cases h2:(step s u).2 with
  | none=>rw [h2] at QU;exact absurd rfl QU
  | some c=>dsimp only;exact arz rfl h2
theorem take_set {mem pre:List bx} {n:Nat} {X Y:bx} (hn:pre.length=n) (h1:mem[n]?=some Y) (h2:mem.take n=pre):(mem.set n X).take (n+1)=pre++[X]:=by
 have bL:n<mem.length:=(az.1 h1).1;refine dM fun i=>?_;by_cases hi:i<n;·rw [jI (by omega),cP (by omega),bA (by omega),← h2,jI hi]
 by_cases pw:i=n;·subst pw;rw [jI (by omega),eX bL,a8 (by omega)];simp [hn]
 rw [ec (by simp;omega),ec (by simp [hn];omega)]
theorem Nn {n0:Nat} {st:St} {Q:Exit→St→Prop} {f:Operand} {params:Array Tmp} {assign body:Code} {t:Ty} (pre:σ→List bx) (s0:σ) (n kt:Nat) (ng:st.mem=pre s0) (hn:∀ s,(pre s).length=n) (Nl:kt<n)
  (ht:∀ s,(pre s)[kt]?=some (.box (ax t))) (hb:∀ s,(pre s).all (aK (n+1))=true) (zw:st.fr.all (aG (n+1))=true) (hf:st.eval f = .iU (.func 169) [] [.ptr kt 0]) (hp:params.size=1) (step:σ→Ty→σ×Option Code) {B:Nat} (hB:B≤1048576) (kO:t.size≤B)
  (Br:∀ s u,u.size≤B→∀ (l:Nat) (LR LB:bx),aK (n+1) LR=true→aK (n+1) LB=true→ek aj (some l) (n+1) assign { fr:=o7 params.toList [br u] st.fr,mem:=pre s++[LR] } fun ex tK=>ex = .normal∧tK.mem[n]?=some LR ∧
   ek aj (some l) (n+1) body { tK with mem:=tK.mem.set n LB } fun ex zI=>si ex=some (step s u).2∧zI.mem[n]?=some LB∧zI.mem.take n=pre (step s u).1)
  (hq:match (jg step s0 t.nodes).2 with
   | none=>Q .normal { st with mem:=pre (jg step s0 t.nodes).1++[.dead] }
   | some c=>ek aj none n0 c { st with mem:=pre (jg step s0 t.nodes).1++[.dead] } Q):ek aj none n0 (.rangeFunc f params assign body) st Q:=by
 have hlen:st.mem.length=n:=by rw [ng,hn]
 have gn:∀ s X,(pre s++[X])[n]?=some X:=fun s X=>by rw [a8 (by rw [hn];exact aB _),hn,dR];rfl
 have gk:∀ s X,(pre s++[X])[kt]?=some (.box (ax t)):=fun s X=>by rw [bA (by rw [hn];exact Nl)];exact ht s
 have HJ:∀ s (X Y:bx),(pre s++[X]).set n Y=pre s++[Y]:=fun s X Y=>by rw [eH _ _ (by rw [hn];exact aB _),hn,dR];rfl
 have yN:∀ (s:σ) (a:LoopState) (b:Option Code),(pre s++[bx.loop a b st.fr params assign body]).all (aK (n+1))=true:=fun s a b=>by rw [kK,aL];exact⟨hb s,by simp only [cH,dS,aO,aK];exact zw⟩
 have it:=U5 (M:=fun s:σ×Option Code=>pre s.1++[.loop (if s.2.isNone then .ready else .done) s.2 st.fr params assign body]) (n:=n+1) (k:=n) (kt:=kt) (t:=t) (fun s=>by simp [hn]) (by omega) (by omega) (fun s=>gk _ _) (fun s=>yN _ _ _)
  (wE step) (fun s=>s.2=none) (fun s u hs h=>by simpa [wE] using h) hB (fun s u hs hu=>by
   obtain⟨s,j⟩:=s
   simp only at hs;subst hs
   refine sj (fr:=st.fr) (params:=params) (assign:=assign) (body:=body) (gn _ _) (by simp [hp]) fun l=>?_
   have hl:(pre s++[bx.loop .ready none st.fr params assign body]).length=n+1:=by simp [hn]
   simp only [abY,if_true,hl]
   refine ek.mono (Br s u hu l (.loop .ready none st.fr params assign body) (.loop .busy none st.fr params assign body) zw zw) ?_
   rintro ex tK ⟨h1,h2,h3⟩
   refine⟨h1,h2,ek.mono h3 ?_⟩
   rintro ex zI ⟨h4,h5,h6⟩
   refine⟨_,h4,rfl,h5,?_,?_⟩
   ·rw [take_set (hn _) h5 h6];exact yN _ _ _
   rw [take_set (hn _) h5 h6];rfl) kO (s0,none) rfl
 rw [zU] at it;refine pI (g:=169) (vs:=[.j9 n,.ptr kt 0]) (by rw [hf,hlen];rfl) (by rw [ng];exact it) ?_;rw [hlen];refine⟨_,_,_,_,_,_,gn _ _,?_,?_⟩;·cases (jg step s0 t.nodes).2 <;> simp
 generalize hj:(jg step s0 t.nodes).2=j at hq;cases j with|none=>dsimp only at hq ⊢;rw [HJ];exact hq|some c=>dsimp only at hq ⊢;rw [HJ];exact hq
end
end
theorem uV {σ α:Type} (g:σ→α→σ):∀ (l:List α) (s:σ),jg (fun s u=>(g s u,none)) s l=(l.foldl g s,none)
 | [],s=>rfl
 | u :: r,s=>by simp only [jg,ew];exact uV g r _
theorem Bs {α:Type}:∀ (l:List α) (a:Nat),a+l.length≤1152921504606846976→l.foldl (fun (s:Int) _=>IntKind.i64.wrap (s+1)) (a:Int)=((a+l.length:Nat):Int)
 | [],a,_=>rfl
 | _ :: r,a,h=>by
  simp only [af] at h
  rw [ew,bm a (by omega),Bs r (a+1) (by omega),af]
  congr 1;omega
theorem od (t:Ty) (ht:t.size≤1048576):b8 aj 86 [br t] (num t.size):=by
 refine jL tt_ok (fn:=Tryz.f86) Tryz.func86 rfl Tryz.call86 ?_;simp only [cZ,cO,Tryz.ntmps86,af,ai,zA,zF,aH,aI];have ZN:=fun B0 B1 h=>HI t [B0,B1] h;rw [aM] at ZN ⊢;simp only [ax] at ZN ⊢;refine aq tt_ok fun K hK=>?_;simp only [go_sem];refine hK _ ?_;refine aq tt_ok fun K hK=>?_;simp only [go_sem];refine hK _ ?_;refine bE ?_;refine aq tt_ok fun K hK=>?_;simp only [go_sem];refine .inr <| .inl ⟨_,_,ZN _ _ rfl,?_⟩
 try simp only [go_sem]
 refine hK _ ?_;refine bU (Nn (t:=t) (B:=1048576) (fun s:Int=>[.box (ax t),.box [num s],.box (ax t)]) 0 3 2 rfl (fun _=>rfl) (by omega) (fun _=>rfl) (fun _=>rfl) rfl rfl rfl (fun s _=>(IntKind.i64.wrap (s+1),none)) (by omega) ht ?_ ?_);·intro s u hu l LR LB hLR hLB;refine cw ⟨rfl,rfl,bU ?_⟩;refine a7 tt_ok fun K hK=>?_;simp only [go_sem];refine hK _ ?_;exact⟨rfl,rfl,rfl⟩
 rw [uV,show (0:Int)=((0:Nat):Int) from rfl,Bs _ _ (by rw [Ty.wD _ t (aB _)];omega),Ty.wD _ t (aB _),cr];show ek _ _ _ _ _ _;refine aq tt_ok fun K hK=>?_;simp only [go_sem];refine hK _ ?_;exact cn ⟨.inl rfl,rfl⟩
def cy {α:Type} (f:α→Int):List α→Int
  | []=>0
  | u :: r=>if f u=0 then cy f r else f u
def xP (a b:ByteArray):Int:=if a=b then 5 else if Qy b a=true then 1 else 0
def iJ:List ByteArray→Int
  | []=>0
  | a :: r=>match r with
    | []=>0
    | b :: _=>if xP a b=0 then iJ r else xP a b
def iX (t:Ty):Bool:=decide (t.kind=0)&&jU t.mod&&jU t.name&&decide (t.args.length=0)&&decide (t.bD.length=0)
def J8 (t:Ty):Bool :=
  (decide (t.kind=8) || !(t.bD.any Fd.opt)) &&
  (if t.kind=0∨t.kind=1∨t.kind=2∨t.kind=3∨t.kind=4 then jU t.mod&&jU t.name&&decide (t.args.length=0)&&decide (t.bD.length=0)
   else if t.kind=5 then jU t.mod&&jU t.name&&decide (t.args.length=1)&&decide (t.bD.length=0)
   else if t.kind=6∨t.kind=7 then jU t.mod&&jU t.name&&decide (t.args.length=0)
   else if t.kind=8 then jU t.mod&&jU t.name&&decide (t.args.length=1)
   else if t.kind=9 then jU t.mod&&decide (t.args.length=0)&&decide (t.bD.length=0)
   else if t.kind=10 then decide (t.bD.length=0) else false)
def qz (t:Ty):Int :=
  if J8 t=false then 1
  else if 32<t.bD.length∨8<t.args.length then 7
  else if (t.kind=9∧xL t.name=false)∨(t.kind=10∧(nY t.mod=false∨kI t.name=false)) then 4
  else if (t.bD.any fun f=>!dX f.name)=true then 4
  else iJ (t.bD.map Fd.name)
def mg (t:Ty):Int:=if 4096<t.size∨32<t.depth then 7 else cy qz t.nodes
end Go.Proofs.YtfbbfmcggbapoaaGreatDoor
end
