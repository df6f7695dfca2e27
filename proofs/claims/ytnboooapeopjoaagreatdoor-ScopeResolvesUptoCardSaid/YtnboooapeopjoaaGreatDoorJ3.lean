import Derived.Test.YtnboooapeopjoaaGreatDoorJ2
import Derived.Shelf.Small.Wraps
import Derived.Shelf.Strings.Search3
import Derived.Shelf.Strings.Split
import Derived.Test.YtnboooapeopjoaaGreatDoorProg
import Derived.IntWalk
open Array renaming toArray_toList→cX
open Bool renaming and_eq_true→aD,and_false→aM,and_true→aF,eq_iff_iff→ju,false_eq_true→bJ
open ByteArray renaming data_append→xp,ext→as4,size_append→Vk
open Go.Proofs.Tryz renaming prog→ab
open Int renaming cast_ofNat_Int→bB,le_refl→as0,lt_of_lt_of_le→atJ,toNat_natCast→ad2
open List renaming all_append→mP,all_cons→ct,all_eq_true→aX,all_nil→dO,any_eq_true→Gu,append_assoc→sf,cons_append→ai,drop_drop→atp,drop_succ_cons→ZR,ext_getElem?→dq,flatMap_append→asT,flatMap_cons→jx,foldl_append→Dj,foldl_cons→fq,getElem?_append_left→bx,getElem?_append_right→a6,getElem?_cons_zero→ee,getElem?_drop→CM,getElem?_eq_getElem→af,getElem?_eq_none→dN,getElem?_eq_none_iff→atU,getElem?_eq_some_iff→aq,getElem?_map→ae,getElem?_set_ne→cL,getElem?_set_self→asP,getElem?_take_of_lt→jO,headD_cons→bg,length_append→bc,length_cons→aj,length_drop→ux,length_map→aw,length_nil→aA,length_singleton→asS,map_append→dh,map_congr_left→iq,map_cons→cz,map_id→as3,map_map→ar6,map_nil→bW,mem_append→ft,mem_cons_of_mem→bE,mem_cons_self→bZ,mem_iff_getElem?→bS,mem_map→dr,mem_of_getElem?→ay,mem_or_eq_of_mem_set→atl,mem_range→aov,mem_singleton→dX,nil_append→ak,replicate_succ→aH,replicate_zero→aI,set_append_right→dt,set_cons_zero→eD,take_add_one→bn,take_append_drop→ld,take_left→rM,take_length→au,take_of_length_le→bu
open Nat renaming add_comm→UU,add_sub_cancel→adt,add_sub_cancel_left→ef,add_zero→kG,le_antisymm→asR,le_of_ble_eq_true→jf,le_of_not_lt→ajr,le_refl→ax,le_succ_of_le→atB,lt_or_ge→br,not_lt_zero→cf,sub_add_cancel→atK,sub_self→cI,zero_add→aZ,zero_le→aW
open Option renaming getD_some→ajp,isNone_none→ads,map_eq_some_iff→bH,map_some→aC
open Prod renaming ext→asY
open UInt8 renaming toNat_inj→atv
set_option linter.all false
section
namespace Go.Proofs.YtnboooapeopjoaaGreatDoor
set_option maxHeartbeats 4000000
set_option maxRecDepth 100000
section
open Go.RowKit Go.Lib Go.Shelf
def H2:Go.Shelf.Ren:=⟨fun|103=>249|210=>282|206=>308|n=>n,fun|9=>9|4=>4|24=>129|3=>3|n=>n,fun|n=>n⟩
theorem Wv:Go.Proofs.Lays.n103 ab H2 := {
 mixed:=kr
 f103:=Tryz.func249.trans (congrArg some kr)
 f206:=Tryz.func308.trans (congrArg some kr)
 f210:=Tryz.func282.trans (congrArg some kr)
 t3:=Tryz.underlying3
 a3:=Tryz.isAgg3
 z3:=Tryz.sizeOf3
 v3:=Tryz.zeroValue3
 t4:=Tryz.underlying4
 a4:=Tryz.isAgg4
 z4:=Tryz.sizeOf4
 v4:=Tryz.zeroValue4
 t9:=Tryz.underlying9
 a9:=Tryz.isAgg9
 z9:=Tryz.sizeOf9
 v9:=Tryz.zeroValue9
 t24:=Tryz.underlying129
 a24:=Tryz.isAgg129
 z24:=Tryz.sizeOf129
 v24:=Tryz.zeroValue129 }
theorem strings_CutPrefix (s p:ByteArray) (w:World) :
  Calls ab 249 #[.string s,.string p] w fun e w'=>e = .returned (.tuple #[.string ⟨(Lib.trimPrefix s.data.toList p.data.toList).toArray⟩,.bool (Lib.hasPrefix s.data.toList p.data.toList)])∧w'=w:=Any.strings_CutPrefix Wv s p w
def H3:Go.Shelf.Ren:=⟨fun|144=>231|143=>270|219=>301|217=>316|225=>317|224=>318|267=>319|266=>322|314=>323|n=>n,fun|9=>9|4=>4|3=>3|5=>5|46=>219|146=>295|51=>252|n=>n,fun|n=>n⟩
theorem Ww:Go.Proofs.Lays.n144 ab H3 := {
 mixed:=kr
 f143:=Tryz.func270.trans (congrArg some kr)
 f144:=Tryz.func231.trans (congrArg some kr)
 f217:=Tryz.func316.trans (congrArg some kr)
 f219:=Tryz.func301.trans (congrArg some kr)
 f224:=Tryz.func318.trans (congrArg some kr)
 f225:=Tryz.func317.trans (congrArg some kr)
 f266:=Tryz.func322.trans (congrArg some kr)
 f267:=Tryz.func319.trans (congrArg some kr)
 f314:=Tryz.func323.trans (congrArg some kr)
 t3:=Tryz.underlying3
 a3:=Tryz.isAgg3
 z3:=Tryz.sizeOf3
 v3:=Tryz.zeroValue3
 t4:=Tryz.underlying4
 a4:=Tryz.isAgg4
 z4:=Tryz.sizeOf4
 v4:=Tryz.zeroValue4
 t5:=Tryz.underlying5
 a5:=Tryz.isAgg5
 z5:=Tryz.sizeOf5
 v5:=Tryz.zeroValue5
 t9:=Tryz.underlying9
 a9:=Tryz.isAgg9
 z9:=Tryz.sizeOf9
 v9:=Tryz.zeroValue9
 t46:=Tryz.underlying219
 a46:=Tryz.isAgg219
 z46:=Tryz.sizeOf219
 v46:=Tryz.zeroValue219
 t51:=Tryz.underlying252
 a51:=Tryz.isAgg252
 z51:=Tryz.sizeOf252
 v51:=Tryz.zeroValue252
 t146:=Tryz.underlying295
 a146:=Tryz.isAgg295
 z146:=Tryz.sizeOf295
 v146:=Tryz.zeroValue295
 g1:=kr }
theorem strings_Contains (s sub:ByteArray) (m:Int) (w:World) (hs:s.size<4294967281) (hm:w.cell? ⟨1,0,none⟩=some (.int .i64 m)) :
  Calls ab 231 #[.string s,.string sub] w fun e w'=>e = .returned (.bool (Lib.contains s.data.toList sub.data.toList))∧w'=w:=Any.strings_Contains Ww s sub m w hs hm
def H4:Go.Shelf.Ren:=⟨fun|146=>195|221=>248|268=>280|138=>281|143=>270|195=>305|197=>306|218=>307|219=>301|260=>321|217=>316|225=>317|224=>318|267=>319|266=>322|314=>323|n=>n,fun|9=>9|31=>36|3=>3|4=>4|0=>0|105=>286|21=>21|5=>5|46=>219|119=>297|139=>300|138=>299|146=>295|51=>252|n=>n,fun|1=>1|3=>4|4=>5|n=>n⟩
theorem Wx:Go.Proofs.Lays.n146 ab H4 := {
 mixed:=kr
 f138:=Tryz.func281.trans (congrArg some kr)
 f143:=Tryz.func270.trans (congrArg some kr)
 f146:=Tryz.func195.trans (congrArg some kr)
 f195:=Tryz.func305.trans (congrArg some kr)
 f197:=Tryz.func306.trans (congrArg some kr)
 f217:=Tryz.func316.trans (congrArg some kr)
 f218:=Tryz.func307.trans (congrArg some kr)
 f219:=Tryz.func301.trans (congrArg some kr)
 f221:=Tryz.func248.trans (congrArg some kr)
 f224:=Tryz.func318.trans (congrArg some kr)
 f225:=Tryz.func317.trans (congrArg some kr)
 f260:=Tryz.func321.trans (congrArg some kr)
 f266:=Tryz.func322.trans (congrArg some kr)
 f267:=Tryz.func319.trans (congrArg some kr)
 f268:=Tryz.func280.trans (congrArg some kr)
 f314:=Tryz.func323.trans (congrArg some kr)
 t0:=Tryz.underlying0
 a0:=Tryz.isAgg0
 z0:=Tryz.sizeOf0
 v0:=Tryz.zeroValue0
 t3:=Tryz.underlying3
 a3:=Tryz.isAgg3
 z3:=Tryz.sizeOf3
 v3:=Tryz.zeroValue3
 t4:=Tryz.underlying4
 a4:=Tryz.isAgg4
 z4:=Tryz.sizeOf4
 v4:=Tryz.zeroValue4
 t5:=Tryz.underlying5
 a5:=Tryz.isAgg5
 z5:=Tryz.sizeOf5
 v5:=Tryz.zeroValue5
 t9:=Tryz.underlying9
 a9:=Tryz.isAgg9
 z9:=Tryz.sizeOf9
 v9:=Tryz.zeroValue9
 t21:=Tryz.underlying21
 a21:=Tryz.isAgg21
 z21:=Tryz.sizeOf21
 v21:=Tryz.zeroValue21
 t31:=Tryz.underlying36
 a31:=Tryz.isAgg36
 z31:=Tryz.sizeOf36
 v31:=Tryz.zeroValue36
 t46:=Tryz.underlying219
 a46:=Tryz.isAgg219
 z46:=Tryz.sizeOf219
 v46:=Tryz.zeroValue219
 t51:=Tryz.underlying252
 a51:=Tryz.isAgg252
 z51:=Tryz.sizeOf252
 v51:=Tryz.zeroValue252
 t105:=Tryz.underlying286
 a105:=Tryz.isAgg286
 z105:=Tryz.sizeOf286
 v105:=Tryz.zeroValue286
 t119:=Tryz.underlying297
 a119:=Tryz.isAgg297
 z119:=Tryz.sizeOf297
 t138:=Tryz.underlying299
 a138:=Tryz.isAgg299
 z138:=Tryz.sizeOf299
 v138:=Tryz.zeroValue299
 t139:=Tryz.underlying300
 a139:=Tryz.isAgg300
 z139:=Tryz.sizeOf300
 v139:=Tryz.zeroValue300
 t146:=Tryz.underlying295
 a146:=Tryz.isAgg295
 z146:=Tryz.sizeOf295
 v146:=Tryz.zeroValue295
 g1:=kr
 g3:=kr
 g4:=kr }
theorem strings_Split (s sep:ByteArray) (m:Int) (w:World) (hs:s.size<4294967281) (hm:w.cell? ⟨1,0,none⟩=some (.int .i64 m)) (h1:1≤sep.size) :
  Calls ab 195 #[.string s,.string sep] w fun e w' =>
   e = .returned (.slice (some ⟨w.heap.size,0,none⟩) (Lib.countB s sep+1) (Lib.countB s sep+1))∧w'=w.alloc (.cells ((Lib.splitB sep 0 (Lib.countB s sep) s).map Value.string).toArray 9):=Any.strings_Split Wx kr s sep m w hs hm h1
end
end Go.Proofs.YtnboooapeopjoaaGreatDoor
end
section
namespace Go.Eng
variable [bk]
open Go.RowKit (Below)
theorem cx.of_same {P:Program} {f:FuncId} {l:List Value} {v:Value} (hc:∀ (xs:Array Value) (w:World),(callFunc f xs).run P w = .ok (.enter f xs) w) (hG:bk.g=some 1)
  (h:∀ w:World,w.cell? ⟨1,0,none⟩=some (.int .i64 bk.n)→Calls P f l.toArray w fun e w'=>e = .returned v∧w'=w):cx P f (l.map V.sc) (lj v):=by
 refine⟨hc,fun F hg w xs hF hx=>?_⟩;have xt:xs=l.toArray:=by rw [← cX (xs:=xs)];congr 1;refine dq fun i=>?_;cases hi:l[i]? with|none =>have h1:=hx.1;rw [aw] at h1;rw [dN (by have:=atU.1 hi;omega)]|some a =>obtain⟨y,hy,hr⟩:=hx.get (i:=i) (v:=.sc a) (by rw [ae,hi];rfl);rw [hy,gP hr]
 rw [xt];refine (h w (hF _ _ (hg.n 1 hG))).mono ?_;rintro e w' ⟨rfl,rfl⟩;exact⟨F,_,rfl,fun _ _ h=>h,hF,fun _ _ h=>.inl h,⟨hg,ll _ _⟩,Below.refl _ _⟩
end Go.Eng
namespace Go.Proofs.YtnboooapeopjoaaGreatDoor
open Go.Eng
open Go.RowKit (Below)
variable [bk]
theorem sZ (hG:bk.g=some 1) (s t:ByteArray) (hs:s.size<4294967281):cx ab 231 [str s,str t] (bl (Lib.contains s.data.toList t.data.toList)) :=
 cx.of_same (l:=[.string s,.string t]) Tryz.call231 hG fun w hw=>strings_Contains s t bk.n w hs hw
theorem Oh (hG:bk.g=some 1) (s t:ByteArray):cx ab 249 [str s,str t] (.ec [str ⟨(Lib.trimPrefix s.data.toList t.data.toList).toArray⟩,bl (Lib.hasPrefix s.data.toList t.data.toList)]) :=
 cx.of_same (l:=[.string s,.string t]) Tryz.call249 hG fun w _=>strings_CutPrefix s t w
def pieces (s:ByteArray):List ByteArray:=Lib.splitB ⟨#[47]⟩ 0 (Lib.countB s ⟨#[47]⟩) s
theorem nr (s:ByteArray):(pieces s).length=Lib.countB s ⟨#[47]⟩+1:=Lib.splitB_all ⟨#[47]⟩ (by decide) 0 _ s rfl
theorem RA (hG:bk.g=some 1) (s:ByteArray) (hs:s.size<4294967281):cx ab 195 [str s,str ⟨#[47]⟩] (.slice ((pieces s).map str)):=by
 refine⟨Tryz.call195,fun F hg w xs hF hx=>?_⟩;obtain⟨x,ys,xt,hr,afM⟩:=hx.of_cons;obtain⟨y,zs,hys,EW,hz⟩:=afM.of_cons;have hzs:=hz.of_nil;subst hzs;have h1:=gP hr;have h2:=gP EW;subst h1;subst h2;subst hys;obtain rfl:xs = #[.string s,.string ⟨#[47]⟩]:=by rw [← cX (xs:=xs),xt]
 refine (strings_Split s ⟨#[47]⟩ bk.n w hs (hF _ _ (hg.n 1 hG)) (by decide)).mono ?_;rintro e w' ⟨rfl,rfl⟩;have hold:∀ ad y,F ad=some y→ad.block≠w.heap.size:=fun ad y h e=>by have:=World.block_lt_of_cell? w ad (hF ad y h);omega
 have pQ:∀ o,(w.alloc (.cells ((pieces s).map Value.string).toArray 9)).cell? ⟨w.heap.size,o,none⟩=((pieces s).map Value.string)[o]?:=fun o=>by unfold World.cell? World.alloc;simp
 let F':Addr→Option Value:=fun ad=>if ad.block=w.heap.size then (w.alloc (.cells ((pieces s).map Value.string).toArray 9)).cell? ad else F ad;have hFF:∀ ad y,F ad=some y→F' ad=some y:=fun ad y h=>by show (if _ then _ else _)=_;rw [if_neg (hold ad y h)];exact h
 have Ha:Gl F':=hg.mono hFF;refine⟨F',_,rfl,hFF,fun ad y h=>?_,fun ad y h=>?_,⟨Ha,?_⟩,(Below.refl _ _).alloc (ax _) _⟩;·by_cases hb:ad.block=w.heap.size;(·rw [show F' ad=_ from if_pos hb] at h;exact h);rw [show F' ad=_ from if_neg hb] at h;have h3:=hF ad y h;rw [← h3];have bR:=World.block_lt_of_cell? w ad h3;unfold World.cell?;rw [Below.heap_alloc w _ _ bR]
 ·by_cases hb:ad.block=w.heap.size;(·exact .inr (by omega));rw [show F' ad=_ from if_neg hb] at h;exact .inl h
 have hl:((pieces s).map str).length=Lib.countB s ⟨#[47]⟩+1:=by rw [aw,nr]
 have:=cV.slice ⟨F',fun _ _=>none,Ha⟩ ((pieces s).map str) (some ⟨w.heap.size,0,none⟩) (Lib.countB s ⟨#[47]⟩+1) 1 ⟨w.heap.size,0,none⟩ (fun i _=>(((pieces s).map Value.string)[i]?).getD undef) (fun _=>rfl) (by rw [hl];exact ax _)
  (fun i row hi=>by rw [ae,bH] at hi;obtain⟨u,-,rfl⟩:=hi;rfl)
  (fun i row j c hi hj=>by
   rw [ae,bH] at hi
   obtain⟨u,hu,rfl⟩:=hi
   match j,hj with
   | 0,hj =>
    show F' _=_
    rw [add_lit,show F' _=_ from if_pos rfl,pQ]
    simp [hu]
   | j+1,hj=>simp [V.cells] at hj)
  (fun i row j c hi hj=>by
   rw [ae,bH] at hi
   obtain⟨u,hu,rfl⟩:=hi
   simp [hu,Value.oneCell'])
  (fun i row j c hi hj=>by
   rw [ae,bH] at hi
   obtain⟨u,hu,rfl⟩:=hi
   match j,hj with
   | 0,hj =>
    cases hj
    simp only [ae,hu,aC,ajp]
    exact .sc _ _
   | j+1,hj=>simp [V.cells] at hj)
 rw [hl] at this;exact this
end Go.Proofs.YtnboooapeopjoaaGreatDoor
end
section
namespace Go.Proofs.YtnboooapeopjoaaGreatDoor
open Go.Eng
variable [bk]
open Nat renaming reduceAdd → zA, reduceLT → zB, reduceLeDiff → zC, reduceMul → zD, reduceEqDiff → zE, reduceSub → zF
set_option maxHeartbeats 4000000
set_option maxRecDepth 100000
def uF:ByteArray:=⟨#[32,97,110,100,32,97,110,121,32,97,115,32,98,111,111,108,32,100,101,112,114,101,99,97,116,101,100,32,101,108,115,101,32,101,120,112,111,114,116,32,102,97,108,115,101,32,102,110,32,102,111,108,100,32,102,114,111,109,32,105,102,32,105,109,112,111,114,116,32,105,110,32,105,110,116,32,108,101,110,103,116,104,32,108,101,116,32,108,105,115,116,32,109,97,116,99,104,32,109,111,100,117,108,101,32,110,111,110,101,32,110,111,116,32,111,114,32,116,101,120,116,32,116,104,101,110,32,116,114,117,101,32,116,121,112,101,32,117,115,101,32]⟩
def kwB (s:ByteArray):Bool:=Lib.contains uF.data.toList (⟨#[32]⟩++s++⟨#[32]⟩:ByteArray).data.toList
def dJ (s:ByteArray):Bool:=decide (1≤s.size)&&decide (s.size≤32)&&HY (eL s 0)&&l4 uj s && !kwB s
def uo (s:ByteArray):Bool:=dJ s&&l4 C5 s
def mY (s:ByteArray):ByteArray:=⟨(Lib.trimPrefix s.data.toList [118]).toArray⟩
def s5 (s:ByteArray):Bool:=Lib.hasPrefix s.data.toList [118]
def jv (t:ByteArray):Nat→Int
 | 0=>0
 | k+1=>10*jv t k+(eL t k-48)
def s6 (t:ByteArray):Bool:=decide (1≤t.size)&&decide (t.size≤3) && !(decide (1<t.size)&&decide (eL t 0=48))&&l4 k6 t
def gh (s:ByteArray):Bool:=s5 s&&s6 (mY s)
def pb (s:ByteArray):Int:=jv (mY s) (mY s).size
theorem Bw {p:Int→Bool} {s:ByteArray} (h:l4 p s=true) {i:Nat} {c:UInt8} (hc:s[i]?=some c):p c.toNat=true:=aX.1 h c (ay (sY hc))
theorem u4 {t:ByteArray} (h:l4 k6 t=true):∀ k,k≤t.size→0≤jv t k∧jv t k<10 ^ k
 | 0,_=>⟨as0 _,by simp [jv]⟩
 | k+1,hk=>by
  obtain⟨h1,h2⟩:=u4 h k (by omega)
  obtain⟨c,hc⟩:=eK (s:=t) (i:=k) (by omega)
  have h3:=Bw h hc
  unfold k6 at h3
  simp only [aD,decide_eq_true_eq] at h3
  rw [jv,eQ hc,Int.pow_succ]
  omega
theorem RB {t:ByteArray} (h:l4 k6 t=true) (h3:t.size≤3) {k:Nat} (hk:k≤t.size):0≤jv t k∧jv t k<1000:=by
 obtain⟨h1,h2⟩:=u4 h k hk;refine⟨h1,atJ h2 ?_⟩;have:k=0∨k=1∨k=2∨k=3:=by omega
 rcases this with rfl|rfl|rfl|rfl <;> decide
theorem KX (hG:bk.g=some 1) (s:ByteArray) (hs:s.size≤1000000):Cn 179 [str s] (bl (kwB s)):=by refine fZ tt_ok [] 7 [.tmp 2] (fn:=Tryz.f179) Tryz.func179 rfl Tryz.call179 ⟨rfl,rfl,by simp⟩ fun K hK=>?_;have sa1:=fun x y=>E9 ab 9 x y ⟨#[32]⟩ s (by rw [show (⟨#[32]⟩:ByteArray).size=1 from rfl,show IntKind.i64.max=9223372036854775807 from rfl];omega);have sa2:=fun x y=>E9 ab 9 x y (⟨#[32]⟩++s) ⟨#[32]⟩ (by rw [Vk,show (⟨#[32]⟩:ByteArray).size=1 from rfl,show IntKind.i64.max=9223372036854775807 from rfl];omega);simp only [sa1,sa2,go_sem];refine dg (⟨_,rfl,sZ hG _ _ (by decide)⟩) ?_;simp only [sa1,sa2,go_sem];exact hK _ rfl
theorem jn (hG:bk.g=some 1) (s:ByteArray):Cn 130 [str s] (bl (dJ s)):=by
 refine fZ tt_ok [] 24 [.tmp 2] (fn:=Tryz.f130) Tryz.func130 rfl Tryz.call130 ⟨rfl,rfl,by simp⟩ fun K hK=>?_;have l7:ab.underlying 9=some .string:=kr;have sl:∀ (a:ByteArray) (ty:TypeId),iH ab (Builtin.len_ #[9] ty) [.sc (.string a)]=some (num a.size):=fun a ty=>gF (P:=ab) (tt:=tt) (T:=9) a l7 ty;simp only [sl,go_sem];refine bQ (fun s7=>?_) (fun s7=>?_);·have h1:=FH rfl s7;obtain⟨H5,kx⟩:=eK (s:=s) (i:=(0:Int).toNat) (by omega);have dx:=fA (P:=ab) s l7 .i64 (0) (by omega) (c:=H5) kx;have lv:eL s 0=H5.toNat:=eQ kx;simp only [dx,sl,go_sem];refine bQ (fun DR=>?_) (fun DR=>?_) <;> simp only [dx,sl,go_sem];(·refine dg (Bt _) ?_;repeat' (simp only [dx,sl,go_sem];first|refine bQ (fun hg=>?_) (fun hg=>?_)|refine dg (Bv 170 uj MU s (by have:=of_decide_eq_true DR;omega)) ?_|refine dg (KX hG s (by have:=of_decide_eq_true DR;omega)) ?_|(exact hK _ (congrArg bl (by simp_all [dJ] <;> (intros;omega))))));exact hK _ (congrArg bl (by simp_all [dJ] <;> (intros;omega)))
 have h1:=Bs rfl s7;simp only [sl,go_sem];exact hK _ (congrArg bl (by simp_all [dJ] <;> (intros;omega)))
theorem KY (hG:bk.g=some 1) (s:ByteArray):Cn 196 [str s] (.ec [num (if gh s=true then pb s else 0),bl (gh s)]):=by
 refine fZ tt_ok [] 53 [.tmp 2,.tmp 3] (fn:=Tryz.f196) Tryz.func196 rfl Tryz.call196 ⟨rfl,rfl,by simp⟩ fun K hK=>?_;have l7:ab.underlying 9=some .string:=kr;have sl:∀ (a:ByteArray) (ty:TypeId),iH ab (Builtin.len_ #[9] ty) [.sc (.string a)]=some (num a.size):=fun a ty=>gF (P:=ab) (tt:=tt) (T:=9) a l7 ty;have hT5:ab.underlying 5=some (.int .u8):=kr;have hT3:ab.underlying 3=some (.int .i64):=kr;have cv:=fun (k:IntKind) (n:Int)=>Mo (P:=ab) (src:=5) (dst:=3) hT5 hT3 k n;simp only [sl,cv,go_sem];refine dg (⟨_,rfl,Oh hG s ⟨#[118]⟩⟩) ?_;obtain⟨t,ht⟩:∃ t,t=mY s:=⟨_,rfl⟩;obtain⟨hv,hhv⟩:∃ b,b=s5 s:=⟨_,rfl⟩;have e1:(⟨(Lib.trimPrefix s.data.toList [118]).toArray⟩:ByteArray)=t:=ht.symm;have e2:Lib.hasPrefix s.data.toList [118]=hv:=hhv.symm;have JR:gh s=(hv&&s6 t):=by rw [hhv,ht];rfl
 simp only [e1,e2];simp only [sl,cv,go_sem];refine bQ (fun uG=>?_) (fun uG=>?_)
 ·have kZ:gh s=false:=by rw [JR];simp_all [s6] <;> (intros;omega)
  simp only [sl,cv,go_sem];refine hK _ ?_
  first
   | (rw [kZ];rfl)
   | (rw [fF];subst hZ;unfold pb;rw [← ht];rfl)
 simp only [sl,cv,go_sem];refine bQ (fun RC=>?_) (fun RC=>?_)
 ·have h1:t.size=0:=Bs (e:=⟨#[]⟩) rfl (by rw [RC];rfl);have kZ:gh s=false:=by rw [JR];simp_all [s6] <;> (intros;omega)
  simp only [sl,cv,go_sem];refine hK _ ?_
  first
   | (rw [kZ];rfl)
   | (rw [fF];subst hZ;unfold pb;rw [← ht];rfl)
 have h1:1≤t.size:=FH (e:=⟨#[]⟩) rfl (by rw [RC];rfl);obtain⟨H5,kx⟩:=eK (s:=t) (i:=(0:Int).toNat) (by omega);have dx:=fA (P:=ab) t l7 .i64 (0) (by omega) (c:=H5) kx;have lv:eL t 0=H5.toNat:=eQ kx;simp only [dx,sl,cv,go_sem];refine bQ (fun KZ=>?_) (fun KZ=>?_)
 ·have kZ:gh s=false:=by rw [JR];simp_all [s6] <;> (intros;omega)
  simp only [dx,sl,cv,go_sem];refine hK _ ?_
  first
   | (rw [kZ];rfl)
   | (rw [fF];subst hZ;unfold pb;rw [← ht];rfl)
 simp only [dx,sl,cv,go_sem];refine bQ (fun abG=>?_) (fun abG=>?_) <;> simp only [dx,sl,cv,go_sem]
 ·refine bQ (fun abH=>?_) (fun abH=>?_)
  ·have kZ:gh s=false:=by rw [JR];simp_all [s6] <;> (intros;omega)
   simp only [dx,sl,cv,go_sem];refine hK _ ?_
   first
    | (rw [kZ];rfl)
    | (rw [fF];subst hZ;unfold pb;rw [← ht];rfl)
  simp only [dx,sl,cv,go_sem];refine dg (Bv 198 k6 wE t (by have:=of_decide_eq_false KZ;omega)) ?_;simp only [dx,sl,cv,go_sem];refine bQ (fun x6=>?_) (fun x6=>?_)
  ·have kZ:gh s=false:=by rw [JR];simp_all [s6] <;> (intros;omega)
   simp only [dx,sl,cv,go_sem];refine hK _ ?_
   first
    | (rw [kZ];rfl)
    | (rw [fF];subst hZ;unfold pb;rw [← ht];rfl)
  have fF:gh s=true:=by rw [JR];simp_all [s6] <;> (intros;omega)
  have Oi:s6 t=true:=by rw [JR] at fF;simp at fF;exact fF.2
  have Wy:l4 k6 t=true:=by unfold s6 at Oi;simp only [aD] at Oi;exact Oi.2
  have h3:t.size≤3:=by unfold s6 at Oi;simp only [aD,decide_eq_true_eq] at Oi;exact Oi.1.1.2
  simp only [dx,sl,cv,go_sem];refine cZ tt_ok [] [40,5] 0 [0,2,3,37,39] (fun vs=>((t.size:Int)-Go.Eng.intOf (vs.headD .undef)).toNat) (fun vs=>∃ i:Nat,vs=[num i,num (jv t i)]∧i≤t.size) (by omega) (by simp only [dx,sl,cv,go_sem]) (⟨0,rfl,aW _⟩) fun vs hI Z1 dv=>?_;obtain⟨i,rfl,hi⟩:=hI;simp only [dx,sl,cv,go_sem];refine bQ (fun Bx=>?_) (fun Bx=>?_);·(have bR:i<t.size:=by simpa using Bx);have hw:=a7 i (by omega);obtain⟨c,vD⟩:=eK (s:=t) (i:=i) bR;have oQ:=fA (P:=ab) t l7 .i64 (i:Int) (by omega) (c:=c) (show t[((i:Nat):Int).toNat]?=some c from vD);have Wz:=Bw Wy vD;unfold k6 at Wz;simp only [aD,decide_eq_true_eq] at Wz;obtain⟨hd0,Vy⟩:=RB Wy h3 hi;(have hu:IntKind.u8.wrap ((c.toNat:Int)-48)=(c.toNat:Int)-48:=by have h:=c.toNat_lt;simp only [IntKind.wrap,IntKind.bits,IntKind.signed];simp;omega);have By:IntKind.i64.wrap ((c.toNat:Int)-48)=(c.toNat:Int)-48:=IntWalk.i64_in _ (by omega);have Bz:IntKind.i64.wrap (10*jv t i)=10*jv t i:=IntWalk.i64_in _ (by omega);(have BA:IntKind.i64.wrap (10*jv t i+((c.toNat:Int)-48))=jv t (i+1):=by rw [jv,eQ vD];exact IntWalk.i64_in _ (by omega));simp only [dx,hw,oQ,hu,By,Bz,BA,sl,cv,go_sem];refine dv _ (fR (by omega) (by simp only [dx,hw,oQ,hu,By,Bz,BA,sl,cv,go_sem]) ?_ ?_) <;> simp only [eE,lk,reduceIte,zE];(·exact⟨i+1,rfl,bR⟩);simp only [Go.Eng.intOf,bg];omega
  have hZ:i=t.size:=asR hi (ajr (by simpa using Bx));simp only [dx,sl,cv,go_sem];refine hK _ ?_
  first
   | (rw [kZ];rfl)
   | (rw [fF];subst hZ;unfold pb;rw [← ht];rfl)
 refine dg (Bv 198 k6 wE t (by have:=of_decide_eq_false KZ;omega)) ?_;simp only [dx,sl,cv,go_sem];refine bQ (fun x6=>?_) (fun x6=>?_)
 ·have kZ:gh s=false:=by rw [JR];simp_all [s6] <;> (intros;omega)
  simp only [dx,sl,cv,go_sem];refine hK _ ?_
  first
   | (rw [kZ];rfl)
   | (rw [fF];subst hZ;unfold pb;rw [← ht];rfl)
 have fF:gh s=true:=by rw [JR];simp_all [s6] <;> (intros;omega)
 have Oi:s6 t=true:=by rw [JR] at fF;simp at fF;exact fF.2
 have Wy:l4 k6 t=true:=by unfold s6 at Oi;simp only [aD] at Oi;exact Oi.2
 have h3:t.size≤3:=by unfold s6 at Oi;simp only [aD,decide_eq_true_eq] at Oi;exact Oi.1.1.2
 simp only [dx,sl,cv,go_sem];refine cZ tt_ok [] [40,5] 0 [0,2,3,37,39] (fun vs=>((t.size:Int)-Go.Eng.intOf (vs.headD .undef)).toNat) (fun vs=>∃ i:Nat,vs=[num i,num (jv t i)]∧i≤t.size) (by omega) (by simp only [dx,sl,cv,go_sem]) (⟨0,rfl,aW _⟩) fun vs hI Z2 jk=>?_;obtain⟨i,rfl,hi⟩:=hI;simp only [dx,sl,cv,go_sem];refine bQ (fun Bx=>?_) (fun Bx=>?_);·(have bR:i<t.size:=by simpa using Bx);have hw:=a7 i (by omega);obtain⟨c,vD⟩:=eK (s:=t) (i:=i) bR;have oQ:=fA (P:=ab) t l7 .i64 (i:Int) (by omega) (c:=c) (show t[((i:Nat):Int).toNat]?=some c from vD);have Wz:=Bw Wy vD;unfold k6 at Wz;simp only [aD,decide_eq_true_eq] at Wz;obtain⟨hd0,Vy⟩:=RB Wy h3 hi;(have hu:IntKind.u8.wrap ((c.toNat:Int)-48)=(c.toNat:Int)-48:=by have h:=c.toNat_lt;simp only [IntKind.wrap,IntKind.bits,IntKind.signed];simp;omega);have By:IntKind.i64.wrap ((c.toNat:Int)-48)=(c.toNat:Int)-48:=IntWalk.i64_in _ (by omega);have Bz:IntKind.i64.wrap (10*jv t i)=10*jv t i:=IntWalk.i64_in _ (by omega);(have BA:IntKind.i64.wrap (10*jv t i+((c.toNat:Int)-48))=jv t (i+1):=by rw [jv,eQ vD];exact IntWalk.i64_in _ (by omega));simp only [dx,hw,oQ,hu,By,Bz,BA,sl,cv,go_sem];refine jk _ (fR (by omega) (by simp only [dx,hw,oQ,hu,By,Bz,BA,sl,cv,go_sem]) ?_ ?_) <;> simp only [eE,lk,reduceIte,zE];(·exact⟨i+1,rfl,bR⟩);simp only [Go.Eng.intOf,bg];omega
 have hZ:i=t.size:=asR hi (ajr (by simpa using Bx));simp only [dx,sl,cv,go_sem];refine hK _ ?_
 first
  | (rw [kZ];rfl)
  | (rw [fF];subst hZ;unfold pb;rw [← ht];rfl)
section
def DS (s:ByteArray):ByteArray:=(pieces s).getLast?.getD ⟨#[]⟩
def dY (s:ByteArray):Bool:=gh (DS s)&&decide (s.size≤64)&&decide (2≤(pieces s).length)&&(pieces s).all uo
def kz (s:ByteArray):Int:=if dY s=true then pb (DS s) else 0
def kc (s:ByteArray):Int:=if dY s=true then 0 else 4
theorem DT (s:ByteArray):(pieces s).length≤s.size+1:=by rw [nr];have:=Lib.countB_le ⟨#[47]⟩ (by decide) s.size s (ax _);omega
theorem H6 {s z:ByteArray} (h:(pieces s)[(pieces s).length-1]?=some z):DS s=z:=by unfold DS;rw [List.getLast?_eq_getElem?,h];rfl
theorem RD {α:Type} {q:α→Bool} {l:List α} (h:∀ j<l.length,∀ x,l[j]?=some x→q x=true):l.all q=true:=by rw [aX];intro x hx;obtain⟨j,hj⟩:=bS.1 hx;exact h j (aq.1 hj).1 x hj
theorem u5 {α:Type} {q:α→Bool} {l:List α} {i:Nat} {x:α} (h:l[i]?=some x) (hq:q x=false):l.all q=false:=by cases ha:l.all q with|false=>rfl|true=>have:=aX.1 ha x (ay h);rw [hq] at this;cases this
section
attribute [local go_sem] aw ae
theorem RE (hG:bk.g=some 1) (s:ByteArray) (hs:s.size≤1048576):Cn 138 [str s] (.ec [num (kz s),num (kc s)]):=by
 refine fZ tt_ok [] 49 [.tmp 2,.tmp 3] (fn:=Tryz.f138) Tryz.func138 rfl Tryz.call138 ⟨rfl,rfl,by simp⟩ fun K hK=>?_;have l7:ab.underlying 9=some .string:=kr;have sl:∀ (a:ByteArray) (ty:TypeId),iH ab (Builtin.len_ #[9] ty) [.sc (.string a)]=some (num a.size):=fun a ty=>gF (P:=ab) (tt:=tt) (T:=9) a l7 ty;simp only [sl,go_sem];refine dg (⟨_,rfl,RA hG s (by omega)⟩) ?_;obtain⟨P,hP⟩:∃ P,P=pieces s:=⟨_,rfl⟩;have hPl:=DT s;have hP1:=nr s;rw [← hP];rw [← hP] at hPl hP1;obtain⟨z,hz⟩:∃ z,P[P.length-1]?=some z:=⟨_,af (by omega)⟩;have vF:DS s=z:=H6 (by rw [← hP];exact hz);have ez:IntKind.i64.wrap ((P.length:Int)-1)=((P.length-1:Nat):Int):=lu _ _ (by omega) (by omega);simp only [hz,ez,sl,go_sem];refine dg (KY hG z) ?_;simp only [hz,ez,sl,go_sem];refine bQ (fun afN=>?_) (fun afN=>?_)
 ·have kZ:dY s=false:=by unfold dY;rw [vF,← hP];simp_all <;> (intros;omega)
  simp only [hz,ez,sl,go_sem];refine hK _ ?_
  first
   | (unfold kz kc;rw [kZ];rfl)
   | (unfold kz kc;rw [fF,vF];simp_all;done)
   | (unfold kz kc;rw [fF,vF];simp_all;rfl)
 simp only [hz,ez,sl,go_sem];refine bQ (fun afO=>?_) (fun afO=>?_)
 ·have kZ:dY s=false:=by unfold dY;rw [vF,← hP];simp_all <;> (intros;omega)
  simp only [hz,ez,sl,go_sem];refine hK _ ?_
  first
   | (unfold kz kc;rw [kZ];rfl)
   | (unfold kz kc;rw [fF,vF];simp_all;done)
   | (unfold kz kc;rw [fF,vF];simp_all;rfl)
 simp only [hz,ez,sl,go_sem];refine bQ (fun K0=>?_) (fun K0=>?_)
 ·have kZ:dY s=false:=by unfold dY;rw [vF,← hP];simp_all <;> (intros;omega)
  simp only [hz,ez,sl,go_sem];refine hK _ ?_
  first
   | (unfold kz kc;rw [kZ];rfl)
   | (unfold kz kc;rw [fF,vF];simp_all;done)
   | (unfold kz kc;rw [fF,vF];simp_all;rfl)
 simp only [hz,ez,sl,go_sem];refine cZ tt_ok [] [35] 0 [5,32,33,34] (fun vs=>((P.length:Int)-Go.Eng.intOf (vs.headD .undef)).toNat) (fun vs=>∃ i:Nat,vs=[num i]∧i≤P.length∧∀ j<i,∀ x,P[j]?=some x→uo x=true) (by omega) (by simp only [hz,ez,sl,go_sem]) (⟨0,rfl,aW _,fun j hj=>absurd hj (cf j)⟩) fun vs hI Z1 dv=>?_;obtain⟨i,rfl,hi,cD⟩:=hI;simp only [hz,ez,sl,go_sem];refine bQ (fun x7=>?_) (fun x7=>?_)
 ·have bR:i<P.length:=by simpa using x7
  have hw:=a7 i (by omega);obtain⟨x,hx⟩:∃ x,P[i]?=some x:=⟨_,af bR⟩;simp only [hz,ez,hw,hx,sl,go_sem];refine dg (jn hG x) ?_;simp only [hz,ez,hw,hx,sl,go_sem];refine bQ (fun YT=>?_) (fun YT=>?_)
  ·have kZ:dY s=false:=by have ha:P.all uo=false:=u5 hx (by unfold uo;simp_all);unfold dY;rw [← hP,ha];simp
   simp only [hz,ez,hw,hx,sl,go_sem];refine hK _ ?_
   first
    | (unfold kz kc;rw [kZ];rfl)
    | (unfold kz kc;rw [fF,vF];simp_all;done)
    | (unfold kz kc;rw [fF,vF];simp_all;rfl)
  have YU:dJ x=true:=by simpa using YT
  simp only [hz,ez,hw,hx,sl,go_sem];refine dg (Bv 197 C5 afG x (by have h:=YU;unfold dJ at h;simp only [aD,decide_eq_true_eq] at h;omega)) ?_;simp only [hz,ez,hw,hx,sl,go_sem];refine bQ (fun K2=>?_) (fun K2=>?_)
  ·have kZ:dY s=false:=by have ha:P.all uo=false:=u5 hx (by unfold uo;simp_all);unfold dY;rw [← hP,ha];simp
   simp only [hz,ez,hw,hx,sl,go_sem];refine hK _ ?_
   first
    | (unfold kz kc;rw [kZ];rfl)
    | (unfold kz kc;rw [fF,vF];simp_all;done)
    | (unfold kz kc;rw [fF,vF];simp_all;rfl)
  simp only [hz,ez,hw,hx,sl,go_sem];refine dv _ (fR (by omega) (by simp only [hz,ez,hw,hx,sl,go_sem]) ?_ ?_) <;> simp only [eE,lk,reduceIte,zE];·refine⟨i+1,rfl,bR,fun j hj=>?_⟩;(rcases br j i with h|h);(·exact cD j h);(obtain rfl:j=i:=by omega);intro y hy;rw [hx] at hy;cases hy;unfold uo;simp_all
  simp only [Go.Eng.intOf,bg];omega
 have hZ:¬ i<P.length:=by simpa using x7
 have fF:dY s=true:=by have ha:P.all uo=true:=RD fun j hj=>cD j (by omega);unfold dY;rw [vF,← hP,ha];simp_all <;> omega
 simp only [hz,ez,sl,go_sem];refine hK _ ?_
 first
  | (unfold kz kc;rw [kZ];rfl)
  | (unfold kz kc;rw [fF,vF];simp_all;done)
  | (unfold kz kc;rw [fF,vF];simp_all;rfl)
end
theorem lX (hG:bk.g=some 1) (s:ByteArray) (hs:s.size≤1048576):Cn 79 [str s] (bl (dY s)):=by refine fZ tt_ok [] 12 [.tmp 2] (fn:=Tryz.f79) Tryz.func79 rfl Tryz.call79 ⟨rfl,rfl,by simp⟩ fun K hK=>?_;simp only [go_sem];refine dg (RE hG s hs) ?_;simp only [go_sem];exact hK _ (congrArg bl (by unfold kc;by_cases h:dY s=true <;> simp [h]))
end
end Go.Proofs.YtnboooapeopjoaaGreatDoor
end
section
namespace Go.Proofs.YtnboooapeopjoaaGreatDoor
open Go.Eng
set_option maxHeartbeats 4000000
set_option maxRecDepth 100000
def kwL:List (List UInt8):=[[97,110,100],[97,110,121],[97,115],[98,111,111,108],[100,101,112,114,101,99,97,116,101,100],[101,108,115,101],[101,120,112,111,114,116],[102,97,108,115,101],[102,110],[102,111,108,100],[102,114,111,109],[105,102],[105,109,112,111,114,116],[105,110],[105,110,116],[108,101,110,103,116,104],[108,101,116],[108,105,115,116],[109,97,116,99,104],[109,111,100,117,108,101],[110,111,110,101],[110,111,116],[111,114],[116,101,120,116],[116,104,101,110],[116,114,117,101],[116,121,112,101],[117,115,101]]
def kws:List ByteArray:=kwL.map fun l=>⟨l.toArray⟩
theorem WA:kwL.all (fun k=>Lib.contains uF.data.toList (32 :: k++[32]))=true:=kr
def tw (l:List UInt8):List UInt8:=l.takeWhile (· != 32)
theorem afQ:(List.range 200).all (fun i=>!((uF.data.toList.drop i).head?==some 32)||((uF.data.toList.drop (i+1)).isEmpty||kwL.contains (tw (uF.data.toList.drop (i+1)))))=true:=kr
theorem abJ {k r:List UInt8} (h:∀ b∈k,b≠32):tw (k++32 :: r)=k:=by induction k with|nil=>rfl|cons b k ih =>(have hb:(b != 32)=true:=by simpa using h b (bZ ..));show List.takeWhile _ (b :: (k++32 :: r))=_;rw [List.takeWhile_cons,hb];simp only [if_true];exact congrArg (b :: ·) (ih fun c hc=>h c (bE _ hc))
theorem WB:Nat.ble uF.data.toList.length 200=true:=kr
theorem WC (s:ByteArray) (h:l4 uj s=true):kwB s=kws.any fun k=>decide (k=s):=by
 have kZ:∀ b∈ga s,b≠32:=fun b hb e=>by have h1:=aX.1 h b hb;rw [e] at h1;revert h1;decide
 have hd:(⟨#[32]⟩++s++⟨#[32]⟩:ByteArray).data.toList=32 :: ga s++[32]:=by rw [xp,xp];simp [ga]
 have hm:s∈kws↔ga s∈kwL:=by unfold kws;rw [dr];refine⟨fun ⟨l,hl,e⟩=>by rw [← e];simpa [ga] using hl,fun h=>⟨_,h,?_⟩⟩;obtain⟨⟨l⟩⟩:=s;rfl
 have hm2:(kws.any fun k=>decide (k=s))=true↔ga s∈kwL:=by rw [Gu,← hm];exact⟨fun ⟨k,hk,e⟩=>by rw [← of_decide_eq_true e];exact hk,fun h=>⟨s,h,by simp⟩⟩
 rw [ju,hm2];unfold kwB;rw [hd];constructor;·intro hc;unfold Lib.contains at hc;rw [decide_eq_true_eq] at hc;(rcases Lib.index_spec uF.data.toList (32 :: ga s++[32]) with ⟨h1,_⟩|⟨i,h1,h2,h3,_⟩);(·omega);unfold Lib.occAt at h3;rw [List.isPrefixOf_iff_prefix] at h3;obtain⟨r,hr⟩:=h3;(have hi:i<200:=by have hl:=congrArg List.length hr;have:=jf WB;simp only [bc,aj,ux] at hl;omega);have h4:=aX.1 afQ i (aov.2 hi);(have e1:uF.data.toList.drop (i+1)=ga s++32 :: r:=by (have:uF.data.toList.drop (i+1)=(uF.data.toList.drop i).drop 1:=by rw [atp]);rw [this,← hr];simp);rw [← hr,e1,abJ kZ] at h4;simpa using h4
 intro hc;exact aX.1 WA _ hc
theorem BB (s:ByteArray):dJ s=(decide (1≤s.size)&&decide (s.size≤32)&&HY (eL s 0)&&l4 uj s && !(kws.any fun k=>decide (k=s))):=by unfold dJ;cases h:l4 uj s with|false=>simp|true=>rw [WC s h]
def lC (o:List ByteArray) (c:UInt8):List ByteArray:=if c=47 then o++[⟨#[]⟩] else o.set (o.length-1) ((o[o.length-1]?).getD ⟨#[]⟩++⟨#[c]⟩)
def lD (l:List UInt8):List ByteArray:=l.foldl lC [⟨#[]⟩]
def wF (cur:List UInt8):List (List UInt8)→List (List UInt8)
 | []=>[cur]
 | h :: t=>(cur++h) :: t
def Oj (l:List UInt8):ByteArray:=⟨l.toArray⟩
theorem C6 (r:List UInt8):Lib.split (47 :: r) [47]=[] :: Lib.split r [47]:=by
 have oQ:Lib.index (47 :: r) [47]=0:=by rw [Lib.index];simp [List.isPrefixOf]
 unfold Lib.split;rw [Lib.count_cons_eq,UU,Lib.splitK,oQ];simp
theorem C7 (b:UInt8) (r:List UInt8) (h:b≠47):Lib.split (b :: r) [47]=wF [b] (Lib.split r [47]):=by
 have hp:([47]:List UInt8).isPrefixOf (b :: r)=false:=by simp [List.isPrefixOf,Ne.symm h]
 have oQ:Lib.index (b :: r) [47]=if Lib.index r [47] == -1 then -1 else Lib.index r [47]+1:=by rw [Lib.index,hp];simp
 unfold Lib.split;rw [Lib.count_cons_ne b 47 r h];cases hk:Lib.count r [47] with|zero=>rfl|succ k =>rw [Lib.splitK,Lib.splitK,oQ];by_cases hm:Lib.index r [47] = -1;(·rw [hm];rfl);have hZ:=Lib.index_ge r [47];obtain⟨j,hj⟩:∃ j:Nat,Lib.index r [47]=j:=⟨(Lib.index r [47]).toNat,by omega⟩;(have h1:((j:Int) == -1)=false:=by rw [beq_eq_false_iff_ne];omega);(have h2:((j:Int)+1 == -1)=false:=by rw [beq_eq_false_iff_ne];omega);(have h3:((j:Int)+1).toNat=j+1:=by omega);rw [hj,h1];simp only [bJ,if_false,h2,h3,ad2,wF,aj,aA,kG];rw [show j+1+(0+1)=(j+(0+1))+1 by omega,ZR];rfl
theorem WD (a b:List UInt8):Oj a++Oj b=Oj (a++b):=by apply as4;rw [xp];simp [Oj]
theorem FJ:∀ (l:List UInt8) (pre:List ByteArray) (cur:List UInt8),l.foldl lC (pre++[Oj cur])=pre++(wF cur (Lib.split l [47])).map Oj
 | [],pre,cur=>by
  have:Lib.split [] [47]=[[]]:=rfl
  rw [this];simp [wF]
 | b :: r,pre,cur=>by
  rw [fq]
  by_cases h:b=47
  ·subst h
   have hs:lC (pre++[Oj cur]) 47=(pre++[Oj cur])++[Oj []]:=by simp [lC,Oj]
   rw [hs,FJ r,C6]
   have:wF [] (Lib.split r [47])=Lib.split r [47]:=by
    cases hq:Lib.split r [47] with
    | nil=>exfalso;unfold Lib.split at hq;cases hk:Lib.count r [47] <;> rw [hk] at hq <;> rw [Lib.splitK] at hq <;> first|cases hq|(split at hq <;> cases hq)
    | cons a t=>rfl
   rw [this]
   simp [wF]
  have hs:lC (pre++[Oj cur]) b=pre++[Oj (cur++[b])]:=by
   unfold lC
   rw [if_neg h,bc,asS,adt]
   rw [a6 (ax _),cI]
   simp only [ee,ajp]
   rw [dt _ _ (ax _),cI,eD]
   exact congrArg (fun z=>pre++[z]) (WD cur [b])
  rw [hs,FJ r,C7 b r h]
  cases hq:Lib.split r [47] with
  | nil=>simp [wF]
  | cons a t=>simp [wF]
theorem Ok (s:ByteArray):Oj s.data.toList=s:=by obtain⟨⟨l⟩⟩:=s;rfl
theorem s8 (s:ByteArray):lD (ga s)=pieces s:=by
 have h:=FJ (ga s) [] [];have h2:wF [] (Lib.split (ga s) [47])=Lib.split (ga s) [47]:=by cases hq:Lib.split (ga s) [47] with|nil=>(exfalso;unfold Lib.split at hq;cases hk:Lib.count (ga s) [47] <;> rw [hk] at hq <;> rw [Lib.splitK] at hq <;> first|cases hq|(split at hq <;> cases hq))|cons a t=>rfl
 rw [h2,ak] at h;have h3:=Lib.splitB_data ⟨#[47]⟩ 0 (Lib.countB s ⟨#[47]⟩) s;have h4:(pieces s).map (fun x=>x.data.toList)=Lib.split (ga s) [47]:=h3;rw [show lD (ga s)=_ from h,← h4,ar6];conv=>rhs;rw [← as3 (pieces s)]
 exact iq fun x _=>Ok x
theorem wG (l:List UInt8) (c:UInt8):lD (l++[c])=lC (lD l) c:=by unfold lD;rw [Dj];rfl
theorem x8 (s:ByteArray):s5 s=(decide (1≤s.size)&&decide (eL s 0=118)):=by obtain⟨⟨l⟩⟩:=s;cases l with|nil=>rfl|cons b l =>have hb:eL ⟨⟨b :: l⟩⟩ 0=(b.toNat:Int):=rfl;have hs:(⟨⟨b :: l⟩⟩:ByteArray).size=l.length+1:=rfl;rw [hb,hs];show ((118:UInt8)==b&&([]:List UInt8).isPrefixOf l)=_;simp only [List.isPrefixOf_nil_left,aF];rw [ju];simp only [beq_iff_eq,aD,decide_eq_true_eq];constructor;(·rintro rfl;exact⟨by omega,rfl⟩);rintro⟨-,h⟩;apply atv.1;(have:b.toNat=118:=by omega);rw [this];rfl
theorem u6 {s:ByteArray} (h:s5 s=true) (k:Nat):(mY s)[k]?=s[k+1]?:=by
 have hd:(mY s).data.toList=s.data.toList.drop 1:=by show Lib.trimPrefix s.data.toList [118]=_;unfold Lib.trimPrefix;rw [if_pos (show Lib.hasPrefix s.data.toList [118]=true from h)];rfl
 have g:∀ (t:ByteArray) (j:Nat),t[j]?=t.data.toList[j]?:=fun t j=>by obtain⟨⟨l⟩⟩:=t;by_cases hj:j<l.length;(·rw [getElem?_pos (⟨⟨l⟩⟩:ByteArray) j (by exact hj)];show some _=l[j]?;rw [af hj];rfl);rw [getElem?_neg (⟨⟨l⟩⟩:ByteArray) j (by exact hj)];show none=l[j]?;rw [dN (by omega)]
 rw [g,g,hd,CM,UU]
theorem s9 {s:ByteArray} (h:s5 s=true):(mY s).size=s.size-1:=by
 have hd:(mY s).data.toList=s.data.toList.drop 1:=by show Lib.trimPrefix s.data.toList [118]=_;unfold Lib.trimPrefix;rw [if_pos (show Lib.hasPrefix s.data.toList [118]=true from h)];rfl
 rw [Lib.size_eq,hd,ux,← Lib.size_eq]
theorem Ol {s:ByteArray} (h:s5 s=true) (k:Nat):eL (mY s) k=eL s (k+1):=by unfold eL;rw [u6 h]
def zP (s:ByteArray):Bool:=!(decide (s.size<2)||decide (4<s.size) || !decide (eL s 0=118)||(decide (eL s 1=48)&&decide (2<s.size)))
theorem oR (s:ByteArray):gh s=(zP s&&l4 k6 (mY s)):=by unfold gh zP;cases hv:s5 s with|false =>rw [x8] at hv;by_cases h1:s.size<2 <;> simp_all <;> (intros;omega)|true =>have h1:=s9 hv;have h2:=Ol hv 0;rw [x8] at hv;simp only [aD,decide_eq_true_eq] at hv;unfold s6;rw [h1,h2];cases l4 k6 (mY s);(·simp);rw [ju];simp [hv.2];omega
end Go.Proofs.YtnboooapeopjoaaGreatDoor
end
section
namespace Go.Proofs.YtnboooapeopjoaaGreatDoor
open Go.Eng
variable [bk]
open Nat renaming reduceAdd → zA, reduceLT → zB, reduceLeDiff → zC, reduceMul → zD, reduceEqDiff → zE, reduceSub → zF
set_option maxHeartbeats 4000000
set_option maxRecDepth 100000
section
theorem FK  : Cn 61 [] (.slice (kws.map str)):=by refine fZ tt_ok [] 2 [.tmp 0] (fn:=Tryz.f61) Tryz.func61 rfl Tryz.call61 ⟨rfl,rfl,by simp⟩ fun K hK=>?_;simp only [go_sem];exact hK _ rfl
section
attribute [local go_sem] aw
theorem u7 (l:List ByteArray) (s:ByteArray) (hl:l.length≤1048576):Cn 60 [.slice (l.map str),str s] (bl (l.any fun k=>decide (k=s))):=by
 refine fZ tt_ok [] 18 [.tmp 4] (fn:=Tryz.f60) Tryz.func60 rfl Tryz.call60 ⟨rfl,rfl,by simp⟩ fun K hK=>?_;simp only [go_sem];refine cZ tt_ok [] [5] 0 [0,1] (fun vs=>((l.length:Int)-Go.Eng.intOf (vs.headD .undef)).toNat) (fun vs=>∃ i:Nat,vs=[num i]∧i≤l.length∧∀ j<i,∀ x,l[j]?=some x→decide (x=s)=false) (by omega) (by simp only [go_sem]) (⟨0,rfl,aW _,fun j hj=>absurd hj (cf j)⟩) fun vs hI Z1 dv=>?_;obtain⟨i,rfl,hi,cD⟩:=hI;simp only [go_sem];refine bQ (fun kQ=>?_) (fun kQ=>?_);·(have bR:i<l.length:=by simpa using kQ);have hw:=a7 i (by omega);obtain⟨x,hx⟩:∃ x,l[i]?=some x:=⟨_,af bR⟩;simp only [hw,ae,hx,go_sem];refine bQ (fun tc=>?_) (fun tc=>?_);(·have bM:true=l.any fun k=>decide (k=s):=(mr hx (by simpa [de] using tc)).symm;simp only [hw,ae,hx,go_sem];exact hK _ (congrArg bl bM));simp only [hw,ae,hx,go_sem];refine dv _ (fR (by omega) (by simp only [hw,ae,hx,go_sem]) ?_ ?_) <;> simp only [eE,lk,reduceIte,zE];(·refine⟨i+1,rfl,bR,fun j hj=>?_⟩;(rcases br j i with h|h);(·exact cD j h);(obtain rfl:j=i:=by omega);intro y hy;rw [hx] at hy;cases hy;simpa [de] using tc);simp only [Go.Eng.intOf,bg];omega
 have hZ:¬ i<l.length:=by simpa using kQ
 have bM:false=l.any fun k=>decide (k=s):=(any_none fun j hj=>cD j (by omega)).symm;simp only [go_sem];exact hK _ (congrArg bl bM)
end
theorem iW (s:ByteArray):Cn 25 [str s] (bl (dJ s)):=by
 refine fZ tt_ok [] 26 [.tmp 2] (fn:=Tryz.f25) Tryz.func25 rfl Tryz.call25 ⟨rfl,rfl,by simp⟩ fun K hK=>?_;have l7:ab.underlying 9=some .string:=kr;have sl:∀ (a:ByteArray) (ty:TypeId),iH ab (Builtin.len_ #[9] ty) [.sc (.string a)]=some (num a.size):=fun a ty=>gF (P:=ab) (tt:=tt) (T:=9) a l7 ty;simp only [sl,go_sem];refine bQ (fun jD=>?_) (fun jD=>?_) <;> simp only [sl,go_sem];·refine bQ (fun wH=>?_) (fun wH=>?_);(·obtain⟨v0,kx⟩:=eK (s:=s) (i:=0) (by have:=of_decide_eq_true jD;omega);have dx:=fA (P:=ab) s l7 .i64 (0:Int) (by omega) (c:=v0) (show s[((0:Nat):Int).toNat]?=some v0 from kx);have lv:eL s 0=v0.toNat:=eQ kx;simp only [dx,sl,go_sem];refine dg (x3 _) ?_;repeat' (simp only [dx,sl,go_sem];first|refine bQ (fun hg=>?_) (fun hg=>?_)|refine dg (HZ s (by have:=of_decide_eq_true wH;omega)) ?_|refine dg (FK) ?_|refine dg (u7 kws s (by decide)) ?_|(exact hK _ (congrArg bl (by rw [BB];simp_all <;> (intros;omega))))));simp only [sl,go_sem];exact hK _ (congrArg bl (by rw [BB];simp_all <;> (intros;omega)))
 exact hK _ (congrArg bl (by rw [BB];simp_all <;> (intros;omega)))
theorem H7 (s:ByteArray) (hs:s.size≤1048576):Cn 104 [str s] (bl (uo s)):=by
 refine fZ tt_ok [] 24 [.tmp 2] (fn:=Tryz.f104) Tryz.func104 rfl Tryz.call104 ⟨rfl,rfl,by simp⟩ fun K hK=>?_;have l7:ab.underlying 9=some .string:=kr;have sl:∀ (a:ByteArray) (ty:TypeId),iH ab (Builtin.len_ #[9] ty) [.sc (.string a)]=some (num a.size):=fun a ty=>gF (P:=ab) (tt:=tt) (T:=9) a l7 ty;simp only [sl,go_sem];refine cZ tt_ok [] [3] 0 [0] (fun vs=>((s.size:Int)-Go.Eng.intOf (vs.headD .undef)).toNat) (fun vs=>∃ i:Nat,vs=[num i]∧i≤s.size∧∀ j<i,∀ b,s[j]?=some b→C5 b.toNat=true) (by omega) (by simp only [sl,go_sem]) (⟨0,rfl,aW _,fun j hj=>absurd hj (cf j)⟩) fun vs hI Z1 dv=>?_;obtain⟨i,rfl,hi,kZ⟩:=hI;simp only [sl,go_sem];refine bQ (fun Af=>?_) (fun Af=>?_);·(have bR:i<s.size:=by simpa using Af);have hw:=a7 i (by omega);obtain⟨c,vD⟩:=eK (s:=s) (i:=i) bR;have oQ:=fA (P:=ab) s l7 .i64 (i:Int) (by omega) (c:=c) (show s[((i:Nat):Int).toNat]?=some c from vD);simp only [hw,oQ,sl,go_sem];refine dg (x3 _) ?_;simp only [hw,oQ,sl,go_sem];refine bQ (fun afR=>?_) (fun afR=>?_) <;> simp only [hw,oQ,sl,go_sem];(·refine dg (tQ _) ?_;simp only [hw,oQ,sl,go_sem];refine bQ (fun qA=>?_) (fun qA=>?_);(·(have bM:false=uo s:=by unfold uo;rw [oP (p:=C5) vD (by unfold C5;simp_all),aM]);simp only [hw,oQ,sl,go_sem];exact hK _ (congrArg bl bM));simp only [hw,oQ,sl,go_sem];refine dv _ (fR (by omega) (by simp only [hw,oQ,sl,go_sem]) ?_ ?_) <;> simp only [eE,lk,reduceIte,zE];(·refine⟨i+1,rfl,bR,fun j hj b hb=>?_⟩;(rcases br j i with h|h);(·exact kZ j h b hb);(obtain rfl:j=i:=by omega);rw [vD] at hb;cases hb;unfold C5;simp_all);simp only [Go.Eng.intOf,bg];omega);refine dv _ (fR (by omega) (by simp only [hw,oQ,sl,go_sem]) ?_ ?_) <;> simp only [eE,lk,reduceIte,zE];(·refine⟨i+1,rfl,bR,fun j hj b hb=>?_⟩;(rcases br j i with h|h);(·exact kZ j h b hb);(obtain rfl:j=i:=by omega);rw [vD] at hb;cases hb;unfold C5;simp_all);simp only [Go.Eng.intOf,bg];omega
 have hZ:¬ i<s.size:=by simpa using Af
 have cD:l4 C5 s=true:=qz fun j hj b hb=>kZ j (by omega) b hb;have bM:dJ s=uo s:=by unfold uo;rw [cD,aF]
 simp only [sl,go_sem];refine dg (iW s) ?_;simp only [sl,go_sem];exact hK _ (congrArg bl bM)
end
theorem H8 (t:ByteArray):∀ k,(∀ j<k,k6 (eL t j)=true)→0≤jv t k∧jv t k<10 ^ k
 | 0,_=>⟨as0 _,by simp [jv]⟩
 | k+1,h=>by
  obtain⟨h1,h2⟩:=H8 t k fun j hj=>h j (by omega)
  have h3:=h k (by omega)
  unfold k6 at h3
  simp only [aD,decide_eq_true_eq] at h3
  rw [jv,Int.pow_succ]
  omega
theorem DU {t:ByteArray} {k:Nat} (hk:k≤3) (h:∀ j<k,k6 (eL t j)=true):0≤jv t k∧jv t k<1000:=by
 obtain⟨h1,h2⟩:=H8 t k h;refine⟨h1,atJ h2 ?_⟩;have:k=0∨k=1∨k=2∨k=3:=by omega
 rcases this with rfl|rfl|rfl|rfl <;> decide
theorem K3 {s:ByteArray} (h:zP s=true):s5 s=true∧2≤s.size∧s.size≤4:=by unfold zP at h;rw [x8];by_cases h1:s.size<2 <;> by_cases h2:4<s.size <;> simp_all <;> omega
theorem RF {o:List ByteArray} {z:ByteArray} {c:UInt8} (h:o[o.length-1]?=some z) (hc:c≠47):lC o c=o.set (o.length-1) (z++⟨#[c]⟩):=by unfold lC;rw [if_neg hc,h];rfl
theorem DV {s:ByteArray} {i:Nat} {c:UInt8} (h:s[i]?=some c):(ga s).take (i+1)=(ga s).take i++[c]:=by unfold ga;rw [bn,sY h];rfl
theorem H9 (s:ByteArray):Cn 105 [str s] (num (if gh s=true then pb s else -1)):=by
 refine fZ tt_ok [] 48 [.tmp 2] (fn:=Tryz.f105) Tryz.func105 rfl Tryz.call105 ⟨rfl,rfl,by simp⟩ fun K hK=>?_;have l7:ab.underlying 9=some .string:=kr;have sl:∀ (a:ByteArray) (ty:TypeId),iH ab (Builtin.len_ #[9] ty) [.sc (.string a)]=some (num a.size):=fun a ty=>gF (P:=ab) (tt:=tt) (T:=9) a l7 ty;have hT5:ab.underlying 5=some (.int .u8):=kr;have hT3:ab.underlying 3=some (.int .i64):=kr;have cv:=fun (k:IntKind) (n:Int)=>Mo (P:=ab) (src:=5) (dst:=3) hT5 hT3 k n;simp only [sl,cv,go_sem];refine bQ (fun jD=>?_) (fun jD=>?_);·(have kZ:gh s=false:=by rw [oR];unfold zP;simp_all <;> (intros;omega));(have bM : -1=if gh s=true then pb s else -1:=by rw [kZ];rfl);simp only [sl,cv,go_sem];exact hK _ (congrArg num bM)
 simp only [sl,cv,go_sem];refine bQ (fun wH=>?_) (fun wH=>?_);·(have kZ:gh s=false:=by rw [oR];unfold zP;simp_all <;> (intros;omega));(have bM : -1=if gh s=true then pb s else -1:=by rw [kZ];rfl);simp only [sl,cv,go_sem];exact hK _ (congrArg num bM)
 have JZ:2≤s.size:=by simp_all <;> omega
 obtain⟨v0,kx⟩:=eK (s:=s) (i:=0) (by omega);have dx:=fA (P:=ab) s l7 .i64 (0:Int) (by omega) (c:=v0) (show s[((0:Nat):Int).toNat]?=some v0 from kx);have lv:eL s 0=v0.toNat:=eQ kx;simp only [dx,sl,cv,go_sem];refine bQ (fun BC=>?_) (fun BC=>?_);·(have kZ:gh s=false:=by rw [oR];unfold zP;simp_all <;> (intros;omega));(have bM : -1=if gh s=true then pb s else -1:=by rw [kZ];rfl);simp only [dx,sl,cv,go_sem];exact hK _ (congrArg num bM)
 obtain⟨v1,zb⟩:=eK (s:=s) (i:=1) (by omega);have jV:=fA (P:=ab) s l7 .i64 (1:Int) (by omega) (c:=v1) (show s[((1:Nat):Int).toNat]?=some v1 from zb);have nn:eL s 1=v1.toNat:=eQ zb;simp only [dx,jV,sl,cv,go_sem];refine bQ (fun abK=>?_) (fun abK=>?_);·simp only [dx,jV,sl,cv,go_sem];refine bQ (fun mZ=>?_) (fun mZ=>?_);(·(have kZ:gh s=false:=by rw [oR];unfold zP;simp_all <;> (intros;omega));(have bM : -1=if gh s=true then pb s else -1:=by rw [kZ];rfl);simp only [dx,jV,sl,cv,go_sem];exact hK _ (congrArg num bM));(have hvh:zP s=true:=by unfold zP;simp_all <;> (intros;omega));obtain⟨hv,JZ,hs4⟩:=K3 hvh;obtain⟨t,ht⟩:∃ t,t=mY s:=⟨_,rfl⟩;(have htz:t.size=s.size-1:=by rw [ht];exact s9 hv);(have JR:gh s=l4 k6 t:=by rw [oR,hvh,ht];rfl);simp only [dx,jV,sl,cv,go_sem];refine cZ tt_ok [] [4,3] 0 [0,27] (fun vs=>((s.size:Int)-Go.Eng.intOf (vs.headD .undef)).toNat) (fun vs=>∃ i:Nat,vs=[num i,num (jv t (i-1))]∧1≤i∧i≤s.size∧∀ j<i-1,k6 (eL t j)=true) (by omega) (by simp only [dx,jV,sl,cv,go_sem]) (⟨1,rfl,ax _,by omega,fun j hj=>absurd hj (cf j)⟩) fun vs hI Z1 dv=>?_;obtain⟨i,rfl,yG,hi,kZ⟩:=hI;simp only [dx,jV,sl,cv,go_sem];refine bQ (fun pX=>?_) (fun pX=>?_);(·(have bR:i<s.size:=by simpa using pX);have hw:=a7 i (by omega);obtain⟨c,vD⟩:=eK (s:=s) (i:=i) bR;have oQ:=fA (P:=ab) s l7 .i64 (i:Int) (by omega) (c:=c) (show s[((i:Nat):Int).toNat]?=some c from vD);(have hct:t[i-1]?=some c:=by rw [ht,u6 hv,atK yG];exact vD);have hbt:eL t (i-1)=c.toNat:=eQ hct;simp only [dx,jV,hw,oQ,sl,cv,go_sem];refine dg (tQ _) ?_;simp only [dx,jV,hw,oQ,sl,cv,go_sem];refine bQ (fun u9=>?_) (fun u9=>?_);(·(have hdf:k6 (c.toNat:Int)=false:=by simpa using u9);(have KR:gh s=false:=by rw [JR];exact oP hct hdf);(have bM : -1=if gh s=true then pb s else -1:=by rw [KR];rfl);simp only [dx,jV,hw,oQ,sl,cv,go_sem];exact hK _ (congrArg num bM));(have Wz:k6 (c.toNat:Int)=true:=by simpa using u9);have RG:=Wz;unfold k6 at RG;simp only [aD,decide_eq_true_eq] at RG;obtain⟨hd0,Vy⟩:=DU (t:=t) (k:=i-1) (by omega) kZ;(have hu:IntKind.u8.wrap ((c.toNat:Int)-48)=(c.toNat:Int)-48:=by have h:=c.toNat_lt;simp only [IntKind.wrap,IntKind.bits,IntKind.signed];simp;omega);have By:IntKind.i64.wrap ((c.toNat:Int)-48)=(c.toNat:Int)-48:=IntWalk.i64_in _ (by omega);have Bz:IntKind.i64.wrap (10*jv t (i-1))=10*jv t (i-1):=IntWalk.i64_in _ (by omega);(have BA:IntKind.i64.wrap (10*jv t (i-1)+((c.toNat:Int)-48))=jv t i:=by (conv=>rhs;rw [show i=i-1+1 by omega,jv,hbt]);exact IntWalk.i64_in _ (by omega));simp only [dx,jV,hw,oQ,hu,By,Bz,BA,sl,cv,go_sem];refine dv _ (fR (by omega) (by simp only [dx,jV,hw,oQ,hu,By,Bz,BA,sl,cv,go_sem]) ?_ ?_) <;> simp only [eE,lk,reduceIte,zE];(·refine⟨i+1,by rw [adt],by omega,bR,fun j hj=>?_⟩;rw [adt] at hj;(rcases br j (i-1) with h|h);(·exact kZ j h);(obtain rfl:j=i-1:=by omega);rw [hbt];simpa using u9);simp only [Go.Eng.intOf,bg];omega);have hZ:i=s.size:=asR hi (ajr (by simpa using pX));(have Wy:l4 k6 t=true:=qz fun j hj b hb=>by have h:=kZ j (by omega);rwa [eQ hb] at h);(have bM:jv t (i-1)=if gh s=true then pb s else -1:=by rw [JR,Wy,if_pos rfl];unfold pb;rw [← ht,htz,hZ]);simp only [dx,jV,sl,cv,go_sem];exact hK _ (congrArg num bM)
 have hvh:zP s=true:=by unfold zP;simp_all <;> (intros;omega)
 obtain⟨hv,JZ,hs4⟩:=K3 hvh;obtain⟨t,ht⟩:∃ t,t=mY s:=⟨_,rfl⟩;have htz:t.size=s.size-1:=by rw [ht];exact s9 hv
 have JR:gh s=l4 k6 t:=by rw [oR,hvh,ht];rfl
 simp only [dx,jV,sl,cv,go_sem];refine cZ tt_ok [] [4,3] 0 [0,27] (fun vs=>((s.size:Int)-Go.Eng.intOf (vs.headD .undef)).toNat) (fun vs=>∃ i:Nat,vs=[num i,num (jv t (i-1))]∧1≤i∧i≤s.size∧∀ j<i-1,k6 (eL t j)=true) (by omega) (by simp only [dx,jV,sl,cv,go_sem]) (⟨1,rfl,ax _,by omega,fun j hj=>absurd hj (cf j)⟩) fun vs hI Z2 jk=>?_;obtain⟨i,rfl,yG,hi,kZ⟩:=hI;simp only [dx,jV,sl,cv,go_sem];refine bQ (fun pX=>?_) (fun pX=>?_);·(have bR:i<s.size:=by simpa using pX);have hw:=a7 i (by omega);obtain⟨c,vD⟩:=eK (s:=s) (i:=i) bR;have oQ:=fA (P:=ab) s l7 .i64 (i:Int) (by omega) (c:=c) (show s[((i:Nat):Int).toNat]?=some c from vD);(have hct:t[i-1]?=some c:=by rw [ht,u6 hv,atK yG];exact vD);have hbt:eL t (i-1)=c.toNat:=eQ hct;simp only [dx,jV,hw,oQ,sl,cv,go_sem];refine dg (tQ _) ?_;simp only [dx,jV,hw,oQ,sl,cv,go_sem];refine bQ (fun u9=>?_) (fun u9=>?_);(·(have hdf:k6 (c.toNat:Int)=false:=by simpa using u9);(have KR:gh s=false:=by rw [JR];exact oP hct hdf);(have bM : -1=if gh s=true then pb s else -1:=by rw [KR];rfl);simp only [dx,jV,hw,oQ,sl,cv,go_sem];exact hK _ (congrArg num bM));(have Wz:k6 (c.toNat:Int)=true:=by simpa using u9);have RG:=Wz;unfold k6 at RG;simp only [aD,decide_eq_true_eq] at RG;obtain⟨hd0,Vy⟩:=DU (t:=t) (k:=i-1) (by omega) kZ;(have hu:IntKind.u8.wrap ((c.toNat:Int)-48)=(c.toNat:Int)-48:=by have h:=c.toNat_lt;simp only [IntKind.wrap,IntKind.bits,IntKind.signed];simp;omega);have By:IntKind.i64.wrap ((c.toNat:Int)-48)=(c.toNat:Int)-48:=IntWalk.i64_in _ (by omega);have Bz:IntKind.i64.wrap (10*jv t (i-1))=10*jv t (i-1):=IntWalk.i64_in _ (by omega);(have BA:IntKind.i64.wrap (10*jv t (i-1)+((c.toNat:Int)-48))=jv t i:=by (conv=>rhs;rw [show i=i-1+1 by omega,jv,hbt]);exact IntWalk.i64_in _ (by omega));simp only [dx,jV,hw,oQ,hu,By,Bz,BA,sl,cv,go_sem];refine jk _ (fR (by omega) (by simp only [dx,jV,hw,oQ,hu,By,Bz,BA,sl,cv,go_sem]) ?_ ?_) <;> simp only [eE,lk,reduceIte,zE];(·refine⟨i+1,by rw [adt],by omega,bR,fun j hj=>?_⟩;rw [adt] at hj;(rcases br j (i-1) with h|h);(·exact kZ j h);(obtain rfl:j=i-1:=by omega);rw [hbt];simpa using u9);simp only [Go.Eng.intOf,bg];omega
 have hZ:i=s.size:=asR hi (ajr (by simpa using pX));have Wy:l4 k6 t=true:=qz fun j hj b hb=>by have h:=kZ j (by omega);rwa [eQ hb] at h
 have bM:jv t (i-1)=if gh s=true then pb s else -1:=by rw [JR,Wy,if_pos rfl];unfold pb;rw [← ht,htz,hZ]
 simp only [dx,jV,sl,cv,go_sem];exact hK _ (congrArg num bM)
section
theorem WE (c:UInt8):strOfNums [(c.toNat:Int)]=⟨#[c]⟩:=by unfold strOfNums;simp
theorem Om {s:ByteArray} {i:Nat} {c:UInt8} {xs:List ByteArray} {y:ByteArray} (hc:s[i]?=some c) (hx:lD ((ga s).take i)=xs++[y]) (h:(c.toNat:Int)=47):lD ((ga s).take (i+1))=(xs++[y])++[⟨#[]⟩]:=by have e:c=47:=atv.1 (by rw [show (47:UInt8).toNat=47 from rfl];omega);rw [DV hc,wG,hx,e];rfl
theorem RH {s:ByteArray} {i:Nat} {c:UInt8} {xs:List ByteArray} {y:ByteArray} (hc:s[i]?=some c) (hx:lD ((ga s).take i)=xs++[y]) (h:¬ (c.toNat:Int)=47):lD ((ga s).take (i+1))=xs++[y++⟨#[c]⟩]:=by have e:c≠47:=fun e=>h (by rw [e];rfl);rw [DV hc,wG,hx,RF (z:=y) (by simp) e];simp
theorem K4 (s:ByteArray):0<(pieces s).length:=by rw [nr];omega
theorem K5 {s z:ByteArray} (h:z∈pieces s):z.size≤s.size:=by
 have key:∀ (l:List UInt8) (o:List ByteArray) (n:Nat),(∀ x∈o,x.size≤n)→∀ x∈l.foldl lC o,x.size≤n+l.length:=by intro l;induction l with|nil=>intro o n h x hx;simpa using h x hx|cons b l ih =>intro o n h x hx;rw [fq] at hx;have:=ih (lC o b) (n+1) (fun y hy=>by unfold lC at hy;split at hy;(·(rcases ft.1 hy with hy|hy);(·exact atB (h y hy));rw [dX.1 hy];exact aW _);(rcases atl hy with hy|hy);(·exact atB (h y hy));rw [hy,Vk];have hs:(⟨#[b]⟩:ByteArray).size=1:=rfl;(have:((o[o.length-1]?).getD ⟨#[]⟩).size≤n:=by cases hq:o[o.length-1]? with|none=>exact aW _|some q=>exact h q (ay hq));omega) x hx;rw [aj];omega
 rw [← s8] at h;have:=key (ga s) [⟨#[]⟩] 0 (fun x hx=>by rw [dX.1 hx];exact aW _) z h;rw [aZ] at this;exact this
theorem MV {z:ByteArray} (h:gh z=true):0≤pb z:=by rw [oR] at h;simp only [aD] at h;obtain⟨-,-,h4⟩:=K3 h.1;exact (u4 h.2 _ (ax _)).1
theorem RI (s:ByteArray) (hs:s.size≤1048576):Cn 103 [str s] (.slice ((pieces s).map str)):=by
 refine fZ tt_ok [] 37 [.tmp 2] (fn:=Tryz.f103) Tryz.func103 rfl Tryz.call103 ⟨rfl,rfl,by simp⟩ fun K hK=>?_;have l7:ab.underlying 9=some .string:=kr;have sl:∀ (a:ByteArray) (ty:TypeId),iH ab (Builtin.len_ #[9] ty) [.sc (.string a)]=some (num a.size):=fun a ty=>gF (P:=ab) (tt:=tt) (T:=9) a l7 ty;have YV:=fun (n:Int)=>GQ (P:=ab) (mem:=[]) (s:=178) (d:=9) (e:=5) (rows:=[.sc (.int .u8 n)]) (ns:=[n]) kr kr l7 rfl;have BD:∀ c:Int,(strOfNums [c]).size=1:=fun c=>rfl;simp only [sl,YV,go_sem];refine fK tt_ok [] (fun a:Nat×Nat×List ByteArray×ByteArray=>[(0,str s),(3,.ms 0 a.2.1 0 (a.2.1+1)),(4,num a.1)]) (fun a:Nat×Nat×List ByteArray×ByteArray=>[.rows a.2.1 1 ((a.2.2.1++[a.2.2.2]).map str)]) (fun a=>s.size-a.1) (fun a=>a.1≤s.size∧a.2.2.1.length=a.2.1∧a.2.1≤a.1∧a.2.2.2.size≤a.1∧(∀ x∈a.2.2.1,x.size≤s.size)∧lD ((ga s).take a.1)=a.2.2.1++[a.2.2.2]) ((0,0,[],⟨#[]⟩)) 1 (di (by omega) (by simp only [sl,YV,cz,bW,ak,bB,go_sem] <;> rfl)) (⟨aW _,rfl,ax _,ax _,(fun x hx=>by cases hx),rfl⟩) ?_;rintro⟨i,k,xs,y⟩ ⟨hi,G4,hki,hyi,cD,WG⟩;try dsimp only at hi G4 hki hyi cD WG
 try dsimp only
 intro Z1 dv;simp only [sl,YV,go_sem];refine bQ (fun kQ=>?_) (fun kQ=>?_);·(have bR:i<s.size:=by simpa using kQ);have hw:=a7 i (by omega);obtain⟨c,vD⟩:=eK (s:=s) (i:=i) bR;have oQ:=fA (P:=ab) s l7 .i64 (i:Int) (by omega) (c:=c) (show s[((i:Nat):Int).toNat]?=some c from vD);have ez:IntKind.i64.wrap (((k+1:Nat):Int)-1)=((k:Nat):Int):=lu _ k (by omega) (by omega);(have iA:((k:Nat):Int)<((k+1:Nat):Int):=by omega);(have hgy:(xs++[y])[k]?=some y:=by rw [a6 (by omega),G4,cI];rfl);(have YW:k+1+1≤34359738368:=by omega);have hsa:=fun a b=>E9 ab 9 a b y (strOfNums [(c.toNat:Int)]) (by rw [BD,show IntKind.i64.max=9223372036854775807 from rfl];omega);simp only [hw,oQ,ez,iA,YW,G4,ae,hgy,hsa,aw,bc,aj,aA,aZ,sl,YV,go_sem];refine bQ (fun td=>?_) (fun td=>?_);(·let nv:Nat×Nat×List ByteArray×ByteArray:=(i+1,k+1,xs++[y],⟨#[]⟩);(have RJ:∀ x∈nv.2.2.1,x.size≤s.size:=fun x hx=>by (rcases ft.1 hx with h|h);(·exact cD x h);rw [dX.1 h];omega);have RL:lD ((ga s).take nv.1)=nv.2.2.1++[nv.2.2.2]:=Om vD WG (by simpa using td);simp only [hw,oQ,ez,iA,YW,G4,ae,hgy,hsa,aw,bc,aj,aA,aZ,sl,YV,go_sem];refine dv _ ⟨nv,?_,?_,di (by omega) (by (simp [nv,rv,lk,er,eZ,aG,aS,dh];first|done|(rw [dt _ _ (by rw [aw];omega),aw,G4,cI];rfl)))⟩;(·refine⟨bR,?_,?_,?_,?_⟩;(·dsimp only [nv];first|exact G4|(rw [bc,G4];rfl));(·dsimp only [nv];omega);(·dsimp only [nv];first|exact aW _|(rw [Vk,BD];omega));exact⟨RJ,RL⟩);dsimp only [nv];omega);let nv:Nat×Nat×List ByteArray×ByteArray:=(i+1,k,xs,y++strOfNums [(c.toNat:Int)]);have RJ:∀ x∈nv.2.2.1,x.size≤s.size:=cD;(have RL:lD ((ga s).take nv.1)=nv.2.2.1++[nv.2.2.2]:=by show _=xs++[y++strOfNums [(c.toNat:Int)]];rw [WE];exact RH vD WG (by simpa using td));simp only [hw,oQ,ez,iA,YW,G4,ae,hgy,hsa,aw,bc,aj,aA,aZ,sl,YV,go_sem];refine dW tt_ok bU [pN,pN,pN,pN,pN,pN,pN,pN,pR,pR,pN,pN,pN,pN,pN,pN,pR,⟨.w,0,[],[],[]⟩] 1 kr ?_;simp only [hw,oQ,ez,iA,YW,G4,ae,hgy,hsa,aw,bc,aj,aA,aZ,sl,YV,go_sem];refine dv _ ⟨nv,?_,?_,di (by omega) (by (simp [nv,rv,lk,er,eZ,aG,aS,dh];first|done|(rw [dt _ _ (by rw [aw];omega),aw,G4,cI];rfl)))⟩;(·refine⟨bR,?_,?_,?_,?_⟩;(·dsimp only [nv];first|exact G4|(rw [bc,G4];rfl));(·dsimp only [nv];omega);(·dsimp only [nv];first|exact aW _|(rw [Vk,BD];omega));exact⟨RJ,RL⟩);dsimp only [nv];omega
 have hZ:¬ i<s.size:=by simpa using kQ
 have mF:pieces s=xs++[y]:=by rw [← s8,← WG,bu];exact ajr hZ
 simp only [sl,YV,go_sem];exact Rg (by simp [G4]) (hK _ (by rw [mF]))
section
attribute [local go_sem] aw ae
theorem On (s:ByteArray) (hs:s.size≤1048576):Cn 49 [str s] (.ec [num (kz s),num (kc s)]):=by
 refine fZ tt_ok [] 39 [.tmp 2,.tmp 3] (fn:=Tryz.f49) Tryz.func49 rfl Tryz.call49 ⟨rfl,rfl,by simp⟩ fun K hK=>?_;have l7:ab.underlying 9=some .string:=kr;have sl:∀ (a:ByteArray) (ty:TypeId),iH ab (Builtin.len_ #[9] ty) [.sc (.string a)]=some (num a.size):=fun a ty=>gF (P:=ab) (tt:=tt) (T:=9) a l7 ty;simp only [sl,go_sem];refine bQ (fun kQ=>?_) (fun kQ=>?_)
 ·have kZ:dY s=false:=by unfold dY;simp_all <;> (intros;omega)
  simp only [sl,go_sem];refine hK _ ?_
  first
   | (unfold kz kc;rw [kZ];rfl)
   | (unfold kz kc;rw [fF,vF];simp_all;done)
   | (unfold kz kc;rw [fF,vF];simp_all;rfl)
 simp only [sl,go_sem];refine dg (RI s (by omega)) ?_;obtain⟨P,hP⟩:∃ P,P=pieces s:=⟨_,rfl⟩;have hPl:=DT s;have hP1:=K4 s;have hPz:∀ x∈P,x.size≤s.size:=fun x hx=>K5 (hP ▸ hx);rw [← hP];rw [← hP] at hPl hP1;obtain⟨z,hz⟩:∃ z,P[P.length-1]?=some z:=⟨_,af (by omega)⟩;have vF:DS s=z:=H6 (by rw [← hP];exact hz);have ez:IntKind.i64.wrap ((P.length:Int)-1)=((P.length-1:Nat):Int):=lu _ _ (by omega) (by omega);simp only [hz,ez,sl,go_sem];refine cZ tt_ok [] [5] 0 [4,9] (fun vs=>((P.length:Int)-Go.Eng.intOf (vs.headD .undef)).toNat) (fun vs=>∃ i:Nat,vs=[num i]∧i≤P.length∧∀ j<i,∀ x,P[j]?=some x→uo x=true) (by omega) (by simp only [hz,ez,sl,go_sem]) (⟨0,rfl,aW _,fun j hj=>absurd hj (cf j)⟩) fun vs hI Z1 dv=>?_;obtain⟨i,rfl,hi,cD⟩:=hI;simp only [hz,ez,sl,go_sem];refine bQ (fun td=>?_) (fun td=>?_)
 ·have bR:i<P.length:=by simpa using td
  have hw:=a7 i (by omega);obtain⟨x,hx⟩:∃ x,P[i]?=some x:=⟨_,af bR⟩;simp only [hz,ez,hw,hx,sl,go_sem];refine dg (H7 x (by have:=hPz x (ay hx);omega)) ?_;simp only [hz,ez,hw,hx,sl,go_sem];refine bQ (fun te=>?_) (fun te=>?_)
  ·have kZ:dY s=false:=by have ha:P.all uo=false:=u5 hx (by simpa using te);unfold dY;rw [← hP,ha];simp
   simp only [hz,ez,hw,hx,sl,go_sem];refine hK _ ?_
   first
    | (unfold kz kc;rw [kZ];rfl)
    | (unfold kz kc;rw [fF,vF];simp_all;done)
    | (unfold kz kc;rw [fF,vF];simp_all;rfl)
  simp only [hz,ez,hw,hx,sl,go_sem];refine dv _ (fR (by omega) (by simp only [hz,ez,hw,hx,sl,go_sem]) ?_ ?_) <;> simp only [eE,lk,reduceIte,zE];·refine⟨i+1,rfl,bR,fun j hj=>?_⟩;(rcases br j i with h|h);(·exact cD j h);(obtain rfl:j=i:=by omega);intro y hy;rw [hx] at hy;cases hy;simpa using te
  simp only [Go.Eng.intOf,bg];omega
 have hZ:¬ i<P.length:=by simpa using td
 have ha:P.all uo=true:=RD fun j hj=>cD j (by omega);simp only [hz,ez,sl,go_sem];refine dg (H9 z) ?_;simp only [hz,ez,sl,go_sem];refine bQ (fun abL=>?_) (fun abL=>?_)
 ·have kZ:dY s=false:=by unfold dY;rw [vF,← hP];by_cases hv:gh z=true;(·have:=MV hv;simp_all;omega);simp [hv]
  simp only [hz,ez,sl,go_sem];refine hK _ ?_
  first
   | (unfold kz kc;rw [kZ];rfl)
   | (unfold kz kc;rw [fF,vF];simp_all;done)
   | (unfold kz kc;rw [fF,vF];simp_all;rfl)
 simp only [hz,ez,sl,go_sem];refine bQ (fun x6=>?_) (fun x6=>?_)
 ·have kZ:dY s=false:=by unfold dY;rw [vF,← hP];by_cases hv:gh z=true;(·have:=MV hv;simp_all;omega);simp [hv]
  simp only [hz,ez,sl,go_sem];refine hK _ ?_
  first
   | (unfold kz kc;rw [kZ];rfl)
   | (unfold kz kc;rw [fF,vF];simp_all;done)
   | (unfold kz kc;rw [fF,vF];simp_all;rfl)
 have hvz:gh z=true:=by by_cases hv:gh z=true;(·exact hv);exfalso;simp_all
 have fF:dY s=true:=by unfold dY;rw [vF,← hP,ha,hvz];simp_all;omega
 simp only [hz,ez,sl,go_sem];refine hK _ ?_
 first
  | (unfold kz kc;rw [kZ];rfl)
  | (unfold kz kc;rw [fF,vF];simp_all;done)
  | (unfold kz kc;rw [fF,vF];simp_all;rfl)
end
theorem m4 (s:ByteArray) (hs:s.size≤1048576):Cn 15 [str s] (bl (dY s)):=by refine fZ tt_ok [] 12 [.tmp 2] (fn:=Tryz.f15) Tryz.func15 rfl Tryz.call15 ⟨rfl,rfl,by simp⟩ fun K hK=>?_;simp only [go_sem];refine dg (On s hs) ?_;simp only [go_sem];exact hK _ (congrArg bl (by unfold kc;by_cases h:dY s=true <;> simp [h]))
end
def x9 (s:ByteArray):Bool:=ka s||decide (s.size=2)&&decide (eL s 0=35)&&decide (48≤eL s 1)&&decide (eL s 1≤55)
def jQ (s:ByteArray):Bool:=decide (s=⟨#[]⟩)
def nT (s:ByteArray):Bool:=jQ s||dJ s||dY s
theorem qB (s:ByteArray):Cn 125 [str s] (bl (ka s)):=by
 refine fZ tt_ok [] 19 [.tmp 2] (fn:=Tryz.f125) Tryz.func125 rfl Tryz.call125 ⟨rfl,rfl,by simp⟩ fun K hK=>?_;have l7:ab.underlying 9=some .string:=kr;have sl:∀ (a:ByteArray) (ty:TypeId),iH ab (Builtin.len_ #[9] ty) [.sc (.string a)]=some (num a.size):=fun a ty=>gF (P:=ab) (tt:=tt) (T:=9) a l7 ty;simp only [sl,go_sem];refine bQ (fun s7=>?_) (fun s7=>?_);·have h1:=FH rfl s7;obtain⟨H5,kx⟩:=eK (s:=s) (i:=(0:Int).toNat) (by omega);have dx:=fA (P:=ab) s l7 .i64 (0) (by omega) (c:=H5) kx;have lv:eL s 0=H5.toNat:=eQ kx;simp only [dx,sl,go_sem];refine bQ (fun DR=>?_) (fun DR=>?_) <;> simp only [dx,sl,go_sem];(·refine dg (Bu _) ?_;repeat' (simp only [dx,sl,go_sem];first|refine bQ (fun hg=>?_) (fun hg=>?_)|refine dg (Bv 170 uj MU s (by have:=of_decide_eq_true DR;omega)) ?_|(exact hK _ (congrArg bl (by simp_all [ka] <;> (intros;omega))))));exact hK _ (congrArg bl (by simp_all [ka] <;> (intros;omega)))
 have h1:=Bs rfl s7;simp only [sl,go_sem];exact hK _ (congrArg bl (by simp_all [ka] <;> (intros;omega)))
theorem m5 (s:ByteArray):Cn 203 [str s] (bl (ka s)):=by
 refine fZ tt_ok [] 20 [.tmp 2] (fn:=Tryz.f203) Tryz.func203 rfl Tryz.call203 ⟨rfl,rfl,by simp⟩ fun K hK=>?_;have l7:ab.underlying 9=some .string:=kr;have sl:∀ (a:ByteArray) (ty:TypeId),iH ab (Builtin.len_ #[9] ty) [.sc (.string a)]=some (num a.size):=fun a ty=>gF (P:=ab) (tt:=tt) (T:=9) a l7 ty;simp only [sl,go_sem];refine bQ (fun jD=>?_) (fun jD=>?_);·(have h1:1≤s.size:=by have:=of_decide_eq_true jD;omega);obtain⟨H5,kx⟩:=eK (s:=s) (i:=(0:Int).toNat) (by omega);have dx:=fA (P:=ab) s l7 .i64 (0) (by omega) (c:=H5) kx;have lv:eL s 0=H5.toNat:=eQ kx;simp only [dx,sl,go_sem];refine bQ (fun wH=>?_) (fun wH=>?_) <;> simp only [dx,sl,go_sem];(·refine dg (za _) ?_;repeat' (simp only [dx,sl,go_sem];first|refine bQ (fun hg=>?_) (fun hg=>?_)|refine dg (HZ s (by have:=of_decide_eq_true wH;omega)) ?_|(exact hK _ (congrArg bl (by simp_all [ka] <;> (intros;omega))))));exact hK _ (congrArg bl (by simp_all [ka] <;> (intros;omega)))
 have h1:s.size=0:=by have:=of_decide_eq_false jD;omega
 simp only [sl,go_sem];exact hK _ (congrArg bl (by simp_all [ka] <;> (intros;omega)))
theorem Ia (s:ByteArray):Cn 237 [str s] (bl (x9 s)):=by
 refine fZ tt_ok [] 25 [.tmp 2] (fn:=Tryz.f237) Tryz.func237 rfl Tryz.call237 ⟨rfl,rfl,by simp⟩ fun K hK=>?_;have l7:ab.underlying 9=some .string:=kr;have sl:∀ (a:ByteArray) (ty:TypeId),iH ab (Builtin.len_ #[9] ty) [.sc (.string a)]=some (num a.size):=fun a ty=>gF (P:=ab) (tt:=tt) (T:=9) a l7 ty;simp only [sl,go_sem];refine dg (qB s) ?_;simp only [sl,go_sem];refine bQ (fun s7=>?_) (fun s7=>?_) <;> simp only [sl,go_sem];·exact hK _ (congrArg bl (by simp_all [x9] <;> (intros;omega)))
 refine bQ (fun BE=>?_) (fun BE=>?_);·(have GD:s.size=2:=by have:=of_decide_eq_true BE;omega);obtain⟨H5,kx⟩:=eK (s:=s) (i:=(0:Int).toNat) (by omega);have dx:=fA (P:=ab) s l7 .i64 (0) (by omega) (c:=H5) kx;obtain⟨cv1,zb⟩:=eK (s:=s) (i:=(1:Int).toNat) (by omega);have jV:=fA (P:=ab) s l7 .i64 (1) (by omega) (c:=cv1) zb;have lv:eL s 0=H5.toNat:=eQ kx;have nn:eL s 1=cv1.toNat:=eQ zb;repeat' (simp only [dx,jV,sl,go_sem];first|refine bQ (fun hg=>?_) (fun hg=>?_)|(exact hK _ (congrArg bl (by simp_all [x9] <;> (intros;omega)))))
 have GD:s.size≠2:=by have:=of_decide_eq_false BE;omega
 simp only [sl,go_sem];exact hK _ (congrArg bl (by simp_all [x9] <;> (intros;omega)))
theorem FL (s:ByteArray):Cn 283 [str s] (bl (x9 s)):=by
 refine fZ tt_ok [] 25 [.tmp 2] (fn:=Tryz.f283) Tryz.func283 rfl Tryz.call283 ⟨rfl,rfl,by simp⟩ fun K hK=>?_;have l7:ab.underlying 9=some .string:=kr;have sl:∀ (a:ByteArray) (ty:TypeId),iH ab (Builtin.len_ #[9] ty) [.sc (.string a)]=some (num a.size):=fun a ty=>gF (P:=ab) (tt:=tt) (T:=9) a l7 ty;simp only [sl,go_sem];refine dg (m5 s) ?_;simp only [sl,go_sem];refine bQ (fun s7=>?_) (fun s7=>?_) <;> simp only [sl,go_sem];·exact hK _ (congrArg bl (by simp_all [x9] <;> (intros;omega)))
 refine bQ (fun BE=>?_) (fun BE=>?_);·(have GD:s.size=2:=by have:=of_decide_eq_true BE;omega);obtain⟨H5,kx⟩:=eK (s:=s) (i:=(0:Int).toNat) (by omega);have dx:=fA (P:=ab) s l7 .i64 (0) (by omega) (c:=H5) kx;obtain⟨cv1,zb⟩:=eK (s:=s) (i:=(1:Int).toNat) (by omega);have jV:=fA (P:=ab) s l7 .i64 (1) (by omega) (c:=cv1) zb;have lv:eL s 0=H5.toNat:=eQ kx;have nn:eL s 1=cv1.toNat:=eQ zb;repeat' (simp only [dx,jV,sl,go_sem];first|refine bQ (fun hg=>?_) (fun hg=>?_)|(exact hK _ (congrArg bl (by simp_all [x9] <;> (intros;omega)))))
 have GD:s.size≠2:=by have:=of_decide_eq_false BE;omega
 simp only [sl,go_sem];exact hK _ (congrArg bl (by simp_all [x9] <;> (intros;omega)))
theorem ya (hG:bk.g=some 1) (s:ByteArray) (hs:s.size≤1048576):Cn 187 [str s] (bl (nT s)):=by refine fZ tt_ok [] 13 [.tmp 2] (fn:=Tryz.f187) Tryz.func187 rfl Tryz.call187 ⟨rfl,rfl,by simp⟩ fun K hK=>?_;repeat' (simp only [de,go_sem];first|refine bQ (fun hg=>?_) (fun hg=>?_)|refine dg (jn hG s) ?_|refine dg (lX hG s hs) ?_|(exact hK _ (congrArg bl (by simp_all [nT,jQ]))))
theorem va (s:ByteArray) (hs:s.size≤1048576):Cn 204 [str s] (bl (nT s)):=by refine fZ tt_ok [] 13 [.tmp 2] (fn:=Tryz.f204) Tryz.func204 rfl Tryz.call204 ⟨rfl,rfl,by simp⟩ fun K hK=>?_;repeat' (simp only [de,go_sem];first|refine bQ (fun hg=>?_) (fun hg=>?_)|refine dg (iW s) ?_|refine dg (m4 s hs) ?_|(exact hK _ (congrArg bl (by simp_all [nT,jQ]))))
mutual
inductive Ty where
 | mk (kind:Int) (mod name:ByteArray) (args:List Ty) (bp:List Fd)
inductive Fd where
 | mk (name:ByteArray) (ty:Ty) (opt:Bool)
end
structure Lb where
 name:ByteArray
 var:ByteArray
 ty:Ty
 opt:Bool
inductive Ex where
 | mk (kind:Int) (mod name text:ByteArray) (num:Int) (types:List Ty) (labels:List Lb) (kids:List Ex)
structure Pm where
 name:ByteArray
 dD:Int
 bound:Ty
structure Im where
 path:ByteArray
 alias:ByteArray
structure Dc where
 kind:Int
 name:ByteArray
 exported:Bool
 deprecated:Bool
 note:ByteArray
 params:List Pm
 lower:Ty
 upper:Ty
 type:Ty
 expr:Ex
 mod:ByteArray
 target:ByteArray
structure Md where
 path:ByteArray
 imports:List Im
 decls:List Dc
mutual
def cd:Ty→V
 | .mk k m n ts fs=>.agg [.sc (.int .i64 k),.sc (.string m),.sc (.string n),.slice (bN ts),.slice (ew fs)]
def bN:List Ty→List V
 | []=>[]
 | t :: r=>cd t :: bN r
def mI:Fd→V
 | .mk n (.mk k m n' ts fs) o=>.agg [.sc (.string n),.sc (.int .i64 k),.sc (.string m),.sc (.string n'),.slice (bN ts),.slice (ew fs),.sc (.bool o)]
def ew:List Fd→List V
 | []=>[]
 | f :: r=>mI f :: ew r
end
def Fd.ty:Fd→Ty|.mk _ t _=>t
def Fd.name:Fd→ByteArray|.mk n _ _=>n
def Fd.opt:Fd→Bool|.mk _ _ o=>o
def Ty.bp:Ty→List Fd|.mk _ _ _ _ fs=>fs
def Ty.args:Ty→List Ty|.mk _ _ _ ts _=>ts
def Ty.kind:Ty→Int|.mk k _ _ _ _=>k
def Ty.mod:Ty→ByteArray|.mk _ m _ _ _=>m
def Ty.name:Ty→ByteArray|.mk _ _ n _ _=>n
def Ty.parts (t:Ty):List Ty:=t.args++t.bp.map Fd.ty
def ah (t:Ty):List V:=[.sc (.int .i64 t.kind),.sc (.string t.mod),.sc (.string t.name),.slice (bN t.args),.slice (ew t.bp)]
theorem az (t:Ty):cd t = .agg (ah t):=by obtain⟨k,m,n,ts,fs⟩:=t;rfl
theorem cP (ts:List Ty):bN ts=ts.map cd:=by induction ts with|nil=>rfl|cons t r ih=>simp [bN,ih]
theorem iX (ts:List Fd):ew ts=ts.map mI:=by induction ts with|nil=>rfl|cons t r ih=>simp [ew,ih]
theorem bO (f:Fd):mI f = .agg ([str f.name]++ah f.ty++[bl f.opt]):=by obtain⟨n',⟨k,m,n,ts,fs⟩,o⟩:=f;rfl
def b8 (l:Lb):V:=.agg ([str l.name,str l.var]++ah l.ty++[bl l.opt])
mutual
def cu:Ex→V
 | .mk k m n t i ts ls ks=>.agg [.sc (.int .i64 k),.sc (.string m),.sc (.string n),.sc (.string t),.sc (.int .i64 i),.slice (bN ts),.slice (ls.map b8),.slice (eC ks)]
def eC:List Ex→List V
 | []=>[]
 | e :: r=>cu e :: eC r
end
def Ex.kind:Ex→Int|.mk k _ _ _ _ _ _ _=>k
def Ex.mod:Ex→ByteArray|.mk _ m _ _ _ _ _ _=>m
def Ex.name:Ex→ByteArray|.mk _ _ n _ _ _ _ _=>n
def Ex.text:Ex→ByteArray|.mk _ _ _ t _ _ _ _=>t
def Ex.num:Ex→Int|.mk _ _ _ _ i _ _ _=>i
def Ex.types:Ex→List Ty|.mk _ _ _ _ _ ts _ _=>ts
def Ex.labels:Ex→List Lb|.mk _ _ _ _ _ _ ls _=>ls
def Ex.kids:Ex→List Ex|.mk _ _ _ _ _ _ _ ks=>ks
theorem kA (ts:List Ex):eC ts=ts.map cu:=by induction ts with|nil=>rfl|cons t r ih=>simp [eC,ih]
def aJ (e:Ex):List V:=[.sc (.int .i64 e.kind),.sc (.string e.mod),.sc (.string e.name),.sc (.string e.text),.sc (.int .i64 e.num),.slice (bN e.types),.slice (e.labels.map b8),.slice (eC e.kids)]
theorem aT (e:Ex):cu e = .agg (aJ e):=by obtain⟨k,m,n,t,i,ts,ls,ks⟩:=e;rfl
def cj (p:Pm):V:=.agg ([str p.name,num p.dD]++ah p.bound)
def cA (i:Im):V:=.agg [str i.path,str i.alias]
def bI (d:Dc):V:=.agg ([num d.kind,str d.name,bl d.exported,bl d.deprecated,str d.note,.slice (d.params.map cj)]++ah d.lower++ah d.upper++ah d.type++aJ d.expr++[str d.mod,str d.target])
def iM (m:Md):V:=.agg [str m.path,.slice (m.imports.map cA),.slice (m.decls.map bI)]
theorem Oo (t:Ty):(cd t).cells.length=5:=by rw [az];rfl
theorem Oq (t:Fd):(mI t).cells.length=7:=by rw [bO];rfl
theorem Ot (e:Ex):(cu e).cells.length=8:=by rw [aT];rfl
theorem nH (ts:List Ty) (n:Nat):cM (bN ts) n 5=true:=by
 rw [cP];unfold cM;split;·rename_i h;simp at h;obtain⟨t,-,rfl⟩:=h;simp [Oo]
 rfl
theorem aK (ts:List Ty):(bN ts).length=ts.length:=by simp [cP]
theorem cp (ts:List Fd):(ew ts).length=ts.length:=by simp [iX]
theorem bF (ts:List Ex):(eC ts).length=ts.length:=by simp [kA]
theorem bo (ts:List Ty) (i:Nat):(bN ts)[i]?=ts[i]?.map cd:=by simp [cP]
theorem bA (ts:List Fd) (i:Nat):(ew ts)[i]?=ts[i]?.map mI:=by simp [iX]
theorem cq (ts:List Ex) (i:Nat):(eC ts)[i]?=ts[i]?.map cu:=by simp [kA]
mutual
def Ty.size:Ty→Nat
 | .mk _ _ _ ts fs=>1+tS ts+tT fs
def tS:List Ty→Nat
 | []=>0
 | t :: r=>t.size+tS r
def Fd.size:Fd→Nat
 | .mk _ (.mk _ _ _ ts fs) _=>1+tS ts+tT fs
def tT:List Fd→Nat
 | []=>0
 | f :: r=>f.size+tT r
end
theorem Fd.WH (f:Fd):f.size=f.ty.size:=by obtain⟨n',⟨k,m,n,ts,fs⟩,o⟩:=f;rfl
theorem Ib (ts:List Ty):tS ts=bh Ty.size ts:=by induction ts with|nil=>rfl|cons t r ih=>simp [tS,bh,ih]
theorem Ic (ts:List Fd):tT ts=bh (fun f=>f.ty.size) ts:=by induction ts with|nil=>rfl|cons t r ih=>simp [tT,bh,ih,Fd.WH]
theorem Ty.dQ (t:Ty):t.size=1+bh Ty.size t.parts:=by obtain⟨k,m,n,ts,fs⟩:=t;simp only [Ty.size,Ty.parts,Ty.args,Ty.bp,kP,oq,Ib,Ic];omega
theorem Ty.size_pos (t:Ty):0<t.size:=by rw [Ty.dQ];omega
theorem Ty.fc (t:Ty):t.args.length+t.bp.length<t.size:=by have:=bP Ty.size Ty.size_pos t.parts;rw [Ty.dQ];simp only [Ty.parts,bc,aw] at this;simp only [Ty.parts];omega
theorem wI (t:Ty) (hl:t.args.length+t.bp.length≤34359738368):cx ab 75 [cd t] (.slice (bN t.parts)):=by
 obtain⟨k,m,n,ts,fs⟩:=t;simp only [Ty.args,Ty.bp] at hl;have Ka:ts.length≤34359738368:=by omega
 refine jU tt_ok (fn:=Tryz.f75) Tryz.func75 rfl Tryz.call75 ?_;simp only [dG,cB,Tryz.ntmps75,aj,aA,zA,zF,aH,aI];refine ag tt_ok fun K hK=>?_;simp only [cd,go_sem];refine hK _ ?_;refine ag tt_ok fun K hK=>?_;simp only [nH,aK,Ka,go_sem];refine hK _ ?_;refine bz ?_;refine ag tt_ok fun K hK=>?_;simp only [go_sem];refine hK _ ?_;refine bY (dd (fun N st=>∃ (i dF:Nat) (acc:List Ty),N=fs.length-i∧i≤fs.length∧acc=ts++(fs.take i).map Fd.ty ∧ st = { fr:=[cd (.mk k m n ts fs),.ptr 0 0,.undef,.ms 1 dF 0 acc.length,.sc (.int .i64 i)]++List.replicate 21 .undef,mem:=[.box (cd (.mk k m n ts fs)).cells,.rows dF 5 (bN acc)] }) fs.length ?_ ?_);·exact⟨2,[true,true,false,true,true],by omega,by simp only [bG,aG,a8,aS,zB,jj],by simp only [bG,aG,a8,aS,zB,jj],0,1,ts,by omega,by omega,by simp,rfl⟩
 rintro N st ⟨i,dF,acc,rfl,hi,lL,rfl⟩;have PH:acc.length≤34359738367∨i=fs.length:=by rw [lL];simp;omega
 simp only [dG,aH,aI,cd,V.cells];refine bz ?_;by_cases bR:i<fs.length;·have hd:=iU bR;(have K6:acc.length≤34359738367:=by omega);refine ag tt_ok fun K hK=>?_;simp only [cp,hd,go_sem];refine hK _ ?_;refine ba rfl (ch ?_);refine bz (bY ?_);obtain⟨f,hf⟩:∃ f,fs[i]?=some f:=⟨_,af bR⟩;(have r9:(fs.take (i+1)).map Fd.ty=(fs.take i).map Fd.ty++[f.ty]:=by rw [bn,hf];simp);obtain⟨fnm,⟨fk,fm,fn,fts,ffs⟩,fo⟩:=f;refine bd tt_ok fun K hK=>?_;simp only [bA,hf,mI,aK,K6,go_sem];refine hK _ ?_;refine bd tt_ok fun K hK=>?_;simp only [go_sem];refine hK _ ?_;refine⟨fs.length-(i+1),by omega,2,[true,true,false,true,true],by omega,by simp only [bG,aG,a8,aS,zB,jj],by simp only [bG,aG,a8,aS,zB,jj],i+1,dF+1,acc++[.mk fk fm fn fts ffs],rfl,bR,by rw [lL,r9];simp [Fd.ty],?_⟩;have hw:IntKind.i64.wrap ((i:Int)+1)=((i+1:Nat):Int):=a7 i (by omega);rw [hw];simp [rp,bG,cP,cd]
 have hd:=iV bR;refine ag tt_ok fun K hK=>?_;simp only [cp,hd,go_sem];refine hK _ ?_;refine ba rfl (eH ?_);have iC:i=fs.length:=by omega
 subst iC;show eg _ _ _ _ _ _;refine ag tt_ok fun K hK=>?_;simp only [go_sem];refine hK _ ?_;refine bX ⟨.inl rfl,?_⟩;rw [au] at lL;have hr:bN (Ty.mk k m n ts fs).parts=bN acc:=by rw [lL];rfl
 rw [hr];simp [rT,oF,ql,Tryz.f75,G8,gH,dk,aK];rw [← aK];simp
theorem qC:∀ (N:Nat) (t:Ty),t.size≤N→N≤1048576→cx ab 28 [cd t] (num t.size):=by intro N;induction N with|zero=>intro t h;have:=t.size_pos;omega|succ N ih =>intro t hN hb;have zQ:=t.fc;have qd:=t.dQ;have RM:=bP Ty.size Ty.size_pos t.parts;have hp:=wI t (by omega);refine jU tt_ok (fn:=Tryz.f28) Tryz.func28 rfl Tryz.call28 ?_;simp only [dG,cB,Tryz.ntmps28,aj,aA,zA,zF,aH,aI];rw [az] at hp ⊢;simp only [ah] at hp ⊢;refine ag tt_ok fun K hK=>?_;simp only [go_sem];refine hK _ ?_;refine ag tt_ok fun K hK=>?_;simp only [go_sem];refine hK _ ?_;refine ag tt_ok fun K hK=>?_;simp only [go_sem];refine .inl ⟨_,_,by simp only [go_sem,au],hp,?_⟩;(try simp only [go_sem]);refine hK _ ?_;refine bz ?_;refine ag tt_ok fun K hK=>?_;simp only [go_sem];refine hK _ ?_;obtain⟨ps,BF⟩:∃ ps,ps=t.parts:=⟨_,rfl⟩;rw [← BF] at qd RM ⊢;refine bY (dd (fun N st=>∃ (i:Nat),N=ps.length-i∧i≤ps.length ∧ st = { fr:=[.undef,.undef,.undef,num ((1+bh Ty.size (ps.take i):Nat)),.slice (bN ps),num i]++List.replicate 16 .undef,mem:=[] }) ps.length ?_ ?_);(·exact⟨0,[false,false,false,true,true,true],by omega,by simp only [bG,aG,a8,aS,zB,jj],by simp only [bG,aG,a8,aS,zB,jj],0,by omega,by omega,rfl⟩);rintro N st ⟨i,rfl,hi,rfl⟩;simp only [dG,aH,aI];refine bz ?_;by_cases bR:i<ps.length;(·have hd:=iU bR;refine ag tt_ok fun K hK=>?_;simp only [aK,hd,go_sem];refine hK _ ?_;refine ba rfl (ch ?_);refine bz (bY ?_);obtain⟨u,hu⟩:∃ u,ps[i]?=some u:=⟨_,af bR⟩;have Ou:=cb Ty.size hu;have Ds:=fL Ty.size hu;have Hw:=gX Ty.size ps (i+1);have fG:=ih u (by omega) (by omega);rw [az] at fG;simp only [ah] at fG;refine bd tt_ok fun K hK=>?_;simp only [bo,hu,az,ah,go_sem];refine .inl ⟨_,_,by simp only [go_sem,au],fG,?_⟩;(try simp only [go_sem]);refine hK _ ?_;(have hw:IntKind.i64.wrap (((1+bh Ty.size (ps.take i):Nat):Int)+(u.size:Int))=((1+bh Ty.size (ps.take (i+1)):Nat):Int):=by rw [pH _ _ (by omega)];congr 1;omega);rw [hw];refine bd tt_ok fun K hK=>?_;simp only [go_sem];refine hK _ ?_;have im:=a7 i (by omega);rw [im];exact⟨ps.length-(i+1),by omega,0,[false,false,false,true,true,true],by omega,by simp only [bG,aG,a8,aS,zB,jj],by simp only [bG,aG,a8,aS,zB,jj],i+1,rfl,bR,by simp [rp,bG]⟩);have hd:=iV bR;refine ag tt_ok fun K hK=>?_;simp only [aK,hd,go_sem];refine hK _ ?_;refine ba rfl (eH ?_);(have iC:i=ps.length:=by omega);subst iC;show eg _ _ _ _ _ _;refine ag tt_ok fun K hK=>?_;simp only [go_sem];refine hK _ ?_;refine bX ⟨.inl rfl,?_⟩;(try rw [au]);rw [← qd];simp [rT,oF,ql,Tryz.f28,G8,gH,dk,jS]
theorem m6 (rows:List V) (h1:cM rows 0 5=true) (hl:rows.length≤34359738368):bw ab 53 [.slice rows] [] (.ms 0 1 0 rows.length) [.rows 1 5 rows]:=by refine kY tt_ok (fn:=Tryz.f53) 1 (by simp) Tryz.func53 rfl Tryz.call53 ?_;simp only [dG,cB,Tryz.ntmps53,aj,aA,zA,zF,aH,aI];refine ag tt_ok fun K hK=>?_;simp only [go_sem];refine hK _ ?_;refine bz ?_;refine ag tt_ok fun K hK=>?_;simp only [go_sem];intro b hb;refine hK _ ?_;cases b with|true =>((have h0:rows=[]:=by cases rows with|nil=>rfl|cons a r=>have:=hb (by simp);cases this);subst h0;refine ba rfl ?_;refine ag tt_ok fun K hK=>?_;simp only [go_sem];refine hK _ ?_;refine oj 2 1 5 rfl ?_;exact bX ⟨.inl rfl,rfl,rfl,rfl,rfl⟩)|false =>refine ba rfl (ch ?_);show eg _ _ _ _ _ _;refine ag tt_ok fun K hK=>?_;simp only [h1,hl,go_sem];refine hK _ ?_;refine bX ⟨.inl rfl,?_⟩;simp [lI,oF,ql,Tryz.f53,aG,aS,a8]
theorem yb (t:Ty) (hl:t.args.length+t.bp.length≤34359738368):cx ab 233 [cd t] (.slice (bN t.parts)):=by
 obtain⟨k,m,n,ts,fs⟩:=t;simp only [Ty.args,Ty.bp] at hl;have Ka:ts.length≤34359738368:=by omega
 refine jU tt_ok (fn:=Tryz.f233) Tryz.func233 rfl Tryz.call233 ?_;simp only [dG,cB,Tryz.ntmps233,aj,aA,zA,zF,aH,aI];refine ag tt_ok fun K hK=>?_;simp only [cd,go_sem];refine hK _ ?_;refine ag tt_ok fun K hK=>?_;simp only [cd,go_sem];refine .inr <| .inl ⟨_,_,bw.live (by simp only [cd,aK,go_sem,au]) (m6 (bN ts) (nH ts 0) (by rw [aK];exact Ka)) rfl _,?_⟩
 try simp only [cd,aK,go_sem]
 refine hK _ ?_;refine bz ?_;refine ag tt_ok fun K hK=>?_;simp only [cp,go_sem];refine hK _ ?_;refine bY (dd (fun N st=>∃ (i dF:Nat) (acc:List Ty),N=fs.length-i∧i≤fs.length∧acc=ts++(fs.take i).map Fd.ty ∧ st = { fr:=[.undef,.ptr 0 0,.undef,.ms 1 dF 0 acc.length,.undef,.undef,.undef,.undef,.undef,.undef,.slice (ew fs),num fs.length,num i]++List.replicate 10 .undef,mem:=[.box (cd (.mk k m n ts fs)).cells,.rows dF 5 (bN acc)] }) fs.length ?_ ?_);·exact⟨2,[false,true,false,true,false,false,false,false,false,false,true,true,true],by omega,by simp only [bG,aG,a8,aS,zB,jj],by simp only [bG,aG,a8,aS,zB,jj],0,1,ts,by omega,by omega,by simp,rfl⟩
 rintro N st ⟨i,dF,acc,rfl,hi,lL,rfl⟩;have PH:acc.length≤34359738367∨i=fs.length:=by rw [lL];simp;omega
 simp only [dG,aH,aI,cd,V.cells];by_cases bR:i<fs.length;·have hd:=iU bR;(have K6:acc.length≤34359738367:=by omega);refine ag tt_ok fun K hK=>?_;simp only [cp,hd,go_sem];refine hK _ ?_;refine bz (ba rfl (ch ?_));refine bz (bY ?_);obtain⟨f,hf⟩:∃ f,fs[i]?=some f:=⟨_,af bR⟩;(have r9:(fs.take (i+1)).map Fd.ty=(fs.take i).map Fd.ty++[f.ty]:=by rw [bn,hf];simp);obtain⟨fnm,⟨fk,fm,fn,fts,ffs⟩,fo⟩:=f;refine ag tt_ok fun K hK=>?_;simp only [bA,hf,mI,go_sem];refine hK _ ?_;refine bd tt_ok fun K hK=>?_;simp only [aK,K6,go_sem];refine hK _ ?_;refine bd tt_ok fun K hK=>?_;simp only [go_sem];refine hK _ ?_;have hw:=a7 i (by omega);rw [hw];refine⟨fs.length-(i+1),by omega,2,[false,true,false,true,false,false,false,false,false,false,true,true,true],by omega,by simp only [bG,aG,a8,aS,zB,jj],by simp only [bG,aG,a8,aS,zB,jj],i+1,dF+1,acc++[.mk fk fm fn fts ffs],rfl,bR,by rw [lL,r9];simp [Fd.ty],?_⟩;simp [rp,bG,cP,cd]
 have hd:=iV bR;refine ag tt_ok fun K hK=>?_;simp only [cp,hd,go_sem];refine hK _ ?_;refine bz (ba rfl (eH ?_));have iC:i=fs.length:=by omega
 subst iC;show eg _ _ _ _ _ _;refine ag tt_ok fun K hK=>?_;simp only [go_sem];refine hK _ ?_;refine bX ⟨.inl rfl,?_⟩;rw [au] at lL;have hr:bN (Ty.mk k m n ts fs).parts=bN acc:=by rw [lL];rfl
 rw [hr];simp [rT,oF,ql,Tryz.f233,G8,gH,dk,aK];rw [← aK];simp
mutual
def Ty.depth:Ty→Nat
 | .mk _ _ _ ts fs=>1+max (tf ts) (tg fs)
def tf:List Ty→Nat
 | []=>0
 | t :: r=>max t.depth (tf r)
def Fd.depth:Fd→Nat
 | .mk _ (.mk _ _ _ ts fs) _=>1+max (tf ts) (tg fs)
def tg:List Fd→Nat
 | []=>0
 | f :: r=>max f.depth (tg r)
end
theorem Fd.RO (f:Fd):f.depth=f.ty.depth:=by obtain⟨n',⟨k,m,n,ts,fs⟩,o⟩:=f;rfl
def fM {α:Type} (g:α→Nat):List α→Nat
 | []=>0
 | a :: r=>max (g a) (fM g r)
theorem rB {α:Type} (g:α→Nat) (a b:List α):fM g (a++b)=max (fM g a) (fM g b):=by induction a with|nil=>simp [fM]|cons x r ih=>simp [fM,ih,Nat.max_assoc]
theorem Ov {α β:Type} (g:β→Nat) (h:α→β) (a:List α):fM g (a.map h)=fM (fun x=>g (h x)) a:=by induction a with|nil=>rfl|cons x r ih=>simp [fM,ih]
theorem FM (ts:List Ty):tf ts=fM Ty.depth ts:=by induction ts with|nil=>rfl|cons t r ih=>simp [tf,fM,ih]
theorem FN (ts:List Fd):tg ts=fM (fun f=>f.ty.depth) ts:=by induction ts with|nil=>rfl|cons t r ih=>simp [tg,fM,ih,Fd.RO]
theorem Ty.th (t:Ty):t.depth=1+fM Ty.depth t.parts:=by obtain⟨k,m,n,ts,fs⟩:=t;simp only [Ty.depth,Ty.parts,Ty.args,Ty.bp,rB,Ov,FM,FN]
theorem jW {α:Type} (g:α→Nat) {l:List α} {i:Nat} {a:α} (h:l[i]?=some a):fM g (l.take (i+1))=max (fM g (l.take i)) (g a):=by rw [bn,h,rB];simp [fM]
theorem C8 {α:Type} (g:α→Nat) (l:List α) (i:Nat):fM g (l.take i)≤fM g l:=by
 conv=>rhs;rw [← ld i l,rB]
 omega
theorem Ow {α:Type} (g:α→Nat) {l:List α} {i:Nat} {a:α} (h:l[i]?=some a):g a≤fM g l:=by have:=jW g h;have:=C8 g l (i+1);omega
theorem BG {α:Type} (g:α→Nat) {B:Nat}:∀ {l:List α},(∀ (i:Nat) (a:α),l[i]?=some a→g a≤B)→fM g l≤B
 | [],_=>by simp [fM]
 | a :: r,h=>by
  have h1:=h 0 a rfl
  have h2:=BG g (l:=r) (B:=B) fun i b hb=>h (i+1) b (by simpa using hb)
  simp only [fM];omega
theorem Ty.uH:∀ (N:Nat) (t:Ty),t.size≤N→t.depth≤t.size:=by intro N;induction N with|zero=>intro t h;have:=t.size_pos;omega|succ N ih =>intro t hN;rw [Ty.th,Ty.dQ];have h1:=t.dQ;(have:=BG Ty.depth (l:=t.parts) (B:=bh Ty.size t.parts) fun i a ha=>by have:=cb Ty.size ha;have:=ih a (by omega);omega);omega
theorem Ag (a b:Nat):(if ((a:Int)<(b:Int)) then ((b:Nat):Int) else (a:Int))=((max a b:Nat):Int):=by split <;> omega
theorem Ox:∀ (N:Nat) (t:Ty),t.size≤N→N≤1048576→cx ab 205 [cd t] (num t.depth):=by intro N;induction N with|zero=>intro t h;have:=t.size_pos;omega|succ N ih =>intro t hN hb;have zQ:=t.fc;have qd:=t.dQ;have hds:=Ty.uH _ t (ax _);have hdp:=t.th;have RM:=bP Ty.size Ty.size_pos t.parts;have hp:=wI t (by omega);refine jU tt_ok (fn:=Tryz.f205) Tryz.func205 rfl Tryz.call205 ?_;simp only [dG,cB,Tryz.ntmps205,aj,aA,zA,zF,aH,aI];rw [az] at hp ⊢;simp only [ah] at hp ⊢;refine ag tt_ok fun K hK=>?_;simp only [go_sem];refine hK _ ?_;refine ag tt_ok fun K hK=>?_;simp only [go_sem];refine hK _ ?_;refine ag tt_ok fun K hK=>?_;simp only [go_sem];refine .inl ⟨_,_,by simp only [go_sem,au],hp,?_⟩;(try simp only [go_sem]);refine hK _ ?_;refine bz ?_;refine ag tt_ok fun K hK=>?_;simp only [go_sem];refine hK _ ?_;obtain⟨ps,BF⟩:∃ ps,ps=t.parts:=⟨_,rfl⟩;rw [← BF] at qd RM hdp ⊢;refine bY (dd (fun N st=>∃ (i:Nat),N=ps.length-i∧i≤ps.length ∧ st = { fr:=[.undef,.undef,.undef,num ((fM Ty.depth (ps.take i):Nat)),.slice (bN ps),num i]++List.replicate 17 .undef,mem:=[] }) ps.length ?_ ?_);(·exact⟨0,[false,false,false,true,true,true],by omega,by simp only [bG,aG,a8,aS,zB,jj],by simp only [bG,aG,a8,aS,zB,jj],0,by omega,by omega,rfl⟩);rintro N st ⟨i,rfl,hi,rfl⟩;simp only [dG,aH,aI];refine bz ?_;by_cases bR:i<ps.length;(·have hd:=iU bR;refine ag tt_ok fun K hK=>?_;simp only [aK,hd,go_sem];refine hK _ ?_;refine ba rfl (ch ?_);refine bz (bY ?_);obtain⟨u,hu⟩:∃ u,ps[i]?=some u:=⟨_,af bR⟩;have Ou:=cb Ty.size hu;have Ds:=jW Ty.depth hu;have fG:=ih u (by omega) (by omega);rw [az] at fG;simp only [ah] at fG;refine bd tt_ok fun K hK=>?_;simp only [bo,hu,az,ah,go_sem];refine .inl ⟨_,_,by simp only [go_sem,au],fG,?_⟩;(try simp only [go_sem]);refine hK _ ?_;rw [Ag,← Ds];refine bd tt_ok fun K hK=>?_;simp only [go_sem];refine hK _ ?_;have im:=a7 i (by omega);rw [im];exact⟨ps.length-(i+1),by omega,0,[false,false,false,true,true,true],by omega,by simp only [bG,aG,a8,aS,zB,jj],by simp only [bG,aG,a8,aS,zB,jj],i+1,rfl,bR,by simp [rp,bG]⟩);have hd:=iV bR;refine ag tt_ok fun K hK=>?_;simp only [aK,hd,go_sem];refine hK _ ?_;refine ba rfl (eH ?_);(have iC:i=ps.length:=by omega);subst iC;show eg _ _ _ _ _ _;refine ag tt_ok fun K hK=>?_;simp only [go_sem];refine hK _ ?_;refine bX ⟨.inl rfl,?_⟩;(try rw [au]);rw [a7 _ (by omega)];(have mF:fM Ty.depth ps+1=t.depth:=by omega);rw [mF];simp [rT,oF,ql,Tryz.f205,G8,gH,dk,jS]
theorem K7:∀ (N:Nat) (t:Ty),t.size≤N→N≤1048576→cx ab 188 [cd t] (num t.depth):=by intro N;induction N with|zero=>intro t h;have:=t.size_pos;omega|succ N ih =>intro t hN hb;have zQ:=t.fc;have qd:=t.dQ;have hds:=Ty.uH _ t (ax _);have hdp:=t.th;have RM:=bP Ty.size Ty.size_pos t.parts;have hp:=yb t (by omega);refine jU tt_ok (fn:=Tryz.f188) Tryz.func188 rfl Tryz.call188 ?_;simp only [dG,cB,Tryz.ntmps188,aj,aA,zA,zF,aH,aI];rw [az] at hp ⊢;simp only [ah] at hp ⊢;refine ag tt_ok fun K hK=>?_;simp only [go_sem];refine hK _ ?_;refine ag tt_ok fun K hK=>?_;simp only [go_sem];refine hK _ ?_;refine bz ?_;refine ag tt_ok fun K hK=>?_;simp only [go_sem];refine .inl ⟨_,_,by simp only [aK,go_sem,au],hp,?_⟩;(try simp only [aK,go_sem]);refine hK _ ?_;obtain⟨ps,BF⟩:∃ ps,ps=t.parts:=⟨_,rfl⟩;rw [← BF] at qd RM hdp ⊢;refine bY (dd (fun N st=>∃ (i:Nat),N=ps.length-i∧i≤ps.length ∧ st = { fr:=[.undef,.undef,.undef,num ((fM Ty.depth (ps.take i):Nat)),.undef,.undef,.undef,.slice (bN ps),num ps.length,num i]++List.replicate 10 .undef,mem:=[] }) ps.length ?_ ?_);(·exact⟨0,[false,false,false,true,false,false,false,true,true,true],by omega,by simp only [bG,aG,a8,aS,zB,jj],by simp only [bG,aG,a8,aS,zB,jj],0,by omega,by omega,rfl⟩);rintro N st ⟨i,rfl,hi,rfl⟩;simp only [dG,aH,aI];by_cases bR:i<ps.length;(·have hd:=iU bR;refine ag tt_ok fun K hK=>?_;simp only [aK,hd,go_sem];refine hK _ ?_;refine bz (ba rfl (ch ?_));refine bz (bY ?_);obtain⟨u,hu⟩:∃ u,ps[i]?=some u:=⟨_,af bR⟩;have Ou:=cb Ty.size hu;have Ds:=jW Ty.depth hu;have fG:=ih u (by omega) (by omega);rw [az] at fG;simp only [ah] at fG;refine ag tt_ok fun K hK=>?_;simp only [bo,hu,az,ah,go_sem];refine hK _ ?_;refine bd tt_ok fun K hK=>?_;simp only [go_sem];refine .inl ⟨_,_,by simp only [go_sem,au],fG,?_⟩;(try simp only [go_sem]);refine hK _ ?_;rw [Ag,← Ds];refine bd tt_ok fun K hK=>?_;simp only [go_sem];refine hK _ ?_;have im:=a7 i (by omega);rw [im];exact⟨ps.length-(i+1),by omega,0,[false,false,false,true,false,false,false,true,true,true],by omega,by simp only [bG,aG,a8,aS,zB,jj],by simp only [bG,aG,a8,aS,zB,jj],i+1,rfl,bR,by simp [rp,bG]⟩);have hd:=iV bR;refine ag tt_ok fun K hK=>?_;simp only [aK,hd,go_sem];refine hK _ ?_;refine bz (ba rfl (eH ?_));(have iC:i=ps.length:=by omega);subst iC;show eg _ _ _ _ _ _;refine ag tt_ok fun K hK=>?_;simp only [go_sem];refine hK _ ?_;refine bX ⟨.inl rfl,?_⟩;(try rw [au]);rw [a7 _ (by omega)];(have mF:fM Ty.depth ps+1=t.depth:=by omega);rw [mF];simp [rT,oF,ql,Tryz.f188,G8,gH,dk,jS]
section
mutual
def Ty.nodes:Ty→List Ty
 | .mk k m n ts fs=>.mk k m n ts fs :: (ti ts++tj fs)
def ti:List Ty→List Ty
 | []=>[]
 | t :: r=>t.nodes++ti r
def Fd.nodes:Fd→List Ty
 | .mk _ (.mk k m n ts fs) _=>.mk k m n ts fs :: (ti ts++tj fs)
def tj:List Fd→List Ty
 | []=>[]
 | f :: r=>f.nodes++tj r
end
theorem Fd.RP (f:Fd):f.nodes=f.ty.nodes:=by obtain⟨n',⟨k,m,n,ts,fs⟩,o⟩:=f;rfl
theorem Ie (ts:List Ty):ti ts=ts.flatMap Ty.nodes:=by induction ts with|nil=>rfl|cons t r ih=>simp [ti,ih]
theorem Ig (ts:List Fd):tj ts=(ts.map Fd.ty).flatMap Ty.nodes:=by induction ts with|nil=>rfl|cons t r ih=>simp [tj,ih,Fd.RP]
theorem Ty.dy (t:Ty):t.nodes=t :: t.parts.flatMap Ty.nodes:=by obtain⟨k,m,n,ts,fs⟩:=t;simp only [Ty.nodes,Ty.parts,Ty.args,Ty.bp,Ie,Ig,asT]
theorem Ty.wJ:∀ (N:Nat) (t:Ty),t.size≤N→t.nodes.length=t.size:=by intro N;induction N with|zero=>intro t h;have:=t.size_pos;omega|succ N ih =>intro t hN;have h1:=t.dQ;(have gen:∀ (l:List Ty),bh Ty.size l≤N→(l.flatMap Ty.nodes).length=bh Ty.size l:=by intro l;induction l with|nil=>intro _;rfl|cons a r WI =>intro hl;simp only [bh] at hl ⊢;rw [jx,bc,ih a (by omega),WI (by omega)]);rw [Ty.dy,aj,gen _ (by omega)];omega
section
variable {σ α:Type}
def dA (step:σ→α→σ×Bool):σ→List α→σ×Bool
 | s,[]=>(s,true)
 | s,u :: r=>if (step s u).2=true then dA step (step s u).1 r else ((step s u).1,false)
theorem jM (step:σ→α→σ×Bool):∀ (a:List α) (s:σ) (b:List α),dA step s (a++b)=if (dA step s a).2=true then dA step (dA step s a).1 b else ((dA step s a).1,false)
 | [],s,b=>by simp [dA]
 | u :: r,s,b=>by
  simp only [ai,dA]
  split
  ·exact jM step r _ b
  simp
theorem rC (step:σ→α→σ×Bool) {G:σ→Prop} (hG:∀ s u,G s→(step s u).2=true→G (step s u).1):∀ (l:List α) (s:σ),G s→(dA step s l).2=true→G (dA step s l).1
 | [],s,h,_=>h
 | u :: r,s,h,hs=>by
  simp only [dA] at hs ⊢
  split at hs
  ·rename_i hu;rw [if_pos hu];exact rC step hG r _ (hG s u h hu) hs
  cases hs
end
section
variable {σ:Type} {M:σ→List bm} {n k k1 k2:Nat}
theorem WJ (hn:∀ s,(M s).length=n) (hk:k<n) (iA:k1<n) (lr:k2<n) (h1:∀ s,(M s)[k1]?=some (.box [.km k])) (h2:∀ s,(M s)[k2]?=some (.box [.dU (.func 235) [] [.ptr k1 0,.ptr k2 0]])) (hb:∀ s,(M s).all (aS n)=true)
  (step:σ→Ty→σ×Bool) (G:σ→Prop) (hG:∀ s u,G s→(step s u).2=true→G (step s u).1) {B:Nat} (hB:B≤1048576) (hy:∀ s u,G s→u.size≤B→JN ab k [cd u] (M s) (step s u).2 (M (step s u).1)) :
  ∀ (N:Nat) (t:Ty) (s:σ),G s→t.size≤N→N≤B→bw ab 235 [cd t,.ptr k1 0,.ptr k2 0] (M s) (bl (dA step s t.nodes).2) (M (dA step s t.nodes).1):=by
 have g0:∀ s (l:List bm),(M s++l)[n]?=l[0]?:=fun s l=>by rw [a6 (by rw [hn];exact ax _),hn,cI]
 have g1:∀ s (l:List bm),(M s++l)[n+1]?=l[1]?:=fun s l=>by rw [a6 (by rw [hn];omega),hn,ef]
 have YX:∀ s (l:List bm),(M s++l)[k1]?=some (.box [.km k]):=fun s l=>by rw [bx (by rw [hn];exact iA)];exact h1 s
 have gk2:∀ s (l:List bm),(M s++l)[k2]?=some (.box [.dU (.func 235) [] [.ptr k1 0,.ptr k2 0]]):=fun s l=>by rw [bx (by rw [hn];exact lr)];exact h2 s
 have gs:∀ s (l:List bm) X,(M s++l).set n X=M s++l.set 0 X:=fun s l X=>by rw [dt _ _ (by rw [hn];exact ax _),hn,cI]
 have gt:∀ s (l:List bm),(M s++l).take n=M s:=fun s l=>by rw [← hn s,rM]
 have YY:∀ s,(M s).take n=M s:=fun s=>by rw [bu (by rw [hn];exact ax _)]
 have fy:∀ s u (l:List bm),G s→u.size≤B→JN ab k [cd u] (M s++l) (step s u).2 (M (step s u).1++l):=fun s u l hg hu=>by refine (hy s u hg hu).frame (by rw [hn];exact hk) ?_ (by rw [hn];exact hb s) (by rw [hn,hn]) (by rw [hn];exact hb _) l;rw [az];simp [aG,a8,ah]
 intro N;induction N with|zero=>intro t s hg h;have:=t.size_pos;omega|succ N ih =>intro t s hg hN hNB;have zQ:=t.fc;have qd:=t.dQ;have RM:=bP Ty.size Ty.size_pos t.parts;have cK:=t.dy;have hp:=yb t (by omega);have RQ:=fun l=>fy s t l hg (by omega);(have YZ:∀ u s (l:List bm),G s→u.size≤N→bw ab 235 [cd u,.ptr k1 0,.ptr k2 0] (M s++l) (bl (dA step s u.nodes).2) (M (dA step s u.nodes).1++l):=fun u s l hg hu=>by refine (ih u s hg hu (by omega)).frame ?_ (by rw [hn];exact hb s) rfl (by rw [hn,hn]) (by rw [hn];exact hb _) l;rw [az,hn];simp [aG,a8,ah,iA,lr]);simp only [az,ah] at YZ;refine kY tt_ok (fn:=Tryz.f235) n (by rw [hn];exact ax _) Tryz.func235 rfl Tryz.call235 ?_;simp only [dG,cB,Tryz.ntmps235,aj,aA,zA,zF,aH,aI];rw [az] at hp RQ ⊢;simp only [ah] at hp RQ ⊢;refine ag tt_ok fun K hK=>?_;simp only [hn,go_sem];refine hK _ ?_;refine bz ?_;refine ag tt_ok fun K hK=>?_;simp only [YX,g0,hn,go_sem];refine .inl ⟨_,_,RQ _,?_⟩;(try simp only [go_sem]);refine hK _ ?_;cases RR:(step s t).2 with|false =>refine ba rfl ?_;refine ag tt_ok fun K hK=>?_;simp only [go_sem];refine hK _ ?_;refine bX ⟨.inl rfl,?_⟩;(have oC:dA step s t.nodes=((step s t).1,false):=by rw [cK];simp [dA,RR]);rw [oC];exact⟨rfl,rfl,by dsimp only;rw [gt];exact hb _,(gt _ _).symm⟩|true =>refine ba rfl (ch ?_);show eg _ _ _ _ _ _;refine bz ?_;refine ag tt_ok fun K hK=>?_;simp only [YX,g0,hn,go_sem];refine .inl ⟨_,_,by simp only [aK,go_sem,au],hp,?_⟩;(try simp only [aK,go_sem]);refine hK _ ?_;obtain⟨ps,BF⟩:∃ ps,ps=t.parts:=⟨_,rfl⟩;rw [← BF] at qd RM cK ⊢;refine bY (dd (fun N st=>∃ (i:Nat) (s':σ),G s'∧N=ps.length-i∧i≤ps.length∧dA step s (t :: (ps.take i).flatMap Ty.nodes)=(s',true) ∧ st = { fr:=[.undef,.ptr k1 0,.ptr k2 0,.undef,.undef,.undef,.undef,.undef,.undef,.undef,.undef,.undef,.slice (bN ps),num ps.length,num i]++List.replicate 8 .undef,mem:=M s' }) ps.length ?_ ?_);(·refine⟨n,(false::true::true::(rp 9 false [true,true,true])),by rw [hn];exact ax _,by simp only [bG,aG,a8,aS,zB,iA,lr,jj],by dsimp only;rw [gt];exact hb _,0,(step s t).1,hG s t hg RR,by omega,by omega,by simp [dA,RR],?_⟩;dsimp only;rw [gt];rfl);rintro N' st ⟨i,s',Ha,rfl,hi,RS,rfl⟩;simp only [dG,aH,aI];by_cases bR:i<ps.length;(·have hd:=iU bR;refine ag tt_ok fun K hK=>?_;simp only [aK,hd,go_sem];refine hK _ ?_;refine bz (ba rfl (ch ?_));refine bz (bY ?_);obtain⟨u,hu⟩:∃ u,ps[i]?=some u:=⟨_,af bR⟩;have Ou:=cb Ty.size hu;have fG:=fun l=>YZ u s' l Ha (by omega);(have rP:(ps.take (i+1)).flatMap Ty.nodes=(ps.take i).flatMap Ty.nodes++u.nodes:=by rw [bn,hu];simp);(have DW:dA step s (t :: (ps.take (i+1)).flatMap Ty.nodes)=dA step s' u.nodes:=by rw [rP,← ai,jM,RS];simp);refine ag tt_ok fun K hK=>?_;simp only [bo,hu,az,ah,hn,g0,gs,go_sem];refine hK _ ?_;refine ag tt_ok fun K hK=>?_;simp only [gk2,g0,hn,go_sem];(refine .inr <| .inl ⟨_,_,fG _,?_⟩);(try simp only [go_sem]);refine hK _ ?_;cases RT:(dA step s' u.nodes).2 with|false =>refine ba rfl ?_;refine ag tt_ok fun K hK=>?_;simp only [go_sem];refine hK _ ?_;refine bX ⟨.inl rfl,?_⟩;(have oC:dA step s t.nodes=((dA step s' u.nodes).1,false):=by (have BH:ps.flatMap Ty.nodes=(ps.take (i+1)).flatMap Ty.nodes++(ps.drop (i+1)).flatMap Ty.nodes:=by rw [← asT,ld]);rw [cK,BH,← ai,jM,DW,RT];simp);rw [oC];exact⟨rfl,rfl,by dsimp only;rw [gt];exact hb _,(gt _ _).symm⟩|true =>refine ba rfl (ch ?_);show eg _ _ _ _ _ _;refine bd tt_ok fun K hK=>?_;simp only [go_sem];refine hK _ ?_;have im:=a7 i (by omega);rw [im];refine⟨ps.length-(i+1),by omega,n,(false::true::true::(rp 9 false [true,true,true])),by rw [hn];exact ax _,by simp only [bG,aG,a8,aS,zB,iA,lr,jj],by dsimp only;rw [gt];exact hb _,i+1,(dA step s' u.nodes).1,rC step hG _ _ Ha RT,rfl,bR,by rw [DW,← RT],?_⟩;dsimp only;rw [gt];rfl);have hd:=iV bR;refine ag tt_ok fun K hK=>?_;simp only [aK,hd,go_sem];refine hK _ ?_;refine bz (ba rfl (eH ?_));(have iC:i=ps.length:=by omega);subst iC;show eg _ _ _ _ _ _;refine ag tt_ok fun K hK=>?_;simp only [go_sem];refine hK _ ?_;refine bX ⟨.inl rfl,?_⟩;rw [au] at RS;rw [cK,RS];exact⟨rfl,rfl,by dsimp only;rw [YY];exact hb _,(YY _).symm⟩
end
end
section
theorem Ih (t:Ty) (m:List bm) (hb:m.all (aS (m.length+1))=true):bw ab 189 [cd t] m (.dU (.func 234) [] [.ptr m.length 0]) (m++[.box (ah t)]):=by
 refine kY tt_ok (fn:=Tryz.f189) (m.length+1) (by omega) Tryz.func189 rfl Tryz.call189 ?_;simp only [dG,cB,Tryz.ntmps189,aj,aA,zA,zF,aH,aI];rw [az];simp only [ah];refine ag tt_ok fun K hK=>?_;simp only [go_sem];refine hK _ ?_;refine ag tt_ok fun K hK=>?_;simp only [go_sem];refine hK _ ?_;have ht:∀ B:bm,(m++[B]).take (m.length+1)=m++[B]:=fun B=>bu (by simp);refine bX ⟨.inl rfl,rfl,by simp [aG,a8],?_,?_⟩;·dsimp only;rw [ht];simp [hb,aS,aG,a8]
 dsimp only;rw [ht]
section
variable {σ:Type} {M:σ→List bm} {n k kt:Nat}
theorem WK (hn:∀ s,(M s).length=n) (hk:k<n) (Oy:kt<n) {t:Ty} (h1:∀ s,(M s)[kt]?=some (.box (ah t))) (hb:∀ s,(M s).all (aS n)=true)
  (step:σ→Ty→σ×Bool) (G:σ→Prop) (hG:∀ s u,G s→(step s u).2=true→G (step s u).1) {B:Nat} (hB:B≤1048576) (hy:∀ s u,G s→u.size≤B→JN ab k [cd u] (M s) (step s u).2 (M (step s u).1)) (ht:t.size≤B) (s:σ) (hs:G s) :
  bw ab 234 [.km k,.ptr kt 0] (M s) (.ec []) (M (dA step s t.nodes).1):=by
 have g0:∀ s (l:List bm),(M s++l)[n]?=l[0]?:=fun s l=>by rw [a6 (by rw [hn];exact ax _),hn,cI]
 have g1:∀ s (l:List bm),(M s++l)[n+1]?=l[1]?:=fun s l=>by rw [a6 (by rw [hn];omega),hn,ef]
 have Y0:∀ s (l:List bm),(M s++l)[kt]?=some (.box (ah t)):=fun s l=>by rw [bx (by rw [hn];exact Oy)];exact h1 s
 have gs:∀ s (l:List bm) X,(M s++l).set (n+1) X=M s++l.set 1 X:=fun s l X=>by rw [dt _ _ (by rw [hn];omega),hn,ef]
 have gt:∀ s (l:List bm),(M s++l).take n=M s:=fun s l=>by rw [← hn s,rM]
 have hw:∀ s,G s→bw ab 235 [cd t,.ptr n 0,.ptr (n+1) 0] (M s++[.box [.km k],.box [.dU (.func 235) [] [.ptr n 0,.ptr (n+1) 0]]]) (bl (dA step s t.nodes).2) (M (dA step s t.nodes).1++[.box [.km k],.box [.dU (.func 235) [] [.ptr n 0,.ptr (n+1) 0]]]):=fun s hs=>by refine WJ (M:=fun s=>M s++[.box [.km k],.box [.dU (.func 235) [] [.ptr n 0,.ptr (n+1) 0]]]) (n:=n+2) (k:=k) (k1:=n) (k2:=n+1) (fun s=>by simp [hn]) (by omega) (by omega) (by omega) (fun s=>g0 _ _) (fun s=>g1 _ _) (fun s=>?_) step G hG hB (fun s u hg hu=>?_) t.size t s hs (ax _) ht;(·rw [mP,aD];refine⟨rj (by omega) (hb s),?_⟩;simp [aS,aG,a8];omega);refine (hy s u hg hu).frame (by rw [hn];exact hk) ?_ (by rw [hn];exact hb s) (by rw [hn,hn]) (by rw [hn];exact hb _) _;rw [az];simp [aG,a8,ah]
 refine kY tt_ok (fn:=Tryz.f234) n (by rw [hn];exact ax _) Tryz.func234 rfl Tryz.call234 ?_;simp only [dG,cB,Tryz.ntmps234,aj,aA,zA,zF,aH,aI];have BA:=hw s hs;rw [az] at BA;simp only [ah] at BA Y0;refine ag tt_ok fun K hK=>?_;simp only [hn,go_sem];refine hK _ ?_;refine ag tt_ok fun K hK=>?_;simp only [hn,bc,sf,go_sem];refine hK _ ?_;refine ag tt_ok fun K hK=>?_;simp only [hn,g1,gs,go_sem];refine hK _ ?_;refine bd tt_ok fun K hK=>?_;simp only [hn,g1,Y0,go_sem];refine .inr <| .inl ⟨_,_,BA,?_⟩
 try simp only [go_sem]
 refine hK _ ?_;refine⟨.inr rfl,rfl,rfl,?_,?_⟩;·dsimp only;rw [gt];exact hb _
 dsimp only;rw [gt]
def jo {α:Type} (step:σ→α→σ×Option Code):σ→List α→σ×Option Code
 | s,[]=>(s,none)
 | s,u :: r=>match (step s u).2 with
  | none=>jo step (step s u).1 r
  | some c=>((step s u).1,some c)
def wK {α:Type} (step:σ→α→σ×Option Code) (s:σ×Option Code) (u:α):(σ×Option Code)×Bool:=(step s.1 u,(step s.1 u).2.isNone)
theorem Ah {α:Type} (step:σ→α→σ×Option Code):∀ (l:List α) (s:σ),(dA (wK step) (s,none) l).1=jo step s l
 | [],s=>rfl
 | u :: r,s=>by
  simp only [dA,jo]
  have nn:(wK step (s,none) u).1=step s u:=rfl
  have CY:(wK step (s,none) u).2=(step s u).2.isNone:=rfl
  by_cases Dn:(step s u).2.isNone=true
  ·rw [if_pos (CY.trans Dn),nn]
   have h2:(step s u).2=none:=by simpa using Dn
   have e:step s u=((step s u).1,none):=asY rfl h2
   have h3:=Ah step r (step s u).1
   rw [← e] at h3
   rw [h2]
   exact h3
  have RU:=Dn
  rw [if_neg (fun h=>RU (CY.symm.trans h)),nn]
  cases h2:(step s u).2 with
  | none=>rw [h2] at RU;exact absurd rfl RU
  | some c=>dsimp only;exact asY rfl h2
theorem take_set {mem pre:List bm} {n:Nat} {X Y:bm} (hn:pre.length=n) (h1:mem[n]?=some Y) (h2:mem.take n=pre):(mem.set n X).take (n+1)=pre++[X]:=by
 have bR:n<mem.length:=(aq.1 h1).1;refine dq fun i=>?_;by_cases hi:i<n;·rw [jO (by omega),cL (by omega),bx (by omega),← h2,jO hi]
 by_cases o7:i=n;·subst o7;rw [jO (by omega),asP bR,a6 (by omega)];simp [hn]
 rw [dN (by simp;omega),dN (by simp [hn];omega)]
theorem Oz {n0:Nat} {st:St} {Q:Exit→St→Prop} {f:Operand} {params:Array Tmp} {assign body:Code} {t:Ty} (pre:σ→List bm) (s0:σ) (n kt:Nat) (oK:st.mem=pre s0) (hn:∀ s,(pre s).length=n) (Oy:kt<n)
  (ht:∀ s,(pre s)[kt]?=some (.box (ah t))) (hb:∀ s,(pre s).all (aS (n+1))=true) (zY:st.fr.all (aG (n+1))=true) (hf:st.eval f = .dU (.func 234) [] [.ptr kt 0]) (hp:params.size=1) (step:σ→Ty→σ×Option Code) {B:Nat} (hB:B≤1048576) (nh:t.size≤B)
  (BI:∀ s u,u.size≤B→∀ (l:Nat) (LR LB:bm),aS (n+1) LR=true→aS (n+1) LB=true→eg ab (some l) (n+1) assign { fr:=pB params.toList [cd u] st.fr,mem:=pre s++[LR] } fun ex uh=>ex = .normal∧uh.mem[n]?=some LR ∧
   eg ab (some l) (n+1) body { uh with mem:=uh.mem.set n LB } fun ex z7=>sE ex=some (step s u).2∧z7.mem[n]?=some LB∧z7.mem.take n=pre (step s u).1)
  (hq:match (jo step s0 t.nodes).2 with
   | none=>Q .normal { st with mem:=pre (jo step s0 t.nodes).1++[.dead] }
   | some c=>eg ab none n0 c { st with mem:=pre (jo step s0 t.nodes).1++[.dead] } Q):eg ab none n0 (.rangeFunc f params assign body) st Q:=by
 have hlen:st.mem.length=n:=by rw [oK,hn]
 have gn:∀ s X,(pre s++[X])[n]?=some X:=fun s X=>by rw [a6 (by rw [hn];exact ax _),hn,cI];rfl
 have gk:∀ s X,(pre s++[X])[kt]?=some (.box (ah t)):=fun s X=>by rw [bx (by rw [hn];exact Oy)];exact ht s
 have Ii:∀ s (X Y:bm),(pre s++[X]).set n Y=pre s++[Y]:=fun s X Y=>by rw [dt _ _ (by rw [hn];exact ax _),hn,cI];rfl
 have zd:∀ (s:σ) (a:LoopState) (b:Option Code),(pre s++[bm.loop a b st.fr params assign body]).all (aS (n+1))=true:=fun s a b=>by rw [mP,aD];exact⟨hb s,by simp only [ct,dO,aF,aS];exact zY⟩
 have it:=WK (M:=fun s:σ×Option Code=>pre s.1++[.loop (if s.2.isNone then .ready else .done) s.2 st.fr params assign body]) (n:=n+1) (k:=n) (kt:=kt) (t:=t) (fun s=>by simp [hn]) (by omega) (by omega) (fun s=>gk _ _) (fun s=>zd _ _ _)
  (wK step) (fun s=>s.2=none) (fun s u hs h=>by simpa [wK] using h) hB (fun s u hs hu=>by
   obtain⟨s,j⟩:=s
   simp only at hs;subst hs
   refine sF (fr:=st.fr) (params:=params) (assign:=assign) (body:=body) (gn _ _) (by simp [hp]) fun l=>?_
   have hl:(pre s++[bm.loop .ready none st.fr params assign body]).length=n+1:=by simp [hn]
   simp only [ads,if_true,hl]
   refine eg.mono (BI s u hu l (.loop .ready none st.fr params assign body) (.loop .busy none st.fr params assign body) zY zY) ?_
   rintro ex uh ⟨h1,h2,h3⟩
   refine⟨h1,h2,eg.mono h3 ?_⟩
   rintro ex z7 ⟨h4,h5,h6⟩
   refine⟨_,h4,rfl,h5,?_,?_⟩
   ·rw [take_set (hn _) h5 h6];exact zd _ _ _
   rw [take_set (hn _) h5 h6];rfl) nh (s0,none) rfl
 rw [Ah] at it;refine pU (g:=234) (vs:=[.km n,.ptr kt 0]) (by rw [hf,hlen];rfl) (by rw [oK];exact it) ?_;rw [hlen];refine⟨_,_,_,_,_,_,gn _ _,?_,?_⟩;·cases (jo step s0 t.nodes).2 <;> simp
 generalize hj:(jo step s0 t.nodes).2=j at hq;cases j with|none=>dsimp only at hq ⊢;rw [Ii];exact hq|some c=>dsimp only at hq ⊢;rw [Ii];exact hq
end
end
theorem vb {σ α:Type} (g:σ→α→σ):∀ (l:List α) (s:σ),jo (fun s u=>(g s u,none)) s l=(l.foldl g s,none)
 | [],s=>rfl
 | u :: r,s=>by simp only [jo,fq];exact vb g r _
theorem BJ {α:Type}:∀ (l:List α) (a:Nat),a+l.length≤1152921504606846976→l.foldl (fun (s:Int) _=>IntKind.i64.wrap (s+1)) (a:Int)=((a+l.length:Nat):Int)
 | [],a,_=>rfl
 | _ :: r,a,h=>by
  simp only [aj] at h
  rw [fq,a7 a (by omega),BJ r (a+1) (by omega),aj]
  congr 1;omega
theorem ot (t:Ty) (ht:t.size≤1048576):cx ab 175 [cd t] (num t.size):=by
 refine jU tt_ok (fn:=Tryz.f175) Tryz.func175 rfl Tryz.call175 ?_;simp only [dG,cB,Tryz.ntmps175,aj,aA,zA,zF,aH,aI];have h51:=fun B0 B1 h=>Ih t [B0,B1] h;rw [az] at h51 ⊢;simp only [ah] at h51 ⊢;refine ag tt_ok fun K hK=>?_;simp only [go_sem];refine hK _ ?_;refine ag tt_ok fun K hK=>?_;simp only [go_sem];refine hK _ ?_;refine bz ?_;refine ag tt_ok fun K hK=>?_;simp only [go_sem];refine .inr <| .inl ⟨_,_,h51 _ _ rfl,?_⟩
 try simp only [go_sem]
 refine hK _ ?_;refine bY (Oz (t:=t) (B:=1048576) (fun s:Int=>[.box (ah t),.box [num s],.box (ah t)]) 0 3 2 rfl (fun _=>rfl) (by omega) (fun _=>rfl) (fun _=>rfl) rfl rfl rfl (fun s _=>(IntKind.i64.wrap (s+1),none)) (by omega) ht ?_ ?_);·intro s u hu l LR LB hLR hLB;refine ch ⟨rfl,rfl,bY ?_⟩;refine bd tt_ok fun K hK=>?_;simp only [go_sem];refine hK _ ?_;exact⟨rfl,rfl,rfl⟩
 rw [vb,show (0:Int)=((0:Nat):Int) from rfl,BJ _ _ (by rw [Ty.wJ _ t (ax _)];omega),Ty.wJ _ t (ax _),aZ];show eg _ _ _ _ _ _;refine ag tt_ok fun K hK=>?_;simp only [go_sem];refine hK _ ?_;exact bX ⟨.inl rfl,rfl⟩
def bT {α:Type} (f:α→Int):List α→Int
  | []=>0
  | u :: r=>if f u=0 then bT f r else f u
def yc (a b:ByteArray):Int:=if a=b then 5 else if Rz b a=true then 1 else 0
def iN:List ByteArray→Int
  | []=>0
  | a :: r=>match r with
    | []=>0
    | b :: _=>if yc a b=0 then iN r else yc a b
def eh (t:Ty):Bool:=decide (t.kind=0)&&jQ t.mod&&jQ t.name&&decide (t.args.length=0)&&decide (t.bp.length=0)
def K8 (t:Ty):Bool :=
  (decide (t.kind=8) || !(t.bp.any Fd.opt)) &&
  (if t.kind=0∨t.kind=1∨t.kind=2∨t.kind=3∨t.kind=4 then jQ t.mod&&jQ t.name&&decide (t.args.length=0)&&decide (t.bp.length=0)
   else if t.kind=5 then jQ t.mod&&jQ t.name&&decide (t.args.length=1)&&decide (t.bp.length=0)
   else if t.kind=6∨t.kind=7 then jQ t.mod&&jQ t.name&&decide (t.args.length=0)
   else if t.kind=8 then jQ t.mod&&jQ t.name&&decide (t.args.length=1)
   else if t.kind=9 then jQ t.mod&&decide (t.args.length=0)&&decide (t.bp.length=0)
   else if t.kind=10 then decide (t.bp.length=0) else false)
def tU (t:Ty):Int :=
  if K8 t=false then 1
  else if 32<t.bp.length∨8<t.args.length then 7
  else if (t.kind=9∧x9 t.name=false)∨(t.kind=10∧(nT t.mod=false∨ka t.name=false)) then 4
  else if (t.bp.any fun f=>!dJ f.name)=true then 4
  else iN (t.bp.map Fd.name)
def n5 (t:Ty):Int:=if 4096<t.size∨32<t.depth then 7 else bT tU t.nodes
end Go.Proofs.YtnboooapeopjoaaGreatDoor
end
