import Derived.Test.YtnboooapeopjoaaGreatDoorJ2
import Derived.Shelf.Small.Wraps
import Derived.Shelf.Strings.Search3
import Derived.Shelf.Strings.Split
import Derived.Test.YtnboooapeopjoaaGreatDoorProg
import Derived.IntWalk
open Array renaming toArray_toList→di
open Bool renaming and_eq_true→aL,and_false→aS,and_true→aN,eq_iff_iff→mB,false_eq_true→cf
open ByteArray renaming data_append→wJ,ext→apM,size_append→Tm
open Go.Proofs.Tryz renaming prog→af
open Int renaming cast_ofNat_Int→ct,le_refl→apC,lt_of_lt_of_le→aqt,toNat_natCast→Cp
open List renaming all_append→Ia,all_cons→cZ,all_eq_true→a7,all_nil→dY,any_eq_true→agH,append_assoc→Cq,cons_append→au,drop_drop→ap8,drop_succ_cons→yS,ext_getElem?→dy,flatMap_append→apF,flatMap_cons→kV,foldl_append→rh,foldl_cons→aM,getElem?_append_left→bF,getElem?_append_right→aW,getElem?_cons_zero→dk,getElem?_drop→BU,getElem?_eq_getElem→ak,getElem?_eq_none→dQ,getElem?_eq_none_iff→aqF,getElem?_eq_some_iff→az,getElem?_map→ae,getElem?_set_ne→eY,getElem?_take_of_lt→jN,headD_cons→cr,length_append→aQ,length_cons→ay,length_drop→gG,length_map→ab,length_nil→aI,length_singleton→apE,map_append→dJ,map_congr_left→gp,map_cons→cR,map_id→apL,map_map→uN,map_nil→cP,mem_append→ew,mem_cons_of_mem→bP,mem_cons_self→b9,mem_iff_getElem?→cq,mem_map→dv,mem_of_getElem?→aB,mem_or_eq_of_mem_set→ap4,mem_range→alf,mem_singleton→eJ,nil_append→ax,replicate_succ→aD,replicate_zero→aE,set_append_right→dz,set_cons_zero→bh,take_add_one→br,take_append_drop→wI,take_left→qM,take_length→ai,take_of_length_le→aX
open Nat renaming add_comm→SO,add_sub_cancel→aaU,add_sub_cancel_left→ez,add_zero→kC,le_antisymm→apD,le_of_ble_eq_true→jd,le_of_not_lt→agI,le_refl→aw,le_succ_of_le→aqk,lt_or_ge→bL,not_lt_zero→du,sub_add_cancel→aqu,sub_self→cU,zero_add→bE,zero_le→bn
open Option renaming getD_some→agG,isNone_none→aaT,map_eq_some_iff→bA,map_some→cA
open Prod renaming ext→apJ
open UInt8 renaming toNat_inj→aqf
set_option linter.all false
section
namespace Go.Proofs.YtnboooapeopjoaaGreatDoor
set_option maxHeartbeats 4000000
set_option maxRecDepth 100000
section
open Go.RowKit Go.Lib Go.Shelf
def GD:Go.Shelf.Ren:=⟨fun | 103=>249 | 210=>282 | 206=>308 | n=>n,fun | 9=>9 | 4=>4 | 24=>129 | 3=>3 | n=>n,fun | n=>n⟩
theorem UC:Go.Proofs.Lays.n103 af GD := {
 mixed:=by kernel_rfl
 f103:=Tryz.func249.trans (congrArg some (by kernel_rfl))
 f206:=Tryz.func308.trans (congrArg some (by kernel_rfl))
 f210:=Tryz.func282.trans (congrArg some (by kernel_rfl))
 t3:=Tryz.underlying3
 a3:=Tryz.isAgg3
 z3:=Tryz.sizeOf3
 v3:=Tryz.zeroValue3
 t4:=Tryz.underlying4
 a4:=Tryz.isAgg4
 z4:=Tryz.sizeOf4
 v4:=Tryz.zeroValue4
 t9:=Tryz.underlying9
 a9:=Tryz.isAgg9
 z9:=Tryz.sizeOf9
 v9:=Tryz.zeroValue9
 t24:=Tryz.underlying129
 a24:=Tryz.isAgg129
 z24:=Tryz.sizeOf129
 v24:=Tryz.zeroValue129 }
theorem strings_CutPrefix (s p:ByteArray) (w:World) :
  Calls af 249 #[.string s,.string p] w fun e w'=>e = .returned (.tuple #[.string ⟨(Lib.trimPrefix s.data.toList p.data.toList).toArray⟩,.bool (Lib.hasPrefix s.data.toList p.data.toList)])∧w'=w:=Any.strings_CutPrefix UC s p w
def GF:Go.Shelf.Ren:=⟨fun | 144=>231 | 143=>270 | 219=>301 | 217=>316 | 225=>317 | 224=>318 | 267=>319 | 266=>322 | 314=>323 | n=>n,fun | 9=>9 | 4=>4 | 3=>3 | 5=>5 | 46=>219 | 146=>295 | 51=>252 | n=>n,fun | n=>n⟩
theorem UD:Go.Proofs.Lays.n144 af GF := {
 mixed:=by kernel_rfl
 f143:=Tryz.func270.trans (congrArg some (by kernel_rfl))
 f144:=Tryz.func231.trans (congrArg some (by kernel_rfl))
 f217:=Tryz.func316.trans (congrArg some (by kernel_rfl))
 f219:=Tryz.func301.trans (congrArg some (by kernel_rfl))
 f224:=Tryz.func318.trans (congrArg some (by kernel_rfl))
 f225:=Tryz.func317.trans (congrArg some (by kernel_rfl))
 f266:=Tryz.func322.trans (congrArg some (by kernel_rfl))
 f267:=Tryz.func319.trans (congrArg some (by kernel_rfl))
 f314:=Tryz.func323.trans (congrArg some (by kernel_rfl))
 t3:=Tryz.underlying3
 a3:=Tryz.isAgg3
 z3:=Tryz.sizeOf3
 v3:=Tryz.zeroValue3
 t4:=Tryz.underlying4
 a4:=Tryz.isAgg4
 z4:=Tryz.sizeOf4
 v4:=Tryz.zeroValue4
 t5:=Tryz.underlying5
 a5:=Tryz.isAgg5
 z5:=Tryz.sizeOf5
 v5:=Tryz.zeroValue5
 t9:=Tryz.underlying9
 a9:=Tryz.isAgg9
 z9:=Tryz.sizeOf9
 v9:=Tryz.zeroValue9
 t46:=Tryz.underlying219
 a46:=Tryz.isAgg219
 z46:=Tryz.sizeOf219
 v46:=Tryz.zeroValue219
 t51:=Tryz.underlying252
 a51:=Tryz.isAgg252
 z51:=Tryz.sizeOf252
 v51:=Tryz.zeroValue252
 t146:=Tryz.underlying295
 a146:=Tryz.isAgg295
 z146:=Tryz.sizeOf295
 v146:=Tryz.zeroValue295
 g1:=by kernel_rfl }
theorem strings_Contains (s sub:ByteArray) (m:Int) (w:World) (hs:s.size<4294967281) (hm:w.cell? ⟨1,0,none⟩=some (.int .i64 m)) :
  Calls af 231 #[.string s,.string sub] w fun e w'=>e = .returned (.bool (Lib.contains s.data.toList sub.data.toList))∧w'=w:=Any.strings_Contains UD s sub m w hs hm
def GG:Go.Shelf.Ren:=⟨fun | 146=>195 | 221=>248 | 268=>280 | 138=>281 | 143=>270 | 195=>305 | 197=>306 | 218=>307 | 219=>301 | 260=>321 | 217=>316 | 225=>317 | 224=>318 | 267=>319 | 266=>322 | 314=>323 | n=>n,fun | 9=>9 | 31=>36 | 3=>3 | 4=>4 | 0=>0 | 105=>286 | 21=>21 | 5=>5 | 46=>219 | 119=>297 | 139=>300 | 138=>299 | 146=>295 | 51=>252 | n=>n,fun | 1=>1 | 3=>4 | 4=>5 | n=>n⟩
theorem UE:Go.Proofs.Lays.n146 af GG := {
 mixed:=by kernel_rfl
 f138:=Tryz.func281.trans (congrArg some (by kernel_rfl))
 f143:=Tryz.func270.trans (congrArg some (by kernel_rfl))
 f146:=Tryz.func195.trans (congrArg some (by kernel_rfl))
 f195:=Tryz.func305.trans (congrArg some (by kernel_rfl))
 f197:=Tryz.func306.trans (congrArg some (by kernel_rfl))
 f217:=Tryz.func316.trans (congrArg some (by kernel_rfl))
 f218:=Tryz.func307.trans (congrArg some (by kernel_rfl))
 f219:=Tryz.func301.trans (congrArg some (by kernel_rfl))
 f221:=Tryz.func248.trans (congrArg some (by kernel_rfl))
 f224:=Tryz.func318.trans (congrArg some (by kernel_rfl))
 f225:=Tryz.func317.trans (congrArg some (by kernel_rfl))
 f260:=Tryz.func321.trans (congrArg some (by kernel_rfl))
 f266:=Tryz.func322.trans (congrArg some (by kernel_rfl))
 f267:=Tryz.func319.trans (congrArg some (by kernel_rfl))
 f268:=Tryz.func280.trans (congrArg some (by kernel_rfl))
 f314:=Tryz.func323.trans (congrArg some (by kernel_rfl))
 t0:=Tryz.underlying0
 a0:=Tryz.isAgg0
 z0:=Tryz.sizeOf0
 v0:=Tryz.zeroValue0
 t3:=Tryz.underlying3
 a3:=Tryz.isAgg3
 z3:=Tryz.sizeOf3
 v3:=Tryz.zeroValue3
 t4:=Tryz.underlying4
 a4:=Tryz.isAgg4
 z4:=Tryz.sizeOf4
 v4:=Tryz.zeroValue4
 t5:=Tryz.underlying5
 a5:=Tryz.isAgg5
 z5:=Tryz.sizeOf5
 v5:=Tryz.zeroValue5
 t9:=Tryz.underlying9
 a9:=Tryz.isAgg9
 z9:=Tryz.sizeOf9
 v9:=Tryz.zeroValue9
 t21:=Tryz.underlying21
 a21:=Tryz.isAgg21
 z21:=Tryz.sizeOf21
 v21:=Tryz.zeroValue21
 t31:=Tryz.underlying36
 a31:=Tryz.isAgg36
 z31:=Tryz.sizeOf36
 v31:=Tryz.zeroValue36
 t46:=Tryz.underlying219
 a46:=Tryz.isAgg219
 z46:=Tryz.sizeOf219
 v46:=Tryz.zeroValue219
 t51:=Tryz.underlying252
 a51:=Tryz.isAgg252
 z51:=Tryz.sizeOf252
 v51:=Tryz.zeroValue252
 t105:=Tryz.underlying286
 a105:=Tryz.isAgg286
 z105:=Tryz.sizeOf286
 v105:=Tryz.zeroValue286
 t119:=Tryz.underlying297
 a119:=Tryz.isAgg297
 z119:=Tryz.sizeOf297
 t138:=Tryz.underlying299
 a138:=Tryz.isAgg299
 z138:=Tryz.sizeOf299
 v138:=Tryz.zeroValue299
 t139:=Tryz.underlying300
 a139:=Tryz.isAgg300
 z139:=Tryz.sizeOf300
 v139:=Tryz.zeroValue300
 t146:=Tryz.underlying295
 a146:=Tryz.isAgg295
 z146:=Tryz.sizeOf295
 v146:=Tryz.zeroValue295
 g1:=by kernel_rfl
 g3:=by kernel_rfl
 g4:=by kernel_rfl }
theorem strings_Split (s sep:ByteArray) (m:Int) (w:World) (hs:s.size<4294967281) (hm:w.cell? ⟨1,0,none⟩=some (.int .i64 m)) (h1:1≤sep.size) :
  Calls af 195 #[.string s,.string sep] w fun e w' =>
   e = .returned (.slice (some ⟨w.heap.size,0,none⟩) (Lib.countB s sep+1) (Lib.countB s sep+1))∧w'=w.alloc (.cells ((Lib.splitB sep 0 (Lib.countB s sep) s).map Value.string).toArray 9):=Any.strings_Split UE (by kernel_rfl) s sep m w hs hm h1
end
end Go.Proofs.YtnboooapeopjoaaGreatDoor
end

section
namespace Go.Eng
variable [bg]
open Go.RowKit (Below)
theorem bR.of_same {P:Program} {f:FuncId} {l:List Value} {v:Value} (hc:∀ (xs:Array Value) (w:World),(callFunc f xs).run P w = .ok (.enter f xs) w) (hG:bg.g=some 1)
  (h:∀ w:World,w.cell? ⟨1,0,none⟩=some (.int .i64 bg.n)→Calls P f l.toArray w fun e w'=>e = .returned v∧w'=w):bR P f (l.map V.sc) (kX v):=by
 refine⟨hc,fun F hg w xs hF hx=>?_⟩;have qa:xs=l.toArray:=by rw [← di (xs:=xs)];congr 1;refine dy fun i=>?_;cases hi:l[i]? with | none =>have h1:=hx.1;rw [ab] at h1;rw [dQ (by have:=aqF.1 hi; omega)] | some a =>obtain⟨y,hy,hr⟩:=hx.get (i:=i) (v:=.sc a) (by rw [ae,hi]; rfl);rw [hy,gN hr]
 rw [qa];refine (h w (hF _ _ (hg.n 1 hG))).mono ?_;rintro e w' ⟨rfl,rfl⟩;exact⟨F,_,rfl,fun _ _ h=>h,hF,fun _ _ h=>.inl h,⟨hg,kY _ _⟩,Below.refl _ _⟩
end Go.Eng
namespace Go.Proofs.YtnboooapeopjoaaGreatDoor
open Go.Eng
open Go.RowKit (Below)
variable [bg]
theorem rY (hG:bg.g=some 1) (s t:ByteArray) (hs:s.size<4294967281):bR af 231 [str s,str t] (bl (Lib.contains s.data.toList t.data.toList)) :=
 bR.of_same (l:=[.string s,.string t]) Tryz.call231 hG fun w hw=>strings_Contains s t bg.n w hs hw
theorem MH (hG:bg.g=some 1) (s t:ByteArray):bR af 249 [str s,str t] (.eV [str ⟨(Lib.trimPrefix s.data.toList t.data.toList).toArray⟩,bl (Lib.hasPrefix s.data.toList t.data.toList)]) :=
 bR.of_same (l:=[.string s,.string t]) Tryz.call249 hG fun w _=>strings_CutPrefix s t w
def pieces (s:ByteArray):List ByteArray:=Lib.splitB ⟨#[47]⟩ 0 (Lib.countB s ⟨#[47]⟩) s
theorem m9 (s:ByteArray):(pieces s).length=Lib.countB s ⟨#[47]⟩+1:=Lib.splitB_all ⟨#[47]⟩ (by decide) 0 _ s rfl
theorem QC (hG:bg.g=some 1) (s:ByteArray) (hs:s.size<4294967281):bR af 195 [str s,str ⟨#[47]⟩] (.slice ((pieces s).map str)):=by
 refine⟨Tryz.call195,fun F hg w xs hF hx=>?_⟩;obtain⟨x,ys,qa,hr,ad0⟩:=hx.of_cons;obtain⟨y,zs,hys,Iz,hz⟩:=ad0.of_cons;have XL:=hz.of_nil;subst XL;have h1:=gN hr;have h2:=gN Iz;subst h1; subst h2; subst hys;obtain rfl:xs = #[.string s,.string ⟨#[47]⟩]:=by rw [← di (xs:=xs),qa]
 refine (strings_Split s ⟨#[47]⟩ bg.n w hs (hF _ _ (hg.n 1 hG)) (by decide)).mono ?_;rintro e w' ⟨rfl,rfl⟩;have hold:∀ ad y,F ad=some y→ad.block≠w.heap.size:=fun ad y h e=>by have:=World.block_lt_of_cell? w ad (hF ad y h); omega
 have pb:∀ o,(w.alloc (.cells ((pieces s).map Value.string).toArray 9)).cell? ⟨w.heap.size,o,none⟩=((pieces s).map Value.string)[o]?:=fun o=>by unfold World.cell? World.alloc;simp
 let F':Addr→Option Value:=fun ad=>if ad.block=w.heap.size then (w.alloc (.cells ((pieces s).map Value.string).toArray 9)).cell? ad else F ad;have hFF:∀ ad y,F ad=some y→F' ad=some y:=fun ad y h=>by show (if _ then _ else _)=_;rw [if_neg (hold ad y h)]; exact h
 have FJ:Gl F':=hg.mono hFF;refine⟨F',_,rfl,hFF,fun ad y h=>?_,fun ad y h=>?_,⟨FJ,?_⟩,(Below.refl _ _).alloc (aw _) _⟩;·by_cases hb:ad.block=w.heap.size;(·rw [show F' ad=_ from if_pos hb] at h; exact h);rw [show F' ad=_ from if_neg hb] at h;have h3:=hF ad y h;rw [← h3];have ca:=World.block_lt_of_cell? w ad h3;unfold World.cell?;rw [Below.heap_alloc w _ _ ca]
 ·by_cases hb:ad.block=w.heap.size;(·exact .inr (by omega));rw [show F' ad=_ from if_neg hb] at h; exact .inl h
 have hl:((pieces s).map str).length=Lib.countB s ⟨#[47]⟩+1:=by rw [ab,m9]
 have:=dh.slice ⟨F',fun _ _=>none,FJ⟩ ((pieces s).map str) (some ⟨w.heap.size,0,none⟩) (Lib.countB s ⟨#[47]⟩+1) 1 ⟨w.heap.size,0,none⟩ (fun i _=>(((pieces s).map Value.string)[i]?).getD undef) (fun _=>rfl) (by rw [hl]; exact aw _)
  (fun i row hi=>by rw [ae,bA] at hi; obtain⟨u,-,rfl⟩:=hi; rfl)
  (fun i row j c hi hj=>by
   rw [ae,bA] at hi
   obtain⟨u,hu,rfl⟩:=hi
   match j,hj with
   | 0,hj =>
    show F' _=_
    rw [add_lit,show F' _=_ from if_pos rfl,pb]
    simp [hu]
   | j+1,hj=>simp [V.cells] at hj)
  (fun i row j c hi hj=>by
   rw [ae,bA] at hi
   obtain⟨u,hu,rfl⟩:=hi
   simp [hu,Value.oneCell'])
  (fun i row j c hi hj=>by
   rw [ae,bA] at hi
   obtain⟨u,hu,rfl⟩:=hi
   match j,hj with
   | 0,hj =>
    cases hj
    simp only [ae,hu,cA,agG]
    exact .sc _ _
   | j+1,hj=>simp [V.cells] at hj)
 rw [hl] at this;exact this
end Go.Proofs.YtnboooapeopjoaaGreatDoor
end

section
namespace Go.Proofs.YtnboooapeopjoaaGreatDoor
open Go.Eng
variable [bg]
open Nat renaming reduceAdd → zA, reduceLT → zB, reduceLeDiff → zC, reduceMul → zD, reduceEqDiff → zE, reduceSub → zF
set_option maxHeartbeats 4000000
set_option maxRecDepth 100000
def tJ:ByteArray:=⟨#[32,97,110,100,32,97,110,121,32,97,115,32,98,111,111,108,32,100,101,112,114,101,99,97,116,101,100,32,101,108,115,101,32,101,120,112,111,114,116,32,102,97,108,115,101,32,102,110,32,102,111,108,100,32,102,114,111,109,32,105,102,32,105,109,112,111,114,116,32,105,110,32,105,110,116,32,108,101,110,103,116,104,32,108,101,116,32,108,105,115,116,32,109,97,116,99,104,32,109,111,100,117,108,101,32,110,111,110,101,32,110,111,116,32,111,114,32,116,101,120,116,32,116,104,101,110,32,116,114,117,101,32,116,121,112,101,32,117,115,101,32]⟩
def kwB (s:ByteArray):Bool:=Lib.contains tJ.data.toList (⟨#[32]⟩++s++⟨#[32]⟩:ByteArray).data.toList
def gy (s:ByteArray):Bool:=decide (1≤s.size)&&decide (s.size≤32)&&Cf (ff s 0)&&lP oK s && !kwB s
def tn (s:ByteArray):Bool:=gy s&&lP AA s
def mQ (s:ByteArray):ByteArray:=⟨(Lib.trimPrefix s.data.toList [118]).toArray⟩
def rZ (s:ByteArray):Bool:=Lib.hasPrefix s.data.toList [118]
def jw (t:ByteArray):Nat→Int
 | 0=>0
 | k+1=>10*jw t k+(ff t k-48)
def r5 (t:ByteArray):Bool:=decide (1≤t.size)&&decide (t.size≤3) && !(decide (1<t.size)&&decide (ff t 0=48))&&lP kr t
def gj (s:ByteArray):Bool:=rZ s&&r5 (mQ s)
def oL (s:ByteArray):Int:=jw (mQ s) (mQ s).size
theorem AK {p:Int→Bool} {s:ByteArray} (h:lP p s=true) {i:Nat} {c:UInt8} (hc:s[i]?=some c):p c.toNat=true:=a7.1 h c (aB (rV hc))
theorem uw {t:ByteArray} (h:lP kr t=true):∀ k,k≤t.size→0≤jw t k∧jw t k<10 ^ k
 | 0,_=>⟨apC _,by simp [jw]⟩
 | k+1,hk=>by
  obtain⟨h1,h2⟩:=uw h k (by omega)
  obtain⟨c,hc⟩:=ft (s:=t) (i:=k) (by omega)
  have h3:=AK h hc
  unfold kr at h3
  simp only [aL,decide_eq_true_eq] at h3
  rw [jw,fM hc,Int.pow_succ]
  omega
theorem QD {t:ByteArray} (h:lP kr t=true) (h3:t.size≤3) {k:Nat} (hk:k≤t.size):0≤jw t k∧jw t k<1000:=by
 obtain⟨h1,h2⟩:=uw h k hk;refine⟨h1,aqt h2 ?_⟩;have:k=0∨k=1∨k=2∨k=3:=by omega
 rcases this with rfl | rfl | rfl | rfl <;> decide
theorem Jr (hG:bg.g=some 1) (s:ByteArray) (hs:s.size≤1000000):∃ r_,(fun w=>w=bl (kwB s)) r_∧bR af 179 [str s] r_:=by refine j3 tt_ok [] 7 [.tmp 2] (fn:=Tryz.f179) Tryz.func179 rfl Tryz.call179 ⟨rfl,rfl,by simp⟩ fun K hK=>?_;have sa1:=fun x y=>DW af 9 x y ⟨#[32]⟩ s (by rw [show (⟨#[32]⟩:ByteArray).size=1 from rfl,show IntKind.i64.max=9223372036854775807 from rfl]; omega);have sa2:=fun x y=>DW af 9 x y (⟨#[32]⟩++s) ⟨#[32]⟩ (by rw [Tm,show (⟨#[32]⟩:ByteArray).size=1 from rfl,show IntKind.i64.max=9223372036854775807 from rfl]; omega);simp only [sa1,sa2,go_sem];refine cF (⟨_,rfl,rY hG _ _ (by decide)⟩) ?_;rintro _ rfl;simp only [sa1,sa2,go_sem];exact hK _ rfl
theorem jo (hG:bg.g=some 1) (s:ByteArray):∃ r_,(fun w=>w=bl (gy s)) r_∧bR af 130 [str s] r_:=by
 refine j3 tt_ok [] 24 [.tmp 2] (fn:=Tryz.f130) Tryz.func130 rfl Tryz.call130 ⟨rfl,rfl,by simp⟩ fun K hK=>?_;have ox:af.underlying 9=some .string:=by kernel_rfl
 have sl:∀ (a:ByteArray) (ty:TypeId),j5 af (Builtin.len_ #[9] ty) [.sc (.string a)]=some (num a.size):=fun a ty=>jI (P:=af) (tt:=tt) (T:=9) a ox ty;simp only [sl,go_sem];refine bY (fun ir=>?_) (fun ir=>?_);·have h1:=En rfl ir;obtain⟨QE,nr⟩:=ft (s:=s) (i:=(0:Int).toNat) (by omega);have cV:=gJ (P:=af) s ox .i64 (0) (by omega) (c:=QE) nr;have jb:ff s 0=QE.toNat:=fM nr;simp only [cV,sl,go_sem];refine bY (fun tK=>?_) (fun tK=>?_);(·simp only [cV,sl,go_sem];refine cF (AE _) ?_;rintro _ rfl;simp only [cV,sl,go_sem];refine bY (fun AL=>?_) (fun AL=>?_);(·simp only [cV,sl,go_sem];refine cF (AI 170 oK Li s (by have:=of_decide_eq_true tK; omega)) ?_;rintro _ rfl;simp only [cV,sl,go_sem];refine bY (fun Js=>?_) (fun Js=>?_);(·simp only [cV,sl,go_sem];refine cF (Jr hG s (by have:=of_decide_eq_true tK; omega)) ?_;rintro _ rfl;simp only [cV,sl,go_sem];exact hK _ (congrArg bl (by simp_all [gy] <;> (intros; omega))));simp only [cV,sl,go_sem];exact hK _ (congrArg bl (by simp_all [gy] <;> (intros; omega))));simp only [cV,sl,go_sem];exact hK _ (congrArg bl (by simp_all [gy] <;> (intros; omega))));simp only [cV,sl,go_sem];exact hK _ (congrArg bl (by simp_all [gy] <;> (intros; omega)))
 have h1:=AB rfl ir;simp only [sl,go_sem];exact hK _ (congrArg bl (by simp_all [gy] <;> (intros; omega)))
theorem Jt (hG:bg.g=some 1) (s:ByteArray):∃ r_,(fun w=>w = .eV [num (if gj s=true then oL s else 0),bl (gj s)]) r_∧bR af 196 [str s] r_:=by
 refine j3 tt_ok [] 53 [.tmp 2,.tmp 3] (fn:=Tryz.f196) Tryz.func196 rfl Tryz.call196 ⟨rfl,rfl,by simp⟩ fun K hK=>?_;have ox:af.underlying 9=some .string:=by kernel_rfl
 have sl:∀ (a:ByteArray) (ty:TypeId),j5 af (Builtin.len_ #[9] ty) [.sc (.string a)]=some (num a.size):=fun a ty=>jI (P:=af) (tt:=tt) (T:=9) a ox ty;have hT5:af.underlying 5=some (.int .u8):=by kernel_rfl
 have hT3:af.underlying 3=some (.int .i64):=by kernel_rfl
 have cv:=fun (k:IntKind) (n:Int)=>KJ (P:=af) (src:=5) (dst:=3) hT5 hT3 k n;simp only [sl,cv,go_sem];refine cF (⟨_,rfl,MH hG s ⟨#[118]⟩⟩) ?_;rintro _ rfl;obtain⟨t,ht⟩:∃ t,t=mQ s:=⟨_,rfl⟩;obtain⟨hv,hhv⟩:∃ b,b=rZ s:=⟨_,rfl⟩;have e1:(⟨(Lib.trimPrefix s.data.toList [118]).toArray⟩:ByteArray)=t:=ht.symm;have e2:Lib.hasPrefix s.data.toList [118]=hv:=hhv.symm;have Ih:gj s=(hv&&r5 t):=by rw [hhv,ht]; rfl
 simp only [e1,e2];simp only [sl,cv,go_sem];refine bY (fun vD=>?_) (fun vD=>?_)
 ·have jt:gj s=false:=by rw [Ih]; simp_all [r5] <;> (intros; omega)
  simp only [sl,cv,go_sem];refine hK _ ?_
  first
   | (rw [jt]; rfl)
   | (rw [fU]; subst ig; unfold oL; rw [← ht]; rfl)
 simp only [sl,cv,go_sem];refine bY (fun QF=>?_) (fun QF=>?_)
 ·have h1:t.size=0:=AB (e:=⟨#[]⟩) rfl (by rw [QF]; rfl);have jt:gj s=false:=by rw [Ih]; simp_all [r5] <;> (intros; omega)
  simp only [sl,cv,go_sem];refine hK _ ?_
  first
   | (rw [jt]; rfl)
   | (rw [fU]; subst ig; unfold oL; rw [← ht]; rfl)
 have h1:1≤t.size:=En (e:=⟨#[]⟩) rfl (by rw [QF]; rfl);obtain⟨QE,nr⟩:=ft (s:=t) (i:=(0:Int).toNat) (by omega);have cV:=gJ (P:=af) t ox .i64 (0) (by omega) (c:=QE) nr;have jb:ff t 0=QE.toNat:=fM nr;simp only [cV,sl,cv,go_sem];refine bY (fun Ju=>?_) (fun Ju=>?_)
 ·have jt:gj s=false:=by rw [Ih]; simp_all [r5] <;> (intros; omega)
  simp only [cV,sl,cv,go_sem];refine hK _ ?_
  first
   | (rw [jt]; rfl)
   | (rw [fU]; subst ig; unfold oL; rw [← ht]; rfl)
 simp only [cV,sl,cv,go_sem];refine bY (fun Zi=>?_) (fun Zi=>?_)
 ·simp only [cV,sl,cv,go_sem];refine bY (fun Zj=>?_) (fun Zj=>?_)
  ·have jt:gj s=false:=by rw [Ih]; simp_all [r5] <;> (intros; omega)
   simp only [cV,sl,cv,go_sem];refine hK _ ?_
   first
    | (rw [jt]; rfl)
    | (rw [fU]; subst ig; unfold oL; rw [← ht]; rfl)
  simp only [cV,sl,cv,go_sem];refine cF (AI 198 kr vB t (by have:=of_decide_eq_false Ju; omega)) ?_;rintro _ rfl;simp only [cV,sl,cv,go_sem];refine bY (fun Eo=>?_) (fun Eo=>?_)
  ·have jt:gj s=false:=by rw [Ih]; simp_all [r5] <;> (intros; omega)
   simp only [cV,sl,cv,go_sem];refine hK _ ?_
   first
    | (rw [jt]; rfl)
    | (rw [fU]; subst ig; unfold oL; rw [← ht]; rfl)
  have fU:gj s=true:=by rw [Ih]; simp_all [r5] <;> (intros; omega)
  have MI:r5 t=true:=by rw [Ih] at fU; simp at fU; exact fU.2
  have UF:lP kr t=true:=by unfold r5 at MI; simp only [aL] at MI; exact MI.2
  have h3:t.size≤3:=by unfold r5 at MI; simp only [aL,decide_eq_true_eq] at MI; exact MI.1.1.2
  simp only [cV,sl,cv,go_sem];refine fQ tt_ok [] [40,5] 0 [0,2,3,37,39] (fun vs=>((t.size:Int)-Go.Eng.intOf (vs.headD .undef)).toNat) (fun vs=>∃ i:Nat,vs=[num i,num (jw t i)]∧i≤t.size) (by omega) (by simp only [cV,sl,cv,go_sem]) (⟨0,rfl,bn _⟩) fun vs hI Z1 eh=>?_;obtain⟨i,rfl,hi⟩:=hI;simp only [cV,sl,cv,go_sem];refine bY (fun AM=>?_) (fun AM=>?_);·(have ca:i<t.size:=by simpa using AM);have hw:=bx i (by omega);obtain⟨c,uP⟩:=ft (s:=t) (i:=i) ca;have n6:=gJ (P:=af) t ox .i64 (i:Int) (by omega) (c:=c) (show t[((i:Nat):Int).toNat]?=some c from uP);have UG:=AK UF uP;unfold kr at UG;simp only [aL,decide_eq_true_eq] at UG;obtain⟨Wf,TA⟩:=QD UF h3 hi;(have hu:IntKind.u8.wrap ((c.toNat:Int)-48)=(c.toNat:Int)-48:=by have h:=c.toNat_lt; simp only [IntKind.wrap,IntKind.bits,IntKind.signed]; simp; omega);have AN:IntKind.i64.wrap ((c.toNat:Int)-48)=(c.toNat:Int)-48:=IntWalk.i64_in _ (by omega);have AO:IntKind.i64.wrap (10*jw t i)=10*jw t i:=IntWalk.i64_in _ (by omega);(have AP:IntKind.i64.wrap (10*jw t i+((c.toNat:Int)-48))=jw t (i+1):=by rw [jw,fM uP]; exact IntWalk.i64_in _ (by omega));simp only [cV,hw,n6,hu,AN,AO,AP,sl,cv,go_sem];refine eh _ (lO (by omega) (by simp only [cV,hw,n6,hu,AN,AO,AP,sl,cv,go_sem]) ?_ ?_) <;> simp only [eW,lk,reduceIte,zE];(·exact⟨i+1,rfl,ca⟩);simp only [Go.Eng.intOf,cr]; omega
  have ig:i=t.size:=apD hi (agI (by simpa using AM));simp only [cV,sl,cv,go_sem];refine hK _ ?_
  first
   | (rw [jt]; rfl)
   | (rw [fU]; subst ig; unfold oL; rw [← ht]; rfl)
 simp only [cV,sl,cv,go_sem];refine cF (AI 198 kr vB t (by have:=of_decide_eq_false Ju; omega)) ?_;rintro _ rfl;simp only [cV,sl,cv,go_sem];refine bY (fun Eo=>?_) (fun Eo=>?_)
 ·have jt:gj s=false:=by rw [Ih]; simp_all [r5] <;> (intros; omega)
  simp only [cV,sl,cv,go_sem];refine hK _ ?_
  first
   | (rw [jt]; rfl)
   | (rw [fU]; subst ig; unfold oL; rw [← ht]; rfl)
 have fU:gj s=true:=by rw [Ih]; simp_all [r5] <;> (intros; omega)
 have MI:r5 t=true:=by rw [Ih] at fU; simp at fU; exact fU.2
 have UF:lP kr t=true:=by unfold r5 at MI; simp only [aL] at MI; exact MI.2
 have h3:t.size≤3:=by unfold r5 at MI; simp only [aL,decide_eq_true_eq] at MI; exact MI.1.1.2
 simp only [cV,sl,cv,go_sem];refine fQ tt_ok [] [40,5] 0 [0,2,3,37,39] (fun vs=>((t.size:Int)-Go.Eng.intOf (vs.headD .undef)).toNat) (fun vs=>∃ i:Nat,vs=[num i,num (jw t i)]∧i≤t.size) (by omega) (by simp only [cV,sl,cv,go_sem]) (⟨0,rfl,bn _⟩) fun vs hI Z2 mR=>?_;obtain⟨i,rfl,hi⟩:=hI;simp only [cV,sl,cv,go_sem];refine bY (fun AM=>?_) (fun AM=>?_);·(have ca:i<t.size:=by simpa using AM);have hw:=bx i (by omega);obtain⟨c,uP⟩:=ft (s:=t) (i:=i) ca;have n6:=gJ (P:=af) t ox .i64 (i:Int) (by omega) (c:=c) (show t[((i:Nat):Int).toNat]?=some c from uP);have UG:=AK UF uP;unfold kr at UG;simp only [aL,decide_eq_true_eq] at UG;obtain⟨Wf,TA⟩:=QD UF h3 hi;(have hu:IntKind.u8.wrap ((c.toNat:Int)-48)=(c.toNat:Int)-48:=by have h:=c.toNat_lt; simp only [IntKind.wrap,IntKind.bits,IntKind.signed]; simp; omega);have AN:IntKind.i64.wrap ((c.toNat:Int)-48)=(c.toNat:Int)-48:=IntWalk.i64_in _ (by omega);have AO:IntKind.i64.wrap (10*jw t i)=10*jw t i:=IntWalk.i64_in _ (by omega);(have AP:IntKind.i64.wrap (10*jw t i+((c.toNat:Int)-48))=jw t (i+1):=by rw [jw,fM uP]; exact IntWalk.i64_in _ (by omega));simp only [cV,hw,n6,hu,AN,AO,AP,sl,cv,go_sem];refine mR _ (lO (by omega) (by simp only [cV,hw,n6,hu,AN,AO,AP,sl,cv,go_sem]) ?_ ?_) <;> simp only [eW,lk,reduceIte,zE];(·exact⟨i+1,rfl,ca⟩);simp only [Go.Eng.intOf,cr]; omega
 have ig:i=t.size:=apD hi (agI (by simpa using AM));simp only [cV,sl,cv,go_sem];refine hK _ ?_
 first
  | (rw [jt]; rfl)
  | (rw [fU]; subst ig; unfold oL; rw [← ht]; rfl)
section
def CW (s:ByteArray):ByteArray:=(pieces s).getLast?.getD ⟨#[]⟩
def ec (s:ByteArray):Bool:=gj (CW s)&&decide (s.size≤64)&&decide (2≤(pieces s).length)&&(pieces s).all tn
def ku (s:ByteArray):Int:=if ec s=true then oL (CW s) else 0
def j4 (s:ByteArray):Int:=if ec s=true then 0 else 4
theorem CX (s:ByteArray):(pieces s).length≤s.size+1:=by rw [m9];have:=Lib.countB_le ⟨#[47]⟩ (by decide) s.size s (aw _);omega
theorem GH {s z:ByteArray} (h:(pieces s)[(pieces s).length-1]?=some z):CW s=z:=by unfold CW;rw [List.getLast?_eq_getElem?,h]; rfl
theorem QG {α:Type} {q:α→Bool} {l:List α} (h:∀ j<l.length,∀ x,l[j]?=some x→q x=true):l.all q=true:=by rw [a7];intro x hx;obtain⟨j,hj⟩:=cq.1 hx;exact h j (az.1 hj).1 x hj
theorem Jv {α:Type} {q:α→Bool} {l:List α} {i:Nat} {x:α} (h:l[i]?=some x) (hq:q x=false):l.all q=false:=by cases ha:l.all q with | false=>rfl | true=>have:=a7.1 ha x (aB h); rw [hq] at this; cases this
section
attribute [local go_sem] ab
theorem QH (hG:bg.g=some 1) (s:ByteArray) (hs:s.size≤1048576):∃ r_,(fun w=>w = .eV [num (ku s),num (j4 s)]) r_∧bR af 138 [str s] r_:=by
 refine j3 tt_ok [] 49 [.tmp 2,.tmp 3] (fn:=Tryz.f138) Tryz.func138 rfl Tryz.call138 ⟨rfl,rfl,by simp⟩ fun K hK=>?_;have ox:af.underlying 9=some .string:=by kernel_rfl
 have sl:∀ (a:ByteArray) (ty:TypeId),j5 af (Builtin.len_ #[9] ty) [.sc (.string a)]=some (num a.size):=fun a ty=>jI (P:=af) (tt:=tt) (T:=9) a ox ty;simp only [sl,go_sem];refine cF (⟨_,rfl,QC hG s (by omega)⟩) ?_;rintro _ rfl;obtain⟨P,hP⟩:∃ P,P=pieces s:=⟨_,rfl⟩;have hPl:=CX s;have hP1:=m9 s;rw [← hP];rw [← hP] at hPl hP1;obtain⟨z,hz⟩:∃ z,P[P.length-1]?=some z:=⟨_,ak (by omega)⟩;have uQ:CW s=z:=GH (by rw [← hP]; exact hz);have eo:IntKind.i64.wrap ((P.length:Int)-1)=((P.length-1:Nat):Int):=k6 _ _ (by omega) (by omega);simp only [ae,hz,eo,sl,go_sem];refine cF (Jt hG z) ?_;rintro _ rfl;simp only [ae,hz,eo,sl,go_sem];refine bY (fun QI=>?_) (fun QI=>?_)
 ·have jt:ec s=false:=by unfold ec; rw [uQ,← hP]; simp_all <;> (intros; omega)
  simp only [ae,hz,eo,sl,go_sem];refine hK _ ?_
  first
   | (unfold ku j4; rw [jt]; rfl)
   | (unfold ku j4; rw [fU,uQ]; simp_all; done)
   | (unfold ku j4; rw [fU,uQ]; simp_all; rfl)
 simp only [ae,hz,eo,sl,go_sem];refine bY (fun QJ=>?_) (fun QJ=>?_)
 ·have jt:ec s=false:=by unfold ec; rw [uQ,← hP]; simp_all <;> (intros; omega)
  simp only [ae,hz,eo,sl,go_sem];refine hK _ ?_
  first
   | (unfold ku j4; rw [jt]; rfl)
   | (unfold ku j4; rw [fU,uQ]; simp_all; done)
   | (unfold ku j4; rw [fU,uQ]; simp_all; rfl)
 simp only [ae,hz,eo,sl,go_sem];refine bY (fun Zk=>?_) (fun Zk=>?_)
 ·have jt:ec s=false:=by unfold ec; rw [uQ,← hP]; simp_all <;> (intros; omega)
  simp only [ae,hz,eo,sl,go_sem];refine hK _ ?_
  first
   | (unfold ku j4; rw [jt]; rfl)
   | (unfold ku j4; rw [fU,uQ]; simp_all; done)
   | (unfold ku j4; rw [fU,uQ]; simp_all; rfl)
 simp only [ae,hz,eo,sl,go_sem];refine fQ tt_ok [] [35] 0 [5,32,33,34] (fun vs=>((P.length:Int)-Go.Eng.intOf (vs.headD .undef)).toNat) (fun vs=>∃ i:Nat,vs=[num i]∧i≤P.length∧∀ j<i,∀ x,P[j]?=some x→tn x=true) (by omega) (by simp only [ae,hz,eo,sl,go_sem]) (⟨0,rfl,bn _,fun j hj=>absurd hj (du j)⟩) fun vs hI Z1 eh=>?_;obtain⟨i,rfl,hi,ef⟩:=hI;simp only [ae,hz,eo,sl,go_sem];refine bY (fun nI=>?_) (fun nI=>?_)
 ·have ca:i<P.length:=by simpa using nI
  have hw:=bx i (by omega);obtain⟨x,hx⟩:∃ x,P[i]?=some x:=⟨_,ak ca⟩;simp only [ae,hz,eo,hw,hx,sl,go_sem];refine cF (jo hG x) ?_;rintro _ rfl;simp only [ae,hz,eo,hw,hx,sl,go_sem];refine bY (fun CY=>?_) (fun CY=>?_)
  ·have jt:ec s=false:=by have ha:P.all tn=false:=Jv hx (by unfold tn; simp_all);unfold ec; rw [← hP,ha]; simp
   simp only [ae,hz,eo,hw,hx,sl,go_sem];refine hK _ ?_
   first
    | (unfold ku j4; rw [jt]; rfl)
    | (unfold ku j4; rw [fU,uQ]; simp_all; done)
    | (unfold ku j4; rw [fU,uQ]; simp_all; rfl)
  have UH:gy x=true:=by simpa using CY
  simp only [ae,hz,eo,hw,hx,sl,go_sem];refine cF (AI 197 AA adU x (by have h:=UH; unfold gy at h; simp only [aL,decide_eq_true_eq] at h; omega)) ?_;rintro _ rfl;simp only [ae,hz,eo,hw,hx,sl,go_sem];refine bY (fun ajG=>?_) (fun ajG=>?_)
  ·have jt:ec s=false:=by have ha:P.all tn=false:=Jv hx (by unfold tn; simp_all);unfold ec; rw [← hP,ha]; simp
   simp only [ae,hz,eo,hw,hx,sl,go_sem];refine hK _ ?_
   first
    | (unfold ku j4; rw [jt]; rfl)
    | (unfold ku j4; rw [fU,uQ]; simp_all; done)
    | (unfold ku j4; rw [fU,uQ]; simp_all; rfl)
  simp only [ae,hz,eo,hw,hx,sl,go_sem];refine eh _ (lO (by omega) (by simp only [ae,hz,eo,hw,hx,sl,go_sem]) ?_ ?_) <;> simp only [eW,lk,reduceIte,zE];·refine⟨i+1,rfl,ca,fun j hj=>?_⟩;(rcases bL j i with h | h);(·exact ef j h);(obtain rfl:j=i:=by omega);intro y hy;rw [hx] at hy; cases hy; unfold tn; simp_all
  simp only [Go.Eng.intOf,cr]; omega
 have ig:¬ i<P.length:=by simpa using nI
 have fU:ec s=true:=by have ha:P.all tn=true:=QG fun j hj=>ef j (by omega);unfold ec; rw [uQ,← hP,ha]; simp_all <;> omega
 simp only [ae,hz,eo,sl,go_sem];refine hK _ ?_
 first
  | (unfold ku j4; rw [jt]; rfl)
  | (unfold ku j4; rw [fU,uQ]; simp_all; done)
  | (unfold ku j4; rw [fU,uQ]; simp_all; rfl)
end
theorem lJ (hG:bg.g=some 1) (s:ByteArray) (hs:s.size≤1048576):∃ r_,(fun w=>w=bl (ec s)) r_∧bR af 79 [str s] r_:=by refine j3 tt_ok [] 12 [.tmp 2] (fn:=Tryz.f79) Tryz.func79 rfl Tryz.call79 ⟨rfl,rfl,by simp⟩ fun K hK=>?_;simp only [go_sem];refine cF (QH hG s hs) ?_;rintro _ rfl;simp only [go_sem];exact hK _ (congrArg bl (by unfold j4; by_cases h:ec s=true <;> simp [h]))
end
end Go.Proofs.YtnboooapeopjoaaGreatDoor
end

section
namespace Go.Proofs.YtnboooapeopjoaaGreatDoor
open Go.Eng
set_option maxHeartbeats 4000000
set_option maxRecDepth 100000
def kwL:List (List UInt8):=[[97,110,100],[97,110,121],[97,115],[98,111,111,108],[100,101,112,114,101,99,97,116,101,100],[101,108,115,101],[101,120,112,111,114,116],[102,97,108,115,101],[102,110],[102,111,108,100],[102,114,111,109],[105,102],[105,109,112,111,114,116],[105,110],[105,110,116],[108,101,110,103,116,104],[108,101,116],[108,105,115,116],[109,97,116,99,104],[109,111,100,117,108,101],[110,111,110,101],[110,111,116],[111,114],[116,101,120,116],[116,104,101,110],[116,114,117,101],[116,121,112,101],[117,115,101]]
def Zl:List ByteArray:=kwL.map fun l=>⟨l.toArray⟩
theorem UI:kwL.all (fun k=>Lib.contains tJ.data.toList (32 :: k++[32]))=true:=by kernel_rfl
def tw (l:List UInt8):List UInt8:=l.takeWhile (· != 32)
theorem ad2:(List.range 200).all (fun i=>!((tJ.data.toList.drop i).head?==some 32)||((tJ.data.toList.drop (i+1)).isEmpty||kwL.contains (tw (tJ.data.toList.drop (i+1)))))=true:=by kernel_rfl
theorem Zm {k r:List UInt8} (h:∀ b∈k,b≠32):tw (k++32 :: r)=k:=by induction k with | nil=>rfl | cons b k ih =>(have hb:(b != 32)=true:=by simpa using h b (b9 ..));show List.takeWhile _ (b :: (k++32 :: r))=_;rw [List.takeWhile_cons,hb];simp only [if_true];exact congrArg (b :: ·) (ih fun c hc=>h c (bP _ hc))
theorem UJ:Nat.ble tJ.data.toList.length 200=true:=by kernel_rfl
theorem UK (s:ByteArray) (h:lP oK s=true):kwB s=Zl.any fun k=>decide (k=s):=by
 have jt:∀ b∈gg s,b≠32:=fun b hb e=>by have h1:=a7.1 h b hb;rw [e] at h1; revert h1; decide
 have hd:(⟨#[32]⟩++s++⟨#[32]⟩:ByteArray).data.toList=32 :: gg s++[32]:=by rw [wJ,wJ];simp [gg]
 have hm:s∈Zl↔gg s∈kwL:=by unfold Zl;rw [dv];refine⟨fun ⟨l,hl,e⟩=>by rw [← e]; simpa [gg] using hl,fun h=>⟨_,h,?_⟩⟩;obtain⟨⟨l⟩⟩:=s; rfl
 have hm2:(Zl.any fun k=>decide (k=s))=true↔gg s∈kwL:=by rw [agH,← hm];exact⟨fun ⟨k,hk,e⟩=>by rw [← of_decide_eq_true e]; exact hk,fun h=>⟨s,h,by simp⟩⟩
 rw [mB,hm2];unfold kwB;rw [hd];constructor;·intro hc;unfold Lib.contains at hc;rw [decide_eq_true_eq] at hc;(rcases Lib.index_spec tJ.data.toList (32 :: gg s++[32]) with ⟨h1,_⟩ | ⟨i,h1,h2,h3,_⟩);(·omega);unfold Lib.occAt at h3;rw [List.isPrefixOf_iff_prefix] at h3;obtain⟨r,hr⟩:=h3;(have hi:i<200:=by have hl:=congrArg List.length hr;have:=jd UJ;simp only [aQ,ay,gG] at hl; omega);have h4:=a7.1 ad2 i (alf.2 hi);(have e1:tJ.data.toList.drop (i+1)=gg s++32 :: r:=by (have:tJ.data.toList.drop (i+1)=(tJ.data.toList.drop i).drop 1:=by rw [ap8]);rw [this,← hr]; simp);rw [← hr,e1,Zm jt] at h4;simpa using h4
 intro hc;exact a7.1 UI _ hc
theorem r6 (s:ByteArray):gy s=(decide (1≤s.size)&&decide (s.size≤32)&&Cf (ff s 0)&&lP oK s && !(Zl.any fun k=>decide (k=s))):=by unfold gy;cases h:lP oK s with | false=>simp | true=>rw [UK s h]
def lg (o:List ByteArray) (c:UInt8):List ByteArray:=if c=47 then o++[⟨#[]⟩] else o.set (o.length-1) ((o[o.length-1]?).getD ⟨#[]⟩++⟨#[c]⟩)
def lh (l:List UInt8):List ByteArray:=l.foldl lg [⟨#[]⟩]
def vF (cur:List UInt8):List (List UInt8)→List (List UInt8)
 | []=>[cur]
 | h :: t=>(cur++h) :: t
def MJ (l:List UInt8):ByteArray:=⟨l.toArray⟩
theorem Cg (r:List UInt8):Lib.split (47 :: r) [47]=[] :: Lib.split r [47]:=by
 have n6:Lib.index (47 :: r) [47]=0:=by rw [Lib.index]; simp [List.isPrefixOf]
 unfold Lib.split;rw [Lib.count_cons_eq,SO,Lib.splitK,n6];simp
theorem Ch (b:UInt8) (r:List UInt8) (h:b≠47):Lib.split (b :: r) [47]=vF [b] (Lib.split r [47]):=by
 have hp:([47]:List UInt8).isPrefixOf (b :: r)=false:=by simp [List.isPrefixOf,Ne.symm h]
 have n6:Lib.index (b :: r) [47]=if Lib.index r [47] == -1 then -1 else Lib.index r [47]+1:=by rw [Lib.index,hp]; simp
 unfold Lib.split;rw [Lib.count_cons_ne b 47 r h];cases hk:Lib.count r [47] with | zero=>rfl | succ k =>rw [Lib.splitK,Lib.splitK,n6];by_cases hm:Lib.index r [47] = -1;(·rw [hm]; rfl);have ig:=Lib.index_ge r [47];obtain⟨j,hj⟩:∃ j:Nat,Lib.index r [47]=j:=⟨(Lib.index r [47]).toNat,by omega⟩;(have h1:((j:Int) == -1)=false:=by rw [beq_eq_false_iff_ne]; omega);(have h2:((j:Int)+1 == -1)=false:=by rw [beq_eq_false_iff_ne]; omega);(have h3:((j:Int)+1).toNat=j+1:=by omega);rw [hj,h1];simp only [cf,if_false,h2,h3,Cp,vF,ay,aI,kC];rw [show j+1+(0+1)=(j+(0+1))+1 by omega,yS];rfl
theorem UL (a b:List UInt8):MJ a++MJ b=MJ (a++b):=by apply apM;rw [wJ];simp [MJ]
theorem Ep:∀ (l:List UInt8) (pre:List ByteArray) (cur:List UInt8),l.foldl lg (pre++[MJ cur])=pre++(vF cur (Lib.split l [47])).map MJ
 | [],pre,cur=>by
  have:Lib.split [] [47]=[[]]:=rfl
  rw [this]; simp [vF]
 | b :: r,pre,cur=>by
  rw [aM]
  by_cases h:b=47
  ·subst h
   have hs:lg (pre++[MJ cur]) 47=(pre++[MJ cur])++[MJ []]:=by simp [lg,MJ]
   rw [hs,Ep r,Cg]
   have:vF [] (Lib.split r [47])=Lib.split r [47]:=by
    cases hq:Lib.split r [47] with
    | nil=>exfalso; unfold Lib.split at hq; cases hk:Lib.count r [47] <;> rw [hk] at hq <;> rw [Lib.splitK] at hq <;> first | cases hq | (split at hq <;> cases hq)
    | cons a t=>rfl
   rw [this]
   simp [vF]
  have hs:lg (pre++[MJ cur]) b=pre++[MJ (cur++[b])]:=by
   unfold lg
   rw [if_neg h,aQ,apE,aaU]
   rw [aW (aw _),cU]
   simp only [dk,agG]
   rw [dz _ _ (aw _),cU,bh]
   exact congrArg (fun z=>pre++[z]) (UL cur [b])
  rw [hs,Ep r,Ch b r h]
  cases hq:Lib.split r [47] with
  | nil=>simp [vF]
  | cons a t=>simp [vF]
theorem MK (s:ByteArray):MJ s.data.toList=s:=by obtain⟨⟨l⟩⟩:=s; rfl
theorem r7 (s:ByteArray):lh (gg s)=pieces s:=by
 have h:=Ep (gg s) [] [];have h2:vF [] (Lib.split (gg s) [47])=Lib.split (gg s) [47]:=by cases hq:Lib.split (gg s) [47] with | nil=>(exfalso; unfold Lib.split at hq; cases hk:Lib.count (gg s) [47] <;> rw [hk] at hq <;> rw [Lib.splitK] at hq <;> first | cases hq | (split at hq <;> cases hq)) | cons a t=>rfl
 rw [h2,ax] at h;have h3:=Lib.splitB_data ⟨#[47]⟩ 0 (Lib.countB s ⟨#[47]⟩) s;have h4:(pieces s).map (fun x=>x.data.toList)=Lib.split (gg s) [47]:=h3;rw [show lh (gg s)=_ from h,← h4,uN];conv=>rhs; rw [← apL (pieces s)]
 exact gp fun x _=>MK x
theorem vG (l:List UInt8) (c:UInt8):lh (l++[c])=lg (lh l) c:=by unfold lh; rw [rh]; rfl
theorem xr (s:ByteArray):rZ s=(decide (1≤s.size)&&decide (ff s 0=118)):=by obtain⟨⟨l⟩⟩:=s;cases l with | nil=>rfl | cons b l =>have hb:ff ⟨⟨b :: l⟩⟩ 0=(b.toNat:Int):=rfl;have hs:(⟨⟨b :: l⟩⟩:ByteArray).size=l.length+1:=rfl;rw [hb,hs];show ((118:UInt8)==b&&([]:List UInt8).isPrefixOf l)=_;simp only [List.isPrefixOf_nil_left,aN];rw [mB];simp only [beq_iff_eq,aL,decide_eq_true_eq];constructor;(·rintro rfl; exact⟨by omega,rfl⟩);rintro⟨-,h⟩;apply aqf.1;(have:b.toNat=118:=by omega);rw [this]; rfl
theorem ux {s:ByteArray} (h:rZ s=true) (k:Nat):(mQ s)[k]?=s[k+1]?:=by
 have hd:(mQ s).data.toList=s.data.toList.drop 1:=by show Lib.trimPrefix s.data.toList [118]=_;unfold Lib.trimPrefix;rw [if_pos (show Lib.hasPrefix s.data.toList [118]=true from h)]; rfl
 have g:∀ (t:ByteArray) (j:Nat),t[j]?=t.data.toList[j]?:=fun t j=>by obtain⟨⟨l⟩⟩:=t;by_cases hj:j<l.length;(·rw [getElem?_pos (⟨⟨l⟩⟩:ByteArray) j (by exact hj)];show some _=l[j]?;rw [ak hj]; rfl);rw [getElem?_neg (⟨⟨l⟩⟩:ByteArray) j (by exact hj)];show none=l[j]?;rw [dQ (by omega)]
 rw [g,g,hd,BU,SO]
theorem r8 {s:ByteArray} (h:rZ s=true):(mQ s).size=s.size-1:=by
 have hd:(mQ s).data.toList=s.data.toList.drop 1:=by show Lib.trimPrefix s.data.toList [118]=_;unfold Lib.trimPrefix;rw [if_pos (show Lib.hasPrefix s.data.toList [118]=true from h)]; rfl
 rw [Lib.size_eq,hd,gG,← Lib.size_eq]
theorem ML {s:ByteArray} (h:rZ s=true) (k:Nat):ff (mQ s) k=ff s (k+1):=by unfold ff; rw [ux h]
def yJ (s:ByteArray):Bool:=!(decide (s.size<2)||decide (4<s.size) || !decide (ff s 0=118)||(decide (ff s 1=48)&&decide (2<s.size)))
theorem oy (s:ByteArray):gj s=(yJ s&&lP kr (mQ s)):=by unfold gj yJ;cases hv:rZ s with | false =>rw [xr] at hv;by_cases h1:s.size<2 <;> simp_all <;> (intros; omega) | true =>have h1:=r8 hv;have h2:=ML hv 0;rw [xr] at hv;simp only [aL,decide_eq_true_eq] at hv;unfold r5;rw [h1,h2];cases lP kr (mQ s);(·simp);rw [mB];simp [hv.2];omega
end Go.Proofs.YtnboooapeopjoaaGreatDoor
end

section
namespace Go.Proofs.YtnboooapeopjoaaGreatDoor
open Go.Eng
variable [bg]
open Nat renaming reduceAdd → zA, reduceLT → zB, reduceLeDiff → zC, reduceMul → zD, reduceEqDiff → zE, reduceSub → zF
set_option maxHeartbeats 4000000
set_option maxRecDepth 100000
section
theorem Er  : ∃ r_,(fun w=>w = .slice (Zl.map str)) r_∧bR af 61 [] r_:=by refine j3 tt_ok [] 2 [.tmp 0] (fn:=Tryz.f61) Tryz.func61 rfl Tryz.call61 ⟨rfl,rfl,by simp⟩ fun K hK=>?_;simp only [go_sem];exact hK _ rfl
section
attribute [local go_sem] ab
theorem Jw (l:List ByteArray) (s:ByteArray) (hl:l.length≤1048576):∃ r_,(fun w=>w=bl (l.any fun k=>decide (k=s))) r_∧bR af 60 [.slice (l.map str),str s] r_:=by
 refine j3 tt_ok [] 18 [.tmp 4] (fn:=Tryz.f60) Tryz.func60 rfl Tryz.call60 ⟨rfl,rfl,by simp⟩ fun K hK=>?_;simp only [go_sem];refine fQ tt_ok [] [5] 0 [0,1] (fun vs=>((l.length:Int)-Go.Eng.intOf (vs.headD .undef)).toNat) (fun vs=>∃ i:Nat,vs=[num i]∧i≤l.length∧∀ j<i,∀ x,l[j]?=some x→decide (x=s)=false) (by omega) (by simp only [go_sem]) (⟨0,rfl,bn _,fun j hj=>absurd hj (du j)⟩) fun vs hI Z1 eh=>?_;obtain⟨i,rfl,hi,ef⟩:=hI;simp only [go_sem];refine bY (fun ka=>?_) (fun ka=>?_);·(have ca:i<l.length:=by simpa using ka);have hw:=bx i (by omega);obtain⟨x,hx⟩:∃ x,l[i]?=some x:=⟨_,ak ca⟩;simp only [hw,ae,hx,go_sem];refine bY (fun uy=>?_) (fun uy=>?_);(·have bU:true=l.any fun k=>decide (k=s):=(rW hx (by simpa [bN] using uy)).symm;simp only [hw,ae,hx,go_sem];exact hK _ (congrArg bl bU));simp only [hw,ae,hx,go_sem];refine eh _ (lO (by omega) (by simp only [hw,ae,hx,go_sem]) ?_ ?_) <;> simp only [eW,lk,reduceIte,zE];(·refine⟨i+1,rfl,ca,fun j hj=>?_⟩;(rcases bL j i with h | h);(·exact ef j h);(obtain rfl:j=i:=by omega);intro y hy;rw [hx] at hy; cases hy; simpa [bN] using uy);simp only [Go.Eng.intOf,cr]; omega
 have ig:¬ i<l.length:=by simpa using ka
 have bU:false=l.any fun k=>decide (k=s):=(any_none fun j hj=>ef j (by omega)).symm;simp only [go_sem];exact hK _ (congrArg bl bU)
end
theorem Jx (s:ByteArray):∃ r_,(fun w=>w=bl (gy s)) r_∧bR af 25 [str s] r_:=by
 refine j3 tt_ok [] 26 [.tmp 2] (fn:=Tryz.f25) Tryz.func25 rfl Tryz.call25 ⟨rfl,rfl,by simp⟩ fun K hK=>?_;have ox:af.underlying 9=some .string:=by kernel_rfl
 have sl:∀ (a:ByteArray) (ty:TypeId),j5 af (Builtin.len_ #[9] ty) [.sc (.string a)]=some (num a.size):=fun a ty=>jI (P:=af) (tt:=tt) (T:=9) a ox ty;simp only [sl,go_sem];refine bY (fun fP=>?_) (fun fP=>?_);·simp only [sl,go_sem];refine bY (fun qS=>?_) (fun qS=>?_);(·obtain⟨v0,nr⟩:=ft (s:=s) (i:=0) (by have:=of_decide_eq_true fP; omega);have cV:=gJ (P:=af) s ox .i64 (0:Int) (by omega) (c:=v0) (show s[((0:Nat):Int).toNat]?=some v0 from nr);have jb:ff s 0=v0.toNat:=fM nr;simp only [cV,sl,go_sem];refine cF (xn _) ?_;rintro _ rfl;simp only [cV,sl,go_sem];refine bY (fun oz=>?_) (fun oz=>?_);(·simp only [cV,sl,go_sem];refine cF (QA s (by have:=of_decide_eq_true qS; omega)) ?_;rintro _ rfl;simp only [cV,sl,go_sem];refine bY (fun Jy=>?_) (fun Jy=>?_);(·simp only [cV,sl,go_sem];refine cF (Er) ?_;rintro _ rfl;simp only [cV,sl,go_sem];refine cF (Jw Zl s (by decide)) ?_;rintro _ rfl;simp only [cV,sl,go_sem];exact hK _ (congrArg bl (by rw [r6]; simp_all <;> (intros; omega))));simp only [cV,sl,go_sem];exact hK _ (congrArg bl (by rw [r6]; simp_all <;> (intros; omega))));simp only [cV,sl,go_sem];exact hK _ (congrArg bl (by rw [r6]; simp_all <;> (intros; omega))));simp only [sl,go_sem];exact hK _ (congrArg bl (by rw [r6]; simp_all <;> (intros; omega)))
 simp only [sl,go_sem];exact hK _ (congrArg bl (by rw [r6]; simp_all <;> (intros; omega)))
theorem GI (s:ByteArray) (hs:s.size≤1048576):∃ r_,(fun w=>w=bl (tn s)) r_∧bR af 104 [str s] r_:=by
 refine j3 tt_ok [] 24 [.tmp 2] (fn:=Tryz.f104) Tryz.func104 rfl Tryz.call104 ⟨rfl,rfl,by simp⟩ fun K hK=>?_;have ox:af.underlying 9=some .string:=by kernel_rfl
 have sl:∀ (a:ByteArray) (ty:TypeId),j5 af (Builtin.len_ #[9] ty) [.sc (.string a)]=some (num a.size):=fun a ty=>jI (P:=af) (tt:=tt) (T:=9) a ox ty;simp only [sl,go_sem];refine fQ tt_ok [] [3] 0 [0] (fun vs=>((s.size:Int)-Go.Eng.intOf (vs.headD .undef)).toNat) (fun vs=>∃ i:Nat,vs=[num i]∧i≤s.size∧∀ j<i,∀ b,s[j]?=some b→AA b.toNat=true) (by omega) (by simp only [sl,go_sem]) (⟨0,rfl,bn _,fun j hj=>absurd hj (du j)⟩) fun vs hI Z1 eh=>?_;obtain⟨i,rfl,hi,jt⟩:=hI;simp only [sl,go_sem];refine bY (fun AJ=>?_) (fun AJ=>?_);·(have ca:i<s.size:=by simpa using AJ);have hw:=bx i (by omega);obtain⟨c,uP⟩:=ft (s:=s) (i:=i) ca;have n6:=gJ (P:=af) s ox .i64 (i:Int) (by omega) (c:=c) (show s[((i:Nat):Int).toNat]?=some c from uP);simp only [hw,n6,sl,go_sem];refine cF (xn _) ?_;rintro _ rfl;simp only [hw,n6,sl,go_sem];refine bY (fun ad3=>?_) (fun ad3=>?_);(·simp only [hw,n6,sl,go_sem];refine cF (sS _) ?_;rintro _ rfl;simp only [hw,n6,sl,go_sem];refine bY (fun GJ=>?_) (fun GJ=>?_);(·(have bU:false=tn s:=by unfold tn; rw [ov (p:=AA) uP (by unfold AA; simp_all),aS]);simp only [hw,n6,sl,go_sem];exact hK _ (congrArg bl bU));simp only [hw,n6,sl,go_sem];refine eh _ (lO (by omega) (by simp only [hw,n6,sl,go_sem]) ?_ ?_) <;> simp only [eW,lk,reduceIte,zE];(·refine⟨i+1,rfl,ca,fun j hj b hb=>?_⟩;(rcases bL j i with h | h);(·exact jt j h b hb);(obtain rfl:j=i:=by omega);rw [uP] at hb; cases hb; unfold AA; simp_all);simp only [Go.Eng.intOf,cr]; omega);simp only [hw,n6,sl,go_sem];refine eh _ (lO (by omega) (by simp only [hw,n6,sl,go_sem]) ?_ ?_) <;> simp only [eW,lk,reduceIte,zE];(·refine⟨i+1,rfl,ca,fun j hj b hb=>?_⟩;(rcases bL j i with h | h);(·exact jt j h b hb);(obtain rfl:j=i:=by omega);rw [uP] at hb; cases hb; unfold AA; simp_all);simp only [Go.Eng.intOf,cr]; omega
 have ig:¬ i<s.size:=by simpa using AJ
 have ef:lP AA s=true:=pX fun j hj b hb=>jt j (by omega) b hb;have bU:gy s=tn s:=by unfold tn; rw [ef,aN]
 simp only [sl,go_sem];refine cF (Jx s) ?_;rintro _ rfl;simp only [sl,go_sem];exact hK _ (congrArg bl bU)
end
theorem GK (t:ByteArray):∀ k,(∀ j<k,kr (ff t j)=true)→0≤jw t k∧jw t k<10 ^ k
 | 0,_=>⟨apC _,by simp [jw]⟩
 | k+1,h=>by
  obtain⟨h1,h2⟩:=GK t k fun j hj=>h j (by omega)
  have h3:=h k (by omega)
  unfold kr at h3
  simp only [aL,decide_eq_true_eq] at h3
  rw [jw,Int.pow_succ]
  omega
theorem CZ {t:ByteArray} {k:Nat} (hk:k≤3) (h:∀ j<k,kr (ff t j)=true):0≤jw t k∧jw t k<1000:=by
 obtain⟨h1,h2⟩:=GK t k h;refine⟨h1,aqt h2 ?_⟩;have:k=0∨k=1∨k=2∨k=3:=by omega
 rcases this with rfl | rfl | rfl | rfl <;> decide
theorem Jz {s:ByteArray} (h:yJ s=true):rZ s=true∧2≤s.size∧s.size≤4:=by unfold yJ at h;rw [xr];by_cases h1:s.size<2 <;> by_cases h2:4<s.size <;> simp_all <;> omega
theorem QK {o:List ByteArray} {z:ByteArray} {c:UInt8} (h:o[o.length-1]?=some z) (hc:c≠47):lg o c=o.set (o.length-1) (z++⟨#[c]⟩):=by unfold lg; rw [if_neg hc,h]; rfl
theorem C0 {s:ByteArray} {i:Nat} {c:UInt8} (h:s[i]?=some c):(gg s).take (i+1)=(gg s).take i++[c]:=by unfold gg; rw [br,rV h]; rfl
theorem GL (s:ByteArray):∃ r_,(fun w=>w=num (if gj s=true then oL s else -1)) r_∧bR af 105 [str s] r_:=by
 refine j3 tt_ok [] 48 [.tmp 2] (fn:=Tryz.f105) Tryz.func105 rfl Tryz.call105 ⟨rfl,rfl,by simp⟩ fun K hK=>?_;have ox:af.underlying 9=some .string:=by kernel_rfl
 have sl:∀ (a:ByteArray) (ty:TypeId),j5 af (Builtin.len_ #[9] ty) [.sc (.string a)]=some (num a.size):=fun a ty=>jI (P:=af) (tt:=tt) (T:=9) a ox ty;have hT5:af.underlying 5=some (.int .u8):=by kernel_rfl
 have hT3:af.underlying 3=some (.int .i64):=by kernel_rfl
 have cv:=fun (k:IntKind) (n:Int)=>KJ (P:=af) (src:=5) (dst:=3) hT5 hT3 k n;simp only [sl,cv,go_sem];refine bY (fun fP=>?_) (fun fP=>?_);·(have jt:gj s=false:=by rw [oy]; unfold yJ; simp_all <;> (intros; omega));(have bU : -1=if gj s=true then oL s else -1:=by rw [jt]; rfl);simp only [sl,cv,go_sem];exact hK _ (congrArg num bU)
 simp only [sl,cv,go_sem];refine bY (fun qS=>?_) (fun qS=>?_);·(have jt:gj s=false:=by rw [oy]; unfold yJ; simp_all <;> (intros; omega));(have bU : -1=if gj s=true then oL s else -1:=by rw [jt]; rfl);simp only [sl,cv,go_sem];exact hK _ (congrArg num bU)
 have E9:2≤s.size:=by simp_all <;> omega
 obtain⟨v0,nr⟩:=ft (s:=s) (i:=0) (by omega);have cV:=gJ (P:=af) s ox .i64 (0:Int) (by omega) (c:=v0) (show s[((0:Nat):Int).toNat]?=some v0 from nr);have jb:ff s 0=v0.toNat:=fM nr;simp only [cV,sl,cv,go_sem];refine bY (fun oz=>?_) (fun oz=>?_);·(have jt:gj s=false:=by rw [oy]; unfold yJ; simp_all <;> (intros; omega));(have bU : -1=if gj s=true then oL s else -1:=by rw [jt]; rfl);simp only [cV,sl,cv,go_sem];exact hK _ (congrArg num bU)
 obtain⟨v1,GM⟩:=ft (s:=s) (i:=1) (by omega);have jq:=gJ (P:=af) s ox .i64 (1:Int) (by omega) (c:=v1) (show s[((1:Nat):Int).toNat]?=some v1 from GM);have mG:ff s 1=v1.toNat:=fM GM;simp only [cV,jq,sl,cv,go_sem];refine bY (fun Jy=>?_) (fun Jy=>?_);·simp only [cV,jq,sl,cv,go_sem];refine bY (fun po=>?_) (fun po=>?_);(·(have jt:gj s=false:=by rw [oy]; unfold yJ; simp_all <;> (intros; omega));(have bU : -1=if gj s=true then oL s else -1:=by rw [jt]; rfl);simp only [cV,jq,sl,cv,go_sem];exact hK _ (congrArg num bU));(have hvh:yJ s=true:=by unfold yJ; simp_all <;> (intros; omega));obtain⟨hv,E9,hs4⟩:=Jz hvh;obtain⟨t,ht⟩:∃ t,t=mQ s:=⟨_,rfl⟩;(have htz:t.size=s.size-1:=by rw [ht]; exact r8 hv);(have Ih:gj s=lP kr t:=by rw [oy,hvh,ht]; rfl);simp only [cV,jq,sl,cv,go_sem];refine fQ tt_ok [] [4,3] 0 [0,27] (fun vs=>((s.size:Int)-Go.Eng.intOf (vs.headD .undef)).toNat) (fun vs=>∃ i:Nat,vs=[num i,num (jw t (i-1))]∧1≤i∧i≤s.size∧∀ j<i-1,kr (ff t j)=true) (by omega) (by simp only [cV,jq,sl,cv,go_sem]) (⟨1,rfl,aw _,by omega,fun j hj=>absurd hj (du j)⟩) fun vs hI Z1 eh=>?_;obtain⟨i,rfl,xQ,hi,jt⟩:=hI;simp only [cV,jq,sl,cv,go_sem];refine bY (fun oA=>?_) (fun oA=>?_);(·(have ca:i<s.size:=by simpa using oA);have hw:=bx i (by omega);obtain⟨c,uP⟩:=ft (s:=s) (i:=i) ca;have n6:=gJ (P:=af) s ox .i64 (i:Int) (by omega) (c:=c) (show s[((i:Nat):Int).toNat]?=some c from uP);(have hct:t[i-1]?=some c:=by rw [ht,ux hv,aqu xQ]; exact uP);have hbt:ff t (i-1)=c.toNat:=fM hct;simp only [cV,jq,hw,n6,sl,cv,go_sem];refine cF (sS _) ?_;rintro _ rfl;simp only [cV,jq,hw,n6,sl,cv,go_sem];refine bY (fun Es=>?_) (fun Es=>?_);(·(have hdf:kr (c.toNat:Int)=false:=by simpa using Es);(have Jk:gj s=false:=by rw [Ih]; exact ov hct hdf);(have bU : -1=if gj s=true then oL s else -1:=by rw [Jk]; rfl);simp only [cV,jq,hw,n6,sl,cv,go_sem];exact hK _ (congrArg num bU));(have UG:kr (c.toNat:Int)=true:=by simpa using Es);have QL:=UG;unfold kr at QL;simp only [aL,decide_eq_true_eq] at QL;obtain⟨Wf,TA⟩:=CZ (t:=t) (k:=i-1) (by omega) jt;(have hu:IntKind.u8.wrap ((c.toNat:Int)-48)=(c.toNat:Int)-48:=by have h:=c.toNat_lt; simp only [IntKind.wrap,IntKind.bits,IntKind.signed]; simp; omega);have AN:IntKind.i64.wrap ((c.toNat:Int)-48)=(c.toNat:Int)-48:=IntWalk.i64_in _ (by omega);have AO:IntKind.i64.wrap (10*jw t (i-1))=10*jw t (i-1):=IntWalk.i64_in _ (by omega);(have AP:IntKind.i64.wrap (10*jw t (i-1)+((c.toNat:Int)-48))=jw t i:=by (conv=>rhs; rw [show i=i-1+1 by omega,jw,hbt]);exact IntWalk.i64_in _ (by omega));simp only [cV,jq,hw,n6,hu,AN,AO,AP,sl,cv,go_sem];refine eh _ (lO (by omega) (by simp only [cV,jq,hw,n6,hu,AN,AO,AP,sl,cv,go_sem]) ?_ ?_) <;> simp only [eW,lk,reduceIte,zE];(·refine⟨i+1,by rw [aaU],by omega,ca,fun j hj=>?_⟩;rw [aaU] at hj;(rcases bL j (i-1) with h | h);(·exact jt j h);(obtain rfl:j=i-1:=by omega);rw [hbt]; simpa using Es);simp only [Go.Eng.intOf,cr]; omega);have ig:i=s.size:=apD hi (agI (by simpa using oA));(have UF:lP kr t=true:=pX fun j hj b hb=>by have h:=jt j (by omega); rwa [fM hb] at h);(have bU:jw t (i-1)=if gj s=true then oL s else -1:=by rw [Ih,UF,if_pos rfl];unfold oL;rw [← ht,htz,ig]);simp only [cV,jq,sl,cv,go_sem];exact hK _ (congrArg num bU)
 have hvh:yJ s=true:=by unfold yJ; simp_all <;> (intros; omega)
 obtain⟨hv,E9,hs4⟩:=Jz hvh;obtain⟨t,ht⟩:∃ t,t=mQ s:=⟨_,rfl⟩;have htz:t.size=s.size-1:=by rw [ht]; exact r8 hv
 have Ih:gj s=lP kr t:=by rw [oy,hvh,ht]; rfl
 simp only [cV,jq,sl,cv,go_sem];refine fQ tt_ok [] [4,3] 0 [0,27] (fun vs=>((s.size:Int)-Go.Eng.intOf (vs.headD .undef)).toNat) (fun vs=>∃ i:Nat,vs=[num i,num (jw t (i-1))]∧1≤i∧i≤s.size∧∀ j<i-1,kr (ff t j)=true) (by omega) (by simp only [cV,jq,sl,cv,go_sem]) (⟨1,rfl,aw _,by omega,fun j hj=>absurd hj (du j)⟩) fun vs hI Z2 mR=>?_;obtain⟨i,rfl,xQ,hi,jt⟩:=hI;simp only [cV,jq,sl,cv,go_sem];refine bY (fun oA=>?_) (fun oA=>?_);·(have ca:i<s.size:=by simpa using oA);have hw:=bx i (by omega);obtain⟨c,uP⟩:=ft (s:=s) (i:=i) ca;have n6:=gJ (P:=af) s ox .i64 (i:Int) (by omega) (c:=c) (show s[((i:Nat):Int).toNat]?=some c from uP);(have hct:t[i-1]?=some c:=by rw [ht,ux hv,aqu xQ]; exact uP);have hbt:ff t (i-1)=c.toNat:=fM hct;simp only [cV,jq,hw,n6,sl,cv,go_sem];refine cF (sS _) ?_;rintro _ rfl;simp only [cV,jq,hw,n6,sl,cv,go_sem];refine bY (fun Es=>?_) (fun Es=>?_);(·(have hdf:kr (c.toNat:Int)=false:=by simpa using Es);(have Jk:gj s=false:=by rw [Ih]; exact ov hct hdf);(have bU : -1=if gj s=true then oL s else -1:=by rw [Jk]; rfl);simp only [cV,jq,hw,n6,sl,cv,go_sem];exact hK _ (congrArg num bU));(have UG:kr (c.toNat:Int)=true:=by simpa using Es);have QL:=UG;unfold kr at QL;simp only [aL,decide_eq_true_eq] at QL;obtain⟨Wf,TA⟩:=CZ (t:=t) (k:=i-1) (by omega) jt;(have hu:IntKind.u8.wrap ((c.toNat:Int)-48)=(c.toNat:Int)-48:=by have h:=c.toNat_lt; simp only [IntKind.wrap,IntKind.bits,IntKind.signed]; simp; omega);have AN:IntKind.i64.wrap ((c.toNat:Int)-48)=(c.toNat:Int)-48:=IntWalk.i64_in _ (by omega);have AO:IntKind.i64.wrap (10*jw t (i-1))=10*jw t (i-1):=IntWalk.i64_in _ (by omega);(have AP:IntKind.i64.wrap (10*jw t (i-1)+((c.toNat:Int)-48))=jw t i:=by (conv=>rhs; rw [show i=i-1+1 by omega,jw,hbt]);exact IntWalk.i64_in _ (by omega));simp only [cV,jq,hw,n6,hu,AN,AO,AP,sl,cv,go_sem];refine mR _ (lO (by omega) (by simp only [cV,jq,hw,n6,hu,AN,AO,AP,sl,cv,go_sem]) ?_ ?_) <;> simp only [eW,lk,reduceIte,zE];(·refine⟨i+1,by rw [aaU],by omega,ca,fun j hj=>?_⟩;rw [aaU] at hj;(rcases bL j (i-1) with h | h);(·exact jt j h);(obtain rfl:j=i-1:=by omega);rw [hbt]; simpa using Es);simp only [Go.Eng.intOf,cr]; omega
 have ig:i=s.size:=apD hi (agI (by simpa using oA));have UF:lP kr t=true:=pX fun j hj b hb=>by have h:=jt j (by omega); rwa [fM hb] at h
 have bU:jw t (i-1)=if gj s=true then oL s else -1:=by rw [Ih,UF,if_pos rfl];unfold oL;rw [← ht,htz,ig]
 simp only [cV,jq,sl,cv,go_sem];exact hK _ (congrArg num bU)
section
theorem UM (c:UInt8):strOfNums [(c.toNat:Int)]=⟨#[c]⟩:=by unfold strOfNums; simp
theorem MM {s:ByteArray} {i:Nat} {c:UInt8} {xs:List ByteArray} {y:ByteArray} (hc:s[i]?=some c) (hx:lh ((gg s).take i)=xs++[y]) (h:(c.toNat:Int)=47):lh ((gg s).take (i+1))=(xs++[y])++[⟨#[]⟩]:=by have e:c=47:=aqf.1 (by rw [show (47:UInt8).toNat=47 from rfl]; omega);rw [C0 hc,vG,hx,e]; rfl
theorem QM {s:ByteArray} {i:Nat} {c:UInt8} {xs:List ByteArray} {y:ByteArray} (hc:s[i]?=some c) (hx:lh ((gg s).take i)=xs++[y]) (h:¬ (c.toNat:Int)=47):lh ((gg s).take (i+1))=xs++[y++⟨#[c]⟩]:=by have e:c≠47:=fun e=>h (by rw [e]; rfl);rw [C0 hc,vG,hx,QK (z:=y) (by simp) e];simp
theorem JA (s:ByteArray):0<(pieces s).length:=by rw [m9]; omega
theorem JB {s z:ByteArray} (h:z∈pieces s):z.size≤s.size:=by
 have key:∀ (l:List UInt8) (o:List ByteArray) (n:Nat),(∀ x∈o,x.size≤n)→∀ x∈l.foldl lg o,x.size≤n+l.length:=by intro l;induction l with | nil=>intro o n h x hx; simpa using h x hx | cons b l ih =>intro o n h x hx;rw [aM] at hx;have:=ih (lg o b) (n+1) (fun y hy=>by unfold lg at hy;split at hy;(·(rcases ew.1 hy with hy | hy);(·exact aqk (h y hy));rw [eJ.1 hy]; exact bn _);(rcases ap4 hy with hy | hy);(·exact aqk (h y hy));rw [hy,Tm];have hs:(⟨#[b]⟩:ByteArray).size=1:=rfl;(have:((o[o.length-1]?).getD ⟨#[]⟩).size≤n:=by cases hq:o[o.length-1]? with | none=>exact bn _ | some q=>exact h q (aB hq));omega) x hx;rw [ay]; omega
 rw [← r7] at h;have:=key (gg s) [⟨#[]⟩] 0 (fun x hx=>by rw [eJ.1 hx]; exact bn _) z h;rw [bE] at this;exact this
theorem Lj {z:ByteArray} (h:gj z=true):0≤oL z:=by rw [oy] at h;simp only [aL] at h;obtain⟨-,-,h4⟩:=Jz h.1;exact (uw h.2 _ (aw _)).1
theorem QN (s:ByteArray) (hs:s.size≤1048576):∃ r_,(fun w=>w = .slice ((pieces s).map str)) r_∧bR af 103 [str s] r_:=by
 refine j3 tt_ok [] 37 [.tmp 2] (fn:=Tryz.f103) Tryz.func103 rfl Tryz.call103 ⟨rfl,rfl,by simp⟩ fun K hK=>?_;have ox:af.underlying 9=some .string:=by kernel_rfl
 have sl:∀ (a:ByteArray) (ty:TypeId),j5 af (Builtin.len_ #[9] ty) [.sc (.string a)]=some (num a.size):=fun a ty=>jI (P:=af) (tt:=tt) (T:=9) a ox ty;have Xa:=fun (n:Int)=>Fq (P:=af) (mem:=[]) (s:=178) (d:=9) (e:=5) (rows:=[.sc (.int .u8 n)]) (ns:=[n]) (by kernel_rfl) (by kernel_rfl) ox rfl;have AQ:∀ c:Int,(strOfNums [c]).size=1:=fun c=>rfl;simp only [sl,Xa,go_sem];refine ja tt_ok [] (fun a:Nat×Nat×List ByteArray×ByteArray=>[(0,str s),(3,.ms 0 a.2.1 0 (a.2.1+1)),(4,num a.1)]) (fun a:Nat×Nat×List ByteArray×ByteArray=>[.rows a.2.1 1 ((a.2.2.1++[a.2.2.2]).map str)]) (fun a=>s.size-a.1) (fun a=>a.1≤s.size∧a.2.2.1.length=a.2.1∧a.2.1≤a.1∧a.2.2.2.size≤a.1∧(∀ x∈a.2.2.1,x.size≤s.size)∧lh ((gg s).take a.1)=a.2.2.1++[a.2.2.2]) ((0,0,[],⟨#[]⟩)) 1 (ea (by omega) (by simp only [sl,Xa,cR,cP,ax,ct,go_sem] <;> rfl)) (⟨bn _,rfl,aw _,aw _,(fun x hx=>by cases hx),rfl⟩) ?_;rintro⟨i,k,xs,y⟩ ⟨hi,FE,hki,hyi,ef,UN⟩;try dsimp only at hi FE hki hyi ef UN
 try dsimp only
 intro Z1 eh;simp only [sl,Xa,go_sem];refine bY (fun ka=>?_) (fun ka=>?_);·(have ca:i<s.size:=by simpa using ka);have hw:=bx i (by omega);obtain⟨c,uP⟩:=ft (s:=s) (i:=i) ca;have n6:=gJ (P:=af) s ox .i64 (i:Int) (by omega) (c:=c) (show s[((i:Nat):Int).toNat]?=some c from uP);have eo:IntKind.i64.wrap (((k+1:Nat):Int)-1)=((k:Nat):Int):=k6 _ k (by omega) (by omega);(have je:((k:Nat):Int)<((k+1:Nat):Int):=by omega);(have hgy:(xs++[y])[k]?=some y:=by rw [aW (by omega),FE,cU]; rfl);(have Lk:k+1+1≤34359738368:=by omega);have hsa:=fun a b=>DW af 9 a b y (strOfNums [(c.toNat:Int)]) (by rw [AQ,show IntKind.i64.max=9223372036854775807 from rfl]; omega);simp only [hw,n6,eo,je,Lk,FE,ae,hgy,hsa,ab,aQ,ay,aI,bE,sl,Xa,go_sem];refine bY (fun Et=>?_) (fun Et=>?_);(·let nv:Nat×Nat×List ByteArray×ByteArray:=(i+1,k+1,xs++[y],⟨#[]⟩);(have QO:∀ x∈nv.2.2.1,x.size≤s.size:=fun x hx=>by (rcases ew.1 hx with h | h);(·exact ef x h);rw [eJ.1 h]; omega);have QP:lh ((gg s).take nv.1)=nv.2.2.1++[nv.2.2.2]:=MM uP UN (by simpa using Et);simp only [hw,n6,eo,je,Lk,FE,ae,hgy,hsa,ab,aQ,ay,aI,bE,sl,Xa,go_sem];refine eh _ ⟨nv,?_,?_,ea (by omega) (by (simp [nv,vt,lk,fX,iw,aA,aJ,dJ]; first | done | (rw [dz _ _ (by rw [ab]; omega),ab,FE,cU]; rfl)))⟩;(·refine⟨ca,?_,?_,?_,?_⟩;(·dsimp only [nv]; first | exact FE | (rw [aQ,FE]; rfl));(·dsimp only [nv]; omega);(·dsimp only [nv]; first | exact bn _ | (rw [Tm,AQ]; omega));exact⟨QO,QP⟩);dsimp only [nv]; omega);let nv:Nat×Nat×List ByteArray×ByteArray:=(i+1,k,xs,y++strOfNums [(c.toNat:Int)]);have QO:∀ x∈nv.2.2.1,x.size≤s.size:=ef;(have QP:lh ((gg s).take nv.1)=nv.2.2.1++[nv.2.2.2]:=by show _=xs++[y++strOfNums [(c.toNat:Int)]]; rw [UM]; exact QM uP UN (by simpa using Et));simp only [hw,n6,eo,je,Lk,FE,ae,hgy,hsa,ab,aQ,ay,aI,bE,sl,Xa,go_sem];refine fO tt_ok cy [⟨.n,0,[],[],[]⟩,⟨.n,0,[],[],[]⟩,⟨.n,0,[],[],[]⟩,⟨.n,0,[],[],[]⟩,⟨.n,0,[],[],[]⟩,⟨.n,0,[],[],[]⟩,⟨.n,0,[],[],[]⟩,⟨.n,0,[],[],[]⟩,⟨.r,0,[],[],[]⟩,⟨.r,0,[],[],[]⟩,⟨.n,0,[],[],[]⟩,⟨.n,0,[],[],[]⟩,⟨.n,0,[],[],[]⟩,⟨.n,0,[],[],[]⟩,⟨.n,0,[],[],[]⟩,⟨.n,0,[],[],[]⟩,⟨.r,0,[],[],[]⟩,⟨.w,0,[],[],[]⟩] 1 (by kernel_rfl) ?_;simp only [hw,n6,eo,je,Lk,FE,ae,hgy,hsa,ab,aQ,ay,aI,bE,sl,Xa,go_sem];refine eh _ ⟨nv,?_,?_,ea (by omega) (by (simp [nv,vt,lk,fX,iw,aA,aJ,dJ]; first | done | (rw [dz _ _ (by rw [ab]; omega),ab,FE,cU]; rfl)))⟩;(·refine⟨ca,?_,?_,?_,?_⟩;(·dsimp only [nv]; first | exact FE | (rw [aQ,FE]; rfl));(·dsimp only [nv]; omega);(·dsimp only [nv]; first | exact bn _ | (rw [Tm,AQ]; omega));exact⟨QO,QP⟩);dsimp only [nv]; omega
 have ig:¬ i<s.size:=by simpa using ka
 have mo:pieces s=xs++[y]:=by rw [← r7,← UN,aX]; exact agI ig
 simp only [sl,Xa,go_sem];exact Pz (by simp [FE]) (hK _ (by rw [mo]))
section
attribute [local go_sem] ab
theorem MN (s:ByteArray) (hs:s.size≤1048576):∃ r_,(fun w=>w = .eV [num (ku s),num (j4 s)]) r_∧bR af 49 [str s] r_:=by
 refine j3 tt_ok [] 39 [.tmp 2,.tmp 3] (fn:=Tryz.f49) Tryz.func49 rfl Tryz.call49 ⟨rfl,rfl,by simp⟩ fun K hK=>?_;have ox:af.underlying 9=some .string:=by kernel_rfl
 have sl:∀ (a:ByteArray) (ty:TypeId),j5 af (Builtin.len_ #[9] ty) [.sc (.string a)]=some (num a.size):=fun a ty=>jI (P:=af) (tt:=tt) (T:=9) a ox ty;simp only [sl,go_sem];refine bY (fun ka=>?_) (fun ka=>?_)
 ·have jt:ec s=false:=by unfold ec; simp_all <;> (intros; omega)
  simp only [sl,go_sem];refine hK _ ?_
  first
   | (unfold ku j4; rw [jt]; rfl)
   | (unfold ku j4; rw [fU,uQ]; simp_all; done)
   | (unfold ku j4; rw [fU,uQ]; simp_all; rfl)
 simp only [sl,go_sem];refine cF (QN s (by omega)) ?_;rintro _ rfl;obtain⟨P,hP⟩:∃ P,P=pieces s:=⟨_,rfl⟩;have hPl:=CX s;have hP1:=JA s;have hPz:∀ x∈P,x.size≤s.size:=fun x hx=>JB (hP ▸ hx);rw [← hP];rw [← hP] at hPl hP1;obtain⟨z,hz⟩:∃ z,P[P.length-1]?=some z:=⟨_,ak (by omega)⟩;have uQ:CW s=z:=GH (by rw [← hP]; exact hz);have eo:IntKind.i64.wrap ((P.length:Int)-1)=((P.length-1:Nat):Int):=k6 _ _ (by omega) (by omega);simp only [ae,hz,eo,sl,go_sem];refine fQ tt_ok [] [5] 0 [4,9] (fun vs=>((P.length:Int)-Go.Eng.intOf (vs.headD .undef)).toNat) (fun vs=>∃ i:Nat,vs=[num i]∧i≤P.length∧∀ j<i,∀ x,P[j]?=some x→tn x=true) (by omega) (by simp only [ae,hz,eo,sl,go_sem]) (⟨0,rfl,bn _,fun j hj=>absurd hj (du j)⟩) fun vs hI Z1 eh=>?_;obtain⟨i,rfl,hi,ef⟩:=hI;simp only [ae,hz,eo,sl,go_sem];refine bY (fun Et=>?_) (fun Et=>?_)
 ·have ca:i<P.length:=by simpa using Et
  have hw:=bx i (by omega);obtain⟨x,hx⟩:∃ x,P[i]?=some x:=⟨_,ak ca⟩;simp only [ae,hz,eo,hw,hx,sl,go_sem];refine cF (GI x (by have:=hPz x (aB hx); omega)) ?_;rintro _ rfl;simp only [ae,hz,eo,hw,hx,sl,go_sem];refine bY (fun AR=>?_) (fun AR=>?_)
  ·have jt:ec s=false:=by have ha:P.all tn=false:=Jv hx (by simpa using AR);unfold ec; rw [← hP,ha]; simp
   simp only [ae,hz,eo,hw,hx,sl,go_sem];refine hK _ ?_
   first
    | (unfold ku j4; rw [jt]; rfl)
    | (unfold ku j4; rw [fU,uQ]; simp_all; done)
    | (unfold ku j4; rw [fU,uQ]; simp_all; rfl)
  simp only [ae,hz,eo,hw,hx,sl,go_sem];refine eh _ (lO (by omega) (by simp only [ae,hz,eo,hw,hx,sl,go_sem]) ?_ ?_) <;> simp only [eW,lk,reduceIte,zE];·refine⟨i+1,rfl,ca,fun j hj=>?_⟩;(rcases bL j i with h | h);(·exact ef j h);(obtain rfl:j=i:=by omega);intro y hy;rw [hx] at hy; cases hy; simpa using AR
  simp only [Go.Eng.intOf,cr]; omega
 have ig:¬ i<P.length:=by simpa using Et
 have ha:P.all tn=true:=QG fun j hj=>ef j (by omega);simp only [ae,hz,eo,sl,go_sem];refine cF (GL z) ?_;rintro _ rfl;simp only [ae,hz,eo,sl,go_sem];refine bY (fun Zn=>?_) (fun Zn=>?_)
 ·have jt:ec s=false:=by unfold ec; rw [uQ,← hP];by_cases hv:gj z=true;(·have:=Lj hv; simp_all; omega);simp [hv]
  simp only [ae,hz,eo,sl,go_sem];refine hK _ ?_
  first
   | (unfold ku j4; rw [jt]; rfl)
   | (unfold ku j4; rw [fU,uQ]; simp_all; done)
   | (unfold ku j4; rw [fU,uQ]; simp_all; rfl)
 simp only [ae,hz,eo,sl,go_sem];refine bY (fun Eo=>?_) (fun Eo=>?_)
 ·have jt:ec s=false:=by unfold ec; rw [uQ,← hP];by_cases hv:gj z=true;(·have:=Lj hv; simp_all; omega);simp [hv]
  simp only [ae,hz,eo,sl,go_sem];refine hK _ ?_
  first
   | (unfold ku j4; rw [jt]; rfl)
   | (unfold ku j4; rw [fU,uQ]; simp_all; done)
   | (unfold ku j4; rw [fU,uQ]; simp_all; rfl)
 have hvz:gj z=true:=by by_cases hv:gj z=true;(·exact hv);exfalso; simp_all
 have fU:ec s=true:=by unfold ec; rw [uQ,← hP,ha,hvz]; simp_all; omega
 simp only [ae,hz,eo,sl,go_sem];refine hK _ ?_
 first
  | (unfold ku j4; rw [jt]; rfl)
  | (unfold ku j4; rw [fU,uQ]; simp_all; done)
  | (unfold ku j4; rw [fU,uQ]; simp_all; rfl)
end
theorem qB (s:ByteArray) (hs:s.size≤1048576):∃ r_,(fun w=>w=bl (ec s)) r_∧bR af 15 [str s] r_:=by refine j3 tt_ok [] 12 [.tmp 2] (fn:=Tryz.f15) Tryz.func15 rfl Tryz.call15 ⟨rfl,rfl,by simp⟩ fun K hK=>?_;simp only [go_sem];refine cF (MN s hs) ?_;rintro _ rfl;simp only [go_sem];exact hK _ (congrArg bl (by unfold j4; by_cases h:ec s=true <;> simp [h]))
end
def GO (s:ByteArray):Bool:=pn s||decide (s.size=2)&&decide (ff s 0=35)&&decide (48≤ff s 1)&&decide (ff s 1≤55)
def jB (s:ByteArray):Bool:=decide (s=⟨#[]⟩)
def vH (s:ByteArray):Bool:=jB s||gy s||ec s
theorem kL (s:ByteArray):∃ r_,(fun w=>w=bl (pn s)) r_∧bR af 125 [str s] r_:=by
 refine j3 tt_ok [] 19 [.tmp 2] (fn:=Tryz.f125) Tryz.func125 rfl Tryz.call125 ⟨rfl,rfl,by simp⟩ fun K hK=>?_;have ox:af.underlying 9=some .string:=by kernel_rfl
 have sl:∀ (a:ByteArray) (ty:TypeId),j5 af (Builtin.len_ #[9] ty) [.sc (.string a)]=some (num a.size):=fun a ty=>jI (P:=af) (tt:=tt) (T:=9) a ox ty;simp only [sl,go_sem];refine bY (fun ir=>?_) (fun ir=>?_);·have h1:=En rfl ir;obtain⟨QE,nr⟩:=ft (s:=s) (i:=(0:Int).toNat) (by omega);have cV:=gJ (P:=af) s ox .i64 (0) (by omega) (c:=QE) nr;have jb:ff s 0=QE.toNat:=fM nr;simp only [cV,sl,go_sem];refine bY (fun tK=>?_) (fun tK=>?_);(·simp only [cV,sl,go_sem];refine cF (AF _) ?_;rintro _ rfl;simp only [cV,sl,go_sem];refine bY (fun AL=>?_) (fun AL=>?_);(·simp only [cV,sl,go_sem];refine cF (AI 170 oK Li s (by have:=of_decide_eq_true tK; omega)) ?_;rintro _ rfl;simp only [cV,sl,go_sem];exact hK _ (congrArg bl (by simp_all [pn] <;> (intros; omega))));simp only [cV,sl,go_sem];exact hK _ (congrArg bl (by simp_all [pn] <;> (intros; omega))));simp only [cV,sl,go_sem];exact hK _ (congrArg bl (by simp_all [pn] <;> (intros; omega)))
 have h1:=AB rfl ir;simp only [sl,go_sem];exact hK _ (congrArg bl (by simp_all [pn] <;> (intros; omega)))
theorem GQ (s:ByteArray):∃ r_,(fun w=>w=bl (GO s)) r_∧bR af 237 [str s] r_:=by
 refine j3 tt_ok [] 25 [.tmp 2] (fn:=Tryz.f237) Tryz.func237 rfl Tryz.call237 ⟨rfl,rfl,by simp⟩ fun K hK=>?_;have ox:af.underlying 9=some .string:=by kernel_rfl
 have sl:∀ (a:ByteArray) (ty:TypeId),j5 af (Builtin.len_ #[9] ty) [.sc (.string a)]=some (num a.size):=fun a ty=>jI (P:=af) (tt:=tt) (T:=9) a ox ty;simp only [sl,go_sem];refine cF (kL s) ?_;rintro _ rfl;simp only [sl,go_sem];refine bY (fun ir=>?_) (fun ir=>?_);·simp only [sl,go_sem];exact hK _ (congrArg bl (by simp_all [GO] <;> (intros; omega)))
 simp only [sl,go_sem];refine bY (fun vC=>?_) (fun vC=>?_);·(have hz2:s.size=2:=by have:=of_decide_eq_true vC; omega);obtain⟨QE,nr⟩:=ft (s:=s) (i:=(0:Int).toNat) (by omega);have cV:=gJ (P:=af) s ox .i64 (0) (by omega) (c:=QE) nr;obtain⟨cv1,GM⟩:=ft (s:=s) (i:=(1:Int).toNat) (by omega);have jq:=gJ (P:=af) s ox .i64 (1) (by omega) (c:=cv1) GM;have jb:ff s 0=QE.toNat:=fM nr;have mG:ff s 1=cv1.toNat:=fM GM;simp only [cV,jq,sl,go_sem];refine bY (fun xt=>?_) (fun xt=>?_);(·simp only [cV,jq,sl,go_sem];refine bY (fun Js=>?_) (fun Js=>?_);(·simp only [cV,jq,sl,go_sem];exact hK _ (congrArg bl (by simp_all [GO] <;> (intros; omega))));simp only [cV,jq,sl,go_sem];exact hK _ (congrArg bl (by simp_all [GO] <;> (intros; omega))));simp only [cV,jq,sl,go_sem];exact hK _ (congrArg bl (by simp_all [GO] <;> (intros; omega)))
 have hz2:s.size≠2:=by have:=of_decide_eq_false vC; omega
 simp only [sl,go_sem];exact hK _ (congrArg bl (by simp_all [GO] <;> (intros; omega)))
theorem sT (hG:bg.g=some 1) (s:ByteArray) (hs:s.size≤1048576):∃ r_,(fun w=>w=bl (vH s)) r_∧bR af 187 [str s] r_:=by
 refine j3 tt_ok [] 13 [.tmp 2] (fn:=Tryz.f187) Tryz.func187 rfl Tryz.call187 ⟨rfl,rfl,by simp⟩ fun K hK=>?_;simp only [bN,go_sem];refine bY (fun ir=>?_) (fun ir=>?_);·simp only [bN,go_sem];exact hK _ (congrArg bl (by simp_all [vH,jB]))
 simp only [bN,go_sem];refine cF (jo hG s) ?_;rintro _ rfl;simp only [bN,go_sem];refine bY (fun vC=>?_) (fun vC=>?_);·simp only [bN,go_sem];exact hK _ (congrArg bl (by simp_all [vH,jB]))
 simp only [bN,go_sem];refine cF (lJ hG s hs) ?_;rintro _ rfl;simp only [bN,go_sem];exact hK _ (congrArg bl (by simp_all [vH,jB]))
mutual
inductive Ty where
 | mk (kind:Int) (mod name:ByteArray) (args:List Ty) (bD:List Fd)
inductive Fd where
 | mk (name:ByteArray) (ty:Ty) (opt:Bool)
end
structure Lb where
 name:ByteArray
 var:ByteArray
 ty:Ty
 opt:Bool
inductive Ex where
 | mk (kind:Int) (mod name text:ByteArray) (num:Int) (types:List Ty) (labels:List Lb) (kids:List Ex)
structure Pm where
 name:ByteArray
 gz:Int
 bound:Ty
structure Im where
 path:ByteArray
 alias:ByteArray
structure Dc where
 kind:Int
 name:ByteArray
 exported:Bool
 deprecated:Bool
 note:ByteArray
 params:List Pm
 lower:Ty
 upper:Ty
 type:Ty
 expr:Ex
 mod:ByteArray
 target:ByteArray
structure Md where
 path:ByteArray
 imports:List Im
 decls:List Dc

mutual
def cD:Ty→V
 | .mk k m n ts fs=>.agg [.sc (.int .i64 k),.sc (.string m),.sc (.string n),.slice (bc ts),.slice (cB fs)]
def bc:List Ty→List V
 | []=>[]
 | t :: r=>cD t :: bc r
def mw:Fd→V
 | .mk n (.mk k m n' ts fs) o=>.agg [.sc (.string n),.sc (.int .i64 k),.sc (.string m),.sc (.string n'),.slice (bc ts),.slice (cB fs),.sc (.bool o)]
def cB:List Fd→List V
 | []=>[]
 | f :: r=>mw f :: cB r
end
def Fd.ty:Fd→Ty | .mk _ t _=>t
def Fd.name:Fd→ByteArray | .mk n _ _=>n
def Fd.opt:Fd→Bool | .mk _ _ o=>o
def Ty.bD:Ty→List Fd | .mk _ _ _ _ fs=>fs
def Ty.args:Ty→List Ty | .mk _ _ _ ts _=>ts
def Ty.kind:Ty→Int | .mk k _ _ _ _=>k
def Ty.mod:Ty→ByteArray | .mk _ m _ _ _=>m
def Ty.name:Ty→ByteArray | .mk _ _ n _ _=>n
def Ty.parts (t:Ty):List Ty:=t.args++t.bD.map Fd.ty
def aq (t:Ty):List V:=[.sc (.int .i64 t.kind),.sc (.string t.mod),.sc (.string t.name),.slice (bc t.args),.slice (cB t.bD)]
theorem aG (t:Ty):cD t = .agg (aq t):=by obtain⟨k,m,n,ts,fs⟩:=t; rfl
theorem dM (ts:List Ty):bc ts=ts.map cD:=by induction ts with | nil=>rfl | cons t r ih=>simp [bc,ih]
theorem kx (ts:List Fd):cB ts=ts.map mw:=by induction ts with | nil=>rfl | cons t r ih=>simp [cB,ih]
theorem cp (f:Fd):mw f = .agg ([str f.name]++aq f.ty++[bl f.opt]):=by obtain⟨n',⟨k,m,n,ts,fs⟩,o⟩:=f; rfl
def cg (l:Lb):V:=.agg ([str l.name,str l.var]++aq l.ty++[bl l.opt])
mutual
def cK:Ex→V
 | .mk k m n t i ts ls ks=>.agg [.sc (.int .i64 k),.sc (.string m),.sc (.string n),.sc (.string t),.sc (.int .i64 i),.slice (bc ts),.slice (ls.map cg),.slice (c8 ks)]
def c8:List Ex→List V
 | []=>[]
 | e :: r=>cK e :: c8 r
end
def Ex.kind:Ex→Int | .mk k _ _ _ _ _ _ _=>k
def Ex.mod:Ex→ByteArray | .mk _ m _ _ _ _ _ _=>m
def Ex.name:Ex→ByteArray | .mk _ _ n _ _ _ _ _=>n
def Ex.text:Ex→ByteArray | .mk _ _ _ t _ _ _ _=>t
def Ex.num:Ex→Int | .mk _ _ _ _ i _ _ _=>i
def Ex.types:Ex→List Ty | .mk _ _ _ _ _ ts _ _=>ts
def Ex.labels:Ex→List Lb | .mk _ _ _ _ _ _ ls _=>ls
def Ex.kids:Ex→List Ex | .mk _ _ _ _ _ _ _ ks=>ks
theorem lB (ts:List Ex):c8 ts=ts.map cK:=by induction ts with | nil=>rfl | cons t r ih=>simp [c8,ih]
def aH (e:Ex):List V:=[.sc (.int .i64 e.kind),.sc (.string e.mod),.sc (.string e.name),.sc (.string e.text),.sc (.int .i64 e.num),.slice (bc e.types),.slice (e.labels.map cg),.slice (c8 e.kids)]
theorem bj (e:Ex):cK e = .agg (aH e):=by obtain⟨k,m,n,t,i,ts,ls,ks⟩:=e; rfl
def dT (p:Pm):V:=.agg ([str p.name,num p.gz]++aq p.bound)
def cz (i:Im):V:=.agg [str i.path,str i.alias]
def aR (d:Dc):V:=.agg ([num d.kind,str d.name,bl d.exported,bl d.deprecated,str d.note,.slice (d.params.map dT)]++aq d.lower++aq d.upper++aq d.type++aH d.expr++[str d.mod,str d.target])
def kn (m:Md):V:=.agg [str m.path,.slice (m.imports.map cz),.slice (m.decls.map aR)]
theorem MO (t:Ty):(cD t).cells.length=5:=by rw [aG]; rfl
theorem MQ (t:Fd):(mw t).cells.length=7:=by rw [cp]; rfl
theorem MR (e:Ex):(cK e).cells.length=8:=by rw [bj]; rfl
theorem nu (ts:List Ty) (n:Nat):c5 (bc ts) n 5=true:=by
 rw [dM]; unfold c5; split;·rename_i h; simp at h; obtain⟨t,-,rfl⟩:=h; simp [MO]
 rfl
theorem ag (ts:List Ty):(bc ts).length=ts.length:=by simp [dM]
theorem aO (ts:List Fd):(cB ts).length=ts.length:=by simp [kx]
theorem aj (ts:List Ex):(c8 ts).length=ts.length:=by simp [lB]
theorem bo (ts:List Ty) (i:Nat):(bc ts)[i]?=ts[i]?.map cD:=by simp [dM]
theorem bZ (ts:List Fd) (i:Nat):(cB ts)[i]?=ts[i]?.map mw:=by simp [kx]
theorem ed (ts:List Ex) (i:Nat):(c8 ts)[i]?=ts[i]?.map cK:=by simp [lB]

mutual
def Ty.size:Ty→Nat
 | .mk _ _ _ ts fs=>1+sU ts+sW fs
def sU:List Ty→Nat
 | []=>0
 | t :: r=>t.size+sU r
def Fd.size:Fd→Nat
 | .mk _ (.mk _ _ _ ts fs) _=>1+sU ts+sW fs
def sW:List Fd→Nat
 | []=>0
 | f :: r=>f.size+sW r
end
theorem Fd.UO (f:Fd):f.size=f.ty.size:=by obtain⟨n',⟨k,m,n,ts,fs⟩,o⟩:=f; rfl
theorem GR (ts:List Ty):sU ts=bd Ty.size ts:=by induction ts with | nil=>rfl | cons t r ih=>simp [sU,bd,ih]
theorem GU (ts:List Fd):sW ts=bd (fun f=>f.ty.size) ts:=by induction ts with | nil=>rfl | cons t r ih=>simp [sW,bd,ih,Fd.UO]
theorem Ty.dj (t:Ty):t.size=1+bd Ty.size t.parts:=by obtain⟨k,m,n,ts,fs⟩:=t;simp only [Ty.size,Ty.parts,Ty.args,Ty.bD,kK,gD,GR,GU]; omega
theorem Ty.size_pos (t:Ty):0<t.size:=by rw [Ty.dj]; omega
theorem Ty.fp (t:Ty):t.args.length+t.bD.length<t.size:=by have:=cx Ty.size Ty.size_pos t.parts;rw [Ty.dj];simp only [Ty.parts,aQ,ab] at this;simp only [Ty.parts]; omega

theorem vI (t:Ty) (hl:t.args.length+t.bD.length≤34359738368):bR af 75 [cD t] (.slice (bc t.parts)):=by
 obtain⟨k,m,n,ts,fs⟩:=t;simp only [Ty.args,Ty.bD] at hl;have IA:ts.length≤34359738368:=by omega
 refine jA tt_ok (fn:=Tryz.f75) Tryz.func75 rfl Tryz.call75 ?_;simp only [dL,cH,Tryz.ntmps75,ay,aI,zA,zF,aD,aE];refine ah tt_ok fun K hK=>?_;simp only [cD,go_sem];refine hK _ ?_;refine ah tt_ok fun K hK=>?_;simp only [nu,ag,IA,go_sem];refine hK _ ?_;refine bC ?_;refine ah tt_ok fun K hK=>?_;simp only [go_sem];refine hK _ ?_;refine bX (df (fun N st=>∃ (i dV:Nat) (acc:List Ty),N=fs.length-i∧i≤fs.length∧acc=ts++(fs.take i).map Fd.ty ∧ st = { fr:=[cD (.mk k m n ts fs),.ptr 0 0,.undef,.ms 1 dV 0 acc.length,.sc (.int .i64 i)]++List.replicate 21 .undef,mem:=[.box (cD (.mk k m n ts fs)).cells,.rows dV 5 (bc acc)] }) fs.length ?_ ?_);·exact⟨2,[true,true,false,true,true],by omega,by simp only [aP,aA,aK,aJ,zB,er],by simp only [aP,aA,aK,aJ,zB,er],0,1,ts,by omega,by omega,by simp,rfl⟩
 rintro N st ⟨i,dV,acc,rfl,hi,nJ,rfl⟩;have JC:acc.length≤34359738367∨i=fs.length:=by rw [nJ]; simp; omega
 simp only [dL,aD,aE,cD,V.cells];refine bC ?_;by_cases ca:i<fs.length;·have hd:=iA ca;(have JD:acc.length≤34359738367:=by omega);refine ah tt_ok fun K hK=>?_;simp only [aO,hd,go_sem];refine hK _ ?_;refine aV rfl (cn ?_);refine bC (bX ?_);obtain⟨f,hf⟩:∃ f,fs[i]?=some f:=⟨_,ak ca⟩;(have mg:(fs.take (i+1)).map Fd.ty=(fs.take i).map Fd.ty++[f.ty]:=by rw [br,hf]; simp);obtain⟨fnm,⟨fk,fm,fn,fts,ffs⟩,fo⟩:=f;refine a8 tt_ok fun K hK=>?_;simp only [bZ,hf,mw,ag,JD,go_sem];refine hK _ ?_;refine a8 tt_ok fun K hK=>?_;simp only [go_sem];refine hK _ ?_;refine⟨fs.length-(i+1),by omega,2,[true,true,false,true,true],by omega,by simp only [aP,aA,aK,aJ,zB,er],by simp only [aP,aA,aK,aJ,zB,er],i+1,dV+1,acc++[.mk fk fm fn fts ffs],rfl,ca,by rw [nJ,mg]; simp [Fd.ty],?_⟩;have hw:IntKind.i64.wrap ((i:Int)+1)=((i+1:Nat):Int):=bx i (by omega);rw [hw];simp [rp,aP,dM,cD]
 have hd:=iB ca;refine ah tt_ok fun K hK=>?_;simp only [aO,hd,go_sem];refine hK _ ?_;refine aV rfl (eC ?_);have ju:i=fs.length:=by omega
 subst ju;show eg _ _ _ _ _ _;refine ah tt_ok fun K hK=>?_;simp only [go_sem];refine hK _ ?_;refine bW ⟨.inl rfl,?_⟩;rw [ai] at nJ;have hr:bc (Ty.mk k m n ts fs).parts=bc acc:=by rw [nJ]; rfl
 rw [hr];simp [nU,lM,mI,Tryz.f75,zS,gP,dC,ag];rw [← ag]; simp

theorem r9:∀ (N:Nat) (t:Ty),t.size≤N→N≤1048576→bR af 28 [cD t] (num t.size):=by intro N;induction N with | zero=>intro t h; have:=t.size_pos; omega | succ N ih =>intro t hN hb;have y8:=t.fp;have tL:=t.dj;have QQ:=cx Ty.size Ty.size_pos t.parts;have hp:=vI t (by omega);refine jA tt_ok (fn:=Tryz.f28) Tryz.func28 rfl Tryz.call28 ?_;simp only [dL,cH,Tryz.ntmps28,ay,aI,zA,zF,aD,aE];rw [aG] at hp ⊢;simp only [aq] at hp ⊢;refine ah tt_ok fun K hK=>?_;simp only [go_sem];refine hK _ ?_;refine ah tt_ok fun K hK=>?_;simp only [go_sem];refine hK _ ?_;refine ah tt_ok fun K hK=>?_;simp only [go_sem];refine .inl ⟨_,_,by simp only [go_sem,ai],hp,?_⟩;(try simp only [go_sem]);refine hK _ ?_;refine bC ?_;refine ah tt_ok fun K hK=>?_;simp only [go_sem];refine hK _ ?_;obtain⟨ps,AS⟩:∃ ps,ps=t.parts:=⟨_,rfl⟩;rw [← AS] at tL QQ ⊢;refine bX (df (fun N st=>∃ (i:Nat),N=ps.length-i∧i≤ps.length ∧ st = { fr:=[.undef,.undef,.undef,num ((1+bd Ty.size (ps.take i):Nat)),.slice (bc ps),num i]++List.replicate 16 .undef,mem:=[] }) ps.length ?_ ?_);(·exact⟨0,[false,false,false,true,true,true],by omega,by simp only [aP,aA,aK,aJ,zB,er],by simp only [aP,aA,aK,aJ,zB,er],0,by omega,by omega,rfl⟩);rintro N st ⟨i,rfl,hi,rfl⟩;simp only [dL,aD,aE];refine bC ?_;by_cases ca:i<ps.length;(·have hd:=iA ca;refine ah tt_ok fun K hK=>?_;simp only [ag,hd,go_sem];refine hK _ ?_;refine aV rfl (cn ?_);refine bC (bX ?_);obtain⟨u,hu⟩:∃ u,ps[i]?=some u:=⟨_,ak ca⟩;have Te:=cu Ty.size hu;have Cx:=fj Ty.size hu;have TQ:=gv Ty.size ps (i+1);have gB:=ih u (by omega) (by omega);rw [aG] at gB;simp only [aq] at gB;refine a8 tt_ok fun K hK=>?_;simp only [bo,hu,aG,aq,go_sem];refine .inl ⟨_,_,by simp only [go_sem,ai],gB,?_⟩;(try simp only [go_sem]);refine hK _ ?_;(have hw:IntKind.i64.wrap (((1+bd Ty.size (ps.take i):Nat):Int)+(u.size:Int))=((1+bd Ty.size (ps.take (i+1)):Nat):Int):=by rw [o4 _ _ (by omega)]; congr 1; omega);rw [hw];refine a8 tt_ok fun K hK=>?_;simp only [go_sem];refine hK _ ?_;have kZ:=bx i (by omega);rw [kZ];exact⟨ps.length-(i+1),by omega,0,[false,false,false,true,true,true],by omega,by simp only [aP,aA,aK,aJ,zB,er],by simp only [aP,aA,aK,aJ,zB,er],i+1,rfl,ca,by simp [rp,aP]⟩);have hd:=iB ca;refine ah tt_ok fun K hK=>?_;simp only [ag,hd,go_sem];refine hK _ ?_;refine aV rfl (eC ?_);(have ju:i=ps.length:=by omega);subst ju;show eg _ _ _ _ _ _;refine ah tt_ok fun K hK=>?_;simp only [go_sem];refine hK _ ?_;refine bW ⟨.inl rfl,?_⟩;(try rw [ai]);rw [← tL];simp [nU,lM,mI,Tryz.f28,zS,gP,dC,lL]

theorem mS (rows:List V) (h1:c5 rows 0 5=true) (hl:rows.length≤34359738368):bz af 53 [.slice rows] [] (.ms 0 1 0 rows.length) [.rows 1 5 rows]:=by refine kh tt_ok (fn:=Tryz.f53) 1 (by simp) Tryz.func53 rfl Tryz.call53 ?_;simp only [dL,cH,Tryz.ntmps53,ay,aI,zA,zF,aD,aE];refine ah tt_ok fun K hK=>?_;simp only [go_sem];refine hK _ ?_;refine bC ?_;refine ah tt_ok fun K hK=>?_;simp only [go_sem];intro b hb;refine hK _ ?_;cases b with | true =>((have h0:rows=[]:=by cases rows with | nil=>rfl | cons a r=>have:=hb (by simp); cases this);subst h0;refine aV rfl ?_;refine ah tt_ok fun K hK=>?_;simp only [go_sem];refine hK _ ?_;refine mK 2 1 5 rfl ?_;exact bW ⟨.inl rfl,rfl,rfl,rfl,rfl⟩) | false =>refine aV rfl (cn ?_);show eg _ _ _ _ _ _;refine ah tt_ok fun K hK=>?_;simp only [h1,hl,go_sem];refine hK _ ?_;refine bW ⟨.inl rfl,?_⟩;simp [kQ,lM,mI,Tryz.f53,aA,aJ,aK]

theorem xu (t:Ty) (hl:t.args.length+t.bD.length≤34359738368):bR af 233 [cD t] (.slice (bc t.parts)):=by
 obtain⟨k,m,n,ts,fs⟩:=t;simp only [Ty.args,Ty.bD] at hl;have IA:ts.length≤34359738368:=by omega
 refine jA tt_ok (fn:=Tryz.f233) Tryz.func233 rfl Tryz.call233 ?_;simp only [dL,cH,Tryz.ntmps233,ay,aI,zA,zF,aD,aE];refine ah tt_ok fun K hK=>?_;simp only [cD,go_sem];refine hK _ ?_;refine ah tt_ok fun K hK=>?_;simp only [cD,go_sem];refine .inr <| .inl ⟨_,_,bz.live (by simp only [cD,ag,go_sem,ai]) (mS (bc ts) (nu ts 0) (by rw [ag]; exact IA)) rfl _,?_⟩
 try simp only [cD,ag,go_sem]
 refine hK _ ?_;refine bC ?_;refine ah tt_ok fun K hK=>?_;simp only [aO,go_sem];refine hK _ ?_;refine bX (df (fun N st=>∃ (i dV:Nat) (acc:List Ty),N=fs.length-i∧i≤fs.length∧acc=ts++(fs.take i).map Fd.ty ∧ st = { fr:=[.undef,.ptr 0 0,.undef,.ms 1 dV 0 acc.length,.undef,.undef,.undef,.undef,.undef,.undef,.slice (cB fs),num fs.length,num i]++List.replicate 10 .undef,mem:=[.box (cD (.mk k m n ts fs)).cells,.rows dV 5 (bc acc)] }) fs.length ?_ ?_);·exact⟨2,[false,true,false,true,false,false,false,false,false,false,true,true,true],by omega,by simp only [aP,aA,aK,aJ,zB,er],by simp only [aP,aA,aK,aJ,zB,er],0,1,ts,by omega,by omega,by simp,rfl⟩
 rintro N st ⟨i,dV,acc,rfl,hi,nJ,rfl⟩;have JC:acc.length≤34359738367∨i=fs.length:=by rw [nJ]; simp; omega
 simp only [dL,aD,aE,cD,V.cells];by_cases ca:i<fs.length;·have hd:=iA ca;(have JD:acc.length≤34359738367:=by omega);refine ah tt_ok fun K hK=>?_;simp only [aO,hd,go_sem];refine hK _ ?_;refine bC (aV rfl (cn ?_));refine bC (bX ?_);obtain⟨f,hf⟩:∃ f,fs[i]?=some f:=⟨_,ak ca⟩;(have mg:(fs.take (i+1)).map Fd.ty=(fs.take i).map Fd.ty++[f.ty]:=by rw [br,hf]; simp);obtain⟨fnm,⟨fk,fm,fn,fts,ffs⟩,fo⟩:=f;refine ah tt_ok fun K hK=>?_;simp only [bZ,hf,mw,go_sem];refine hK _ ?_;refine a8 tt_ok fun K hK=>?_;simp only [ag,JD,go_sem];refine hK _ ?_;refine a8 tt_ok fun K hK=>?_;simp only [go_sem];refine hK _ ?_;have hw:=bx i (by omega);rw [hw];refine⟨fs.length-(i+1),by omega,2,[false,true,false,true,false,false,false,false,false,false,true,true,true],by omega,by simp only [aP,aA,aK,aJ,zB,er],by simp only [aP,aA,aK,aJ,zB,er],i+1,dV+1,acc++[.mk fk fm fn fts ffs],rfl,ca,by rw [nJ,mg]; simp [Fd.ty],?_⟩;simp [rp,aP,dM,cD]
 have hd:=iB ca;refine ah tt_ok fun K hK=>?_;simp only [aO,hd,go_sem];refine hK _ ?_;refine bC (aV rfl (eC ?_));have ju:i=fs.length:=by omega
 subst ju;show eg _ _ _ _ _ _;refine ah tt_ok fun K hK=>?_;simp only [go_sem];refine hK _ ?_;refine bW ⟨.inl rfl,?_⟩;rw [ai] at nJ;have hr:bc (Ty.mk k m n ts fs).parts=bc acc:=by rw [nJ]; rfl
 rw [hr];simp [nU,lM,mI,Tryz.f233,zS,gP,dC,ag];rw [← ag]; simp
mutual
def Ty.depth:Ty→Nat
 | .mk _ _ _ ts fs=>1+max (sd ts) (sf fs)
def sd:List Ty→Nat
 | []=>0
 | t :: r=>max t.depth (sd r)
def Fd.depth:Fd→Nat
 | .mk _ (.mk _ _ _ ts fs) _=>1+max (sd ts) (sf fs)
def sf:List Fd→Nat
 | []=>0
 | f :: r=>max f.depth (sf r)
end
theorem Fd.QR (f:Fd):f.depth=f.ty.depth:=by obtain⟨n',⟨k,m,n,ts,fs⟩,o⟩:=f; rfl
def ix {α:Type} (g:α→Nat):List α→Nat
 | []=>0
 | a :: r=>max (g a) (ix g r)
theorem vJ {α:Type} (g:α→Nat) (a b:List α):ix g (a++b)=max (ix g a) (ix g b):=by induction a with | nil=>simp [ix] | cons x r ih=>simp [ix,ih,Nat.max_assoc]
theorem MS {α β:Type} (g:β→Nat) (h:α→β) (a:List α):ix g (a.map h)=ix (fun x=>g (h x)) a:=by induction a with | nil=>rfl | cons x r ih=>simp [ix,ih]
theorem Eu (ts:List Ty):sd ts=ix Ty.depth ts:=by induction ts with | nil=>rfl | cons t r ih=>simp [sd,ix,ih]
theorem Ev (ts:List Fd):sf ts=ix (fun f=>f.ty.depth) ts:=by induction ts with | nil=>rfl | cons t r ih=>simp [sf,ix,ih,Fd.QR]
theorem Ty.sg (t:Ty):t.depth=1+ix Ty.depth t.parts:=by obtain⟨k,m,n,ts,fs⟩:=t;simp only [Ty.depth,Ty.parts,Ty.args,Ty.bD,vJ,MS,Eu,Ev]
theorem nK {α:Type} (g:α→Nat) {l:List α} {i:Nat} {a:α} (h:l[i]?=some a):ix g (l.take (i+1))=max (ix g (l.take i)) (g a):=by rw [br,h,vJ]; simp [ix]
theorem AT {α:Type} (g:α→Nat) {B:Nat}:∀ {l:List α},(∀ (i:Nat) (a:α),l[i]?=some a→g a≤B)→ix g l≤B
 | [],_=>by simp [ix]
 | a :: r,h=>by
  have h1:=h 0 a rfl
  have h2:=AT g (l:=r) (B:=B) fun i b hb=>h (i+1) b (by simpa using hb)
  simp only [ix]; omega
theorem Ty.tM:∀ (N:Nat) (t:Ty),t.size≤N→t.depth≤t.size:=by intro N;induction N with | zero=>intro t h; have:=t.size_pos; omega | succ N ih =>intro t hN;rw [Ty.sg,Ty.dj];have h1:=t.dj;(have:=AT Ty.depth (l:=t.parts) (B:=bd Ty.size t.parts) fun i a ha=>by have:=cu Ty.size ha;have:=ih a (by omega);omega);omega
theorem Ew (a b:Nat):(if ((a:Int)<(b:Int)) then ((b:Nat):Int) else (a:Int))=((max a b:Nat):Int):=by split <;> omega

theorem abi:∀ (N:Nat) (t:Ty),t.size≤N→N≤1048576→bR af 205 [cD t] (num t.depth):=by intro N;induction N with | zero=>intro t h; have:=t.size_pos; omega | succ N ih =>intro t hN hb;have y8:=t.fp;have tL:=t.dj;have hds:=Ty.tM _ t (aw _);have hdp:=t.sg;have QQ:=cx Ty.size Ty.size_pos t.parts;have hp:=vI t (by omega);refine jA tt_ok (fn:=Tryz.f205) Tryz.func205 rfl Tryz.call205 ?_;simp only [dL,cH,Tryz.ntmps205,ay,aI,zA,zF,aD,aE];rw [aG] at hp ⊢;simp only [aq] at hp ⊢;refine ah tt_ok fun K hK=>?_;simp only [go_sem];refine hK _ ?_;refine ah tt_ok fun K hK=>?_;simp only [go_sem];refine hK _ ?_;refine ah tt_ok fun K hK=>?_;simp only [go_sem];refine .inl ⟨_,_,by simp only [go_sem,ai],hp,?_⟩;(try simp only [go_sem]);refine hK _ ?_;refine bC ?_;refine ah tt_ok fun K hK=>?_;simp only [go_sem];refine hK _ ?_;obtain⟨ps,AS⟩:∃ ps,ps=t.parts:=⟨_,rfl⟩;rw [← AS] at tL QQ hdp ⊢;refine bX (df (fun N st=>∃ (i:Nat),N=ps.length-i∧i≤ps.length ∧ st = { fr:=[.undef,.undef,.undef,num ((ix Ty.depth (ps.take i):Nat)),.slice (bc ps),num i]++List.replicate 17 .undef,mem:=[] }) ps.length ?_ ?_);(·exact⟨0,[false,false,false,true,true,true],by omega,by simp only [aP,aA,aK,aJ,zB,er],by simp only [aP,aA,aK,aJ,zB,er],0,by omega,by omega,rfl⟩);rintro N st ⟨i,rfl,hi,rfl⟩;simp only [dL,aD,aE];refine bC ?_;by_cases ca:i<ps.length;(·have hd:=iA ca;refine ah tt_ok fun K hK=>?_;simp only [ag,hd,go_sem];refine hK _ ?_;refine aV rfl (cn ?_);refine bC (bX ?_);obtain⟨u,hu⟩:∃ u,ps[i]?=some u:=⟨_,ak ca⟩;have Te:=cu Ty.size hu;have Cx:=nK Ty.depth hu;have gB:=ih u (by omega) (by omega);rw [aG] at gB;simp only [aq] at gB;refine a8 tt_ok fun K hK=>?_;simp only [bo,hu,aG,aq,go_sem];refine .inl ⟨_,_,by simp only [go_sem,ai],gB,?_⟩;(try simp only [go_sem]);refine hK _ ?_;rw [Ew,← Cx];refine a8 tt_ok fun K hK=>?_;simp only [go_sem];refine hK _ ?_;have kZ:=bx i (by omega);rw [kZ];exact⟨ps.length-(i+1),by omega,0,[false,false,false,true,true,true],by omega,by simp only [aP,aA,aK,aJ,zB,er],by simp only [aP,aA,aK,aJ,zB,er],i+1,rfl,ca,by simp [rp,aP]⟩);have hd:=iB ca;refine ah tt_ok fun K hK=>?_;simp only [ag,hd,go_sem];refine hK _ ?_;refine aV rfl (eC ?_);(have ju:i=ps.length:=by omega);subst ju;show eg _ _ _ _ _ _;refine ah tt_ok fun K hK=>?_;simp only [go_sem];refine hK _ ?_;refine bW ⟨.inl rfl,?_⟩;(try rw [ai]);rw [bx _ (by omega)];(have mo:ix Ty.depth ps+1=t.depth:=by omega);rw [mo];simp [nU,lM,mI,Tryz.f205,zS,gP,dC,lL]

theorem JE:∀ (N:Nat) (t:Ty),t.size≤N→N≤1048576→bR af 188 [cD t] (num t.depth):=by intro N;induction N with | zero=>intro t h; have:=t.size_pos; omega | succ N ih =>intro t hN hb;have y8:=t.fp;have tL:=t.dj;have hds:=Ty.tM _ t (aw _);have hdp:=t.sg;have QQ:=cx Ty.size Ty.size_pos t.parts;have hp:=xu t (by omega);refine jA tt_ok (fn:=Tryz.f188) Tryz.func188 rfl Tryz.call188 ?_;simp only [dL,cH,Tryz.ntmps188,ay,aI,zA,zF,aD,aE];rw [aG] at hp ⊢;simp only [aq] at hp ⊢;refine ah tt_ok fun K hK=>?_;simp only [go_sem];refine hK _ ?_;refine ah tt_ok fun K hK=>?_;simp only [go_sem];refine hK _ ?_;refine bC ?_;refine ah tt_ok fun K hK=>?_;simp only [go_sem];refine .inl ⟨_,_,by simp only [ag,go_sem,ai],hp,?_⟩;(try simp only [ag,go_sem]);refine hK _ ?_;obtain⟨ps,AS⟩:∃ ps,ps=t.parts:=⟨_,rfl⟩;rw [← AS] at tL QQ hdp ⊢;refine bX (df (fun N st=>∃ (i:Nat),N=ps.length-i∧i≤ps.length ∧ st = { fr:=[.undef,.undef,.undef,num ((ix Ty.depth (ps.take i):Nat)),.undef,.undef,.undef,.slice (bc ps),num ps.length,num i]++List.replicate 10 .undef,mem:=[] }) ps.length ?_ ?_);(·exact⟨0,[false,false,false,true,false,false,false,true,true,true],by omega,by simp only [aP,aA,aK,aJ,zB,er],by simp only [aP,aA,aK,aJ,zB,er],0,by omega,by omega,rfl⟩);rintro N st ⟨i,rfl,hi,rfl⟩;simp only [dL,aD,aE];by_cases ca:i<ps.length;(·have hd:=iA ca;refine ah tt_ok fun K hK=>?_;simp only [ag,hd,go_sem];refine hK _ ?_;refine bC (aV rfl (cn ?_));refine bC (bX ?_);obtain⟨u,hu⟩:∃ u,ps[i]?=some u:=⟨_,ak ca⟩;have Te:=cu Ty.size hu;have Cx:=nK Ty.depth hu;have gB:=ih u (by omega) (by omega);rw [aG] at gB;simp only [aq] at gB;refine ah tt_ok fun K hK=>?_;simp only [bo,hu,aG,aq,go_sem];refine hK _ ?_;refine a8 tt_ok fun K hK=>?_;simp only [go_sem];refine .inl ⟨_,_,by simp only [go_sem,ai],gB,?_⟩;(try simp only [go_sem]);refine hK _ ?_;rw [Ew,← Cx];refine a8 tt_ok fun K hK=>?_;simp only [go_sem];refine hK _ ?_;have kZ:=bx i (by omega);rw [kZ];exact⟨ps.length-(i+1),by omega,0,[false,false,false,true,false,false,false,true,true,true],by omega,by simp only [aP,aA,aK,aJ,zB,er],by simp only [aP,aA,aK,aJ,zB,er],i+1,rfl,ca,by simp [rp,aP]⟩);have hd:=iB ca;refine ah tt_ok fun K hK=>?_;simp only [ag,hd,go_sem];refine hK _ ?_;refine bC (aV rfl (eC ?_));(have ju:i=ps.length:=by omega);subst ju;show eg _ _ _ _ _ _;refine ah tt_ok fun K hK=>?_;simp only [go_sem];refine hK _ ?_;refine bW ⟨.inl rfl,?_⟩;(try rw [ai]);rw [bx _ (by omega)];(have mo:ix Ty.depth ps+1=t.depth:=by omega);rw [mo];simp [nU,lM,mI,Tryz.f188,zS,gP,dC,lL]
section
mutual
def Ty.nodes:Ty→List Ty
 | .mk k m n ts fs=>.mk k m n ts fs :: (sh ts++si fs)
def sh:List Ty→List Ty
 | []=>[]
 | t :: r=>t.nodes++sh r
def Fd.nodes:Fd→List Ty
 | .mk _ (.mk k m n ts fs) _=>.mk k m n ts fs :: (sh ts++si fs)
def si:List Fd→List Ty
 | []=>[]
 | f :: r=>f.nodes++si r
end
theorem Fd.QS (f:Fd):f.nodes=f.ty.nodes:=by obtain⟨n',⟨k,m,n,ts,fs⟩,o⟩:=f; rfl
theorem GV (ts:List Ty):sh ts=ts.flatMap Ty.nodes:=by induction ts with | nil=>rfl | cons t r ih=>simp [sh,ih]
theorem GX (ts:List Fd):si ts=(ts.map Fd.ty).flatMap Ty.nodes:=by induction ts with | nil=>rfl | cons t r ih=>simp [si,ih,Fd.QS]
theorem Ty.eD (t:Ty):t.nodes=t :: t.parts.flatMap Ty.nodes:=by obtain⟨k,m,n,ts,fs⟩:=t;simp only [Ty.nodes,Ty.parts,Ty.args,Ty.bD,GV,GX,apF]
theorem Ty.vK:∀ (N:Nat) (t:Ty),t.size≤N→t.nodes.length=t.size:=by intro N;induction N with | zero=>intro t h; have:=t.size_pos; omega | succ N ih =>intro t hN;have h1:=t.dj;(have gen:∀ (l:List Ty),bd Ty.size l≤N→(l.flatMap Ty.nodes).length=bd Ty.size l:=by intro l;induction l with | nil=>intro _; rfl | cons a r UP =>intro hl;simp only [bd] at hl ⊢;rw [kV,aQ,ih a (by omega),UP (by omega)]);rw [Ty.eD,ay,gen _ (by omega)]; omega

section
variable {σ α:Type}
def dF (step:σ→α→σ×Bool):σ→List α→σ×Bool
 | s,[]=>(s,true)
 | s,u :: r=>if (step s u).2=true then dF step (step s u).1 r else ((step s u).1,false)
theorem jK (step:σ→α→σ×Bool):∀ (a:List α) (s:σ) (b:List α),dF step s (a++b)=if (dF step s a).2=true then dF step (dF step s a).1 b else ((dF step s a).1,false)
 | [],s,b=>by simp [dF]
 | u :: r,s,b=>by
  simp only [au,dF]
  split
  ·exact jK step r _ b
  simp
theorem qC (step:σ→α→σ×Bool) {G:σ→Prop} (hG:∀ s u,G s→(step s u).2=true→G (step s u).1):∀ (l:List α) (s:σ),G s→(dF step s l).2=true→G (dF step s l).1
 | [],s,h,_=>h
 | u :: r,s,h,hs=>by
  simp only [dF] at hs ⊢
  split at hs
  ·rename_i hu; rw [if_pos hu]; exact qC step hG r _ (hG s u h hu) hs
  cases hs
end

section
variable {σ:Type} {M:σ→List bm} {n k k1 k2:Nat}
theorem UQ (hn:∀ s,(M s).length=n) (hk:k<n) (je:k1<n) (l0:k2<n) (h1:∀ s,(M s)[k1]?=some (.box [.ke k])) (h2:∀ s,(M s)[k2]?=some (.box [.cX (.func 235) [] [.ptr k1 0,.ptr k2 0]])) (hb:∀ s,(M s).all (aJ n)=true)
  (step:σ→Ty→σ×Bool) (G:σ→Prop) (hG:∀ s u,G s→(step s u).2=true→G (step s u).1) {B:Nat} (hB:B≤1048576) (hy:∀ s u,G s→u.size≤B→Ie af k [cD u] (M s) (step s u).2 (M (step s u).1)) :
  ∀ (N:Nat) (t:Ty) (s:σ),G s→t.size≤N→N≤B→bz af 235 [cD t,.ptr k1 0,.ptr k2 0] (M s) (bl (dF step s t.nodes).2) (M (dF step s t.nodes).1):=by
 have g0:∀ s (l:List bm),(M s++l)[n]?=l[0]?:=fun s l=>by rw [aW (by rw [hn]; exact aw _),hn,cU]
 have g1:∀ s (l:List bm),(M s++l)[n+1]?=l[1]?:=fun s l=>by rw [aW (by rw [hn]; omega),hn,ez]
 have Xb:∀ s (l:List bm),(M s++l)[k1]?=some (.box [.ke k]):=fun s l=>by rw [bF (by rw [hn]; exact je)]; exact h1 s
 have gk2:∀ s (l:List bm),(M s++l)[k2]?=some (.box [.cX (.func 235) [] [.ptr k1 0,.ptr k2 0]]):=fun s l=>by rw [bF (by rw [hn]; exact l0)]; exact h2 s
 have gs:∀ s (l:List bm) X,(M s++l).set n X=M s++l.set 0 X:=fun s l X=>by rw [dz _ _ (by rw [hn]; exact aw _),hn,cU]
 have gt:∀ s (l:List bm),(M s++l).take n=M s:=fun s l=>by rw [← hn s,qM]
 have Xc:∀ s,(M s).take n=M s:=fun s=>by rw [aX (by rw [hn]; exact aw _)]
 have fy:∀ s u (l:List bm),G s→u.size≤B→Ie af k [cD u] (M s++l) (step s u).2 (M (step s u).1++l):=fun s u l hg hu=>by refine (hy s u hg hu).frame (by rw [hn]; exact hk) ?_ (by rw [hn]; exact hb s) (by rw [hn,hn]) (by rw [hn]; exact hb _) l;rw [aG]; simp [aA,aK,aq]
 intro N;induction N with | zero=>intro t s hg h; have:=t.size_pos; omega | succ N ih =>intro t s hg hN hNB;have y8:=t.fp;have tL:=t.dj;have QQ:=cx Ty.size Ty.size_pos t.parts;have ep:=t.eD;have hp:=xu t (by omega);have QT:=fun l=>fy s t l hg (by omega);(have Xd:∀ u s (l:List bm),G s→u.size≤N→bz af 235 [cD u,.ptr k1 0,.ptr k2 0] (M s++l) (bl (dF step s u.nodes).2) (M (dF step s u.nodes).1++l):=fun u s l hg hu=>by refine (ih u s hg hu (by omega)).frame ?_ (by rw [hn]; exact hb s) rfl (by rw [hn,hn]) (by rw [hn]; exact hb _) l;rw [aG,hn]; simp [aA,aK,aq,je,l0]);simp only [aG,aq] at Xd;refine kh tt_ok (fn:=Tryz.f235) n (by rw [hn]; exact aw _) Tryz.func235 rfl Tryz.call235 ?_;simp only [dL,cH,Tryz.ntmps235,ay,aI,zA,zF,aD,aE];rw [aG] at hp QT ⊢;simp only [aq] at hp QT ⊢;refine ah tt_ok fun K hK=>?_;simp only [hn,go_sem];refine hK _ ?_;refine bC ?_;refine ah tt_ok fun K hK=>?_;simp only [Xb,g0,hn,go_sem];refine .inl ⟨_,_,QT _,?_⟩;(try simp only [go_sem]);refine hK _ ?_;cases QU:(step s t).2 with | false =>refine aV rfl ?_;refine ah tt_ok fun K hK=>?_;simp only [go_sem];refine hK _ ?_;refine bW ⟨.inl rfl,?_⟩;(have wS:dF step s t.nodes=((step s t).1,false):=by rw [ep]; simp [dF,QU]);rw [wS];exact⟨rfl,rfl,by dsimp only; rw [gt]; exact hb _,(gt _ _).symm⟩ | true =>refine aV rfl (cn ?_);show eg _ _ _ _ _ _;refine bC ?_;refine ah tt_ok fun K hK=>?_;simp only [Xb,g0,hn,go_sem];refine .inl ⟨_,_,by simp only [ag,go_sem,ai],hp,?_⟩;(try simp only [ag,go_sem]);refine hK _ ?_;obtain⟨ps,AS⟩:∃ ps,ps=t.parts:=⟨_,rfl⟩;rw [← AS] at tL QQ ep ⊢;refine bX (df (fun N st=>∃ (i:Nat) (s':σ),G s'∧N=ps.length-i∧i≤ps.length∧dF step s (t :: (ps.take i).flatMap Ty.nodes)=(s',true) ∧ st = { fr:=[.undef,.ptr k1 0,.ptr k2 0,.undef,.undef,.undef,.undef,.undef,.undef,.undef,.undef,.undef,.slice (bc ps),num ps.length,num i]++List.replicate 8 .undef,mem:=M s' }) ps.length ?_ ?_);(·refine⟨n,(false::true::true::(rp 9 false [true,true,true])),by rw [hn]; exact aw _,by simp only [aP,aA,aK,aJ,zB,je,l0,er],by dsimp only; rw [gt]; exact hb _,0,(step s t).1,hG s t hg QU,by omega,by omega,by simp [dF,QU],?_⟩;dsimp only; rw [gt]; rfl);rintro N' st ⟨i,s',FJ,rfl,hi,QV,rfl⟩;simp only [dL,aD,aE];by_cases ca:i<ps.length;(·have hd:=iA ca;refine ah tt_ok fun K hK=>?_;simp only [ag,hd,go_sem];refine hK _ ?_;refine bC (aV rfl (cn ?_));refine bC (bX ?_);obtain⟨u,hu⟩:∃ u,ps[i]?=some u:=⟨_,ak ca⟩;have Te:=cu Ty.size hu;have gB:=fun l=>Xd u s' l FJ (by omega);(have qU:(ps.take (i+1)).flatMap Ty.nodes=(ps.take i).flatMap Ty.nodes++u.nodes:=by rw [br,hu]; simp);(have Ll:dF step s (t :: (ps.take (i+1)).flatMap Ty.nodes)=dF step s' u.nodes:=by rw [qU,← au,jK,QV]; simp);refine ah tt_ok fun K hK=>?_;simp only [bo,hu,aG,aq,hn,g0,gs,go_sem];refine hK _ ?_;refine ah tt_ok fun K hK=>?_;simp only [gk2,g0,hn,go_sem];(refine .inr <| .inl ⟨_,_,gB _,?_⟩);(try simp only [go_sem]);refine hK _ ?_;cases QW:(dF step s' u.nodes).2 with | false =>refine aV rfl ?_;refine ah tt_ok fun K hK=>?_;simp only [go_sem];refine hK _ ?_;refine bW ⟨.inl rfl,?_⟩;(have wS:dF step s t.nodes=((dF step s' u.nodes).1,false):=by (have AU:ps.flatMap Ty.nodes=(ps.take (i+1)).flatMap Ty.nodes++(ps.drop (i+1)).flatMap Ty.nodes:=by rw [← apF,wI]);rw [ep,AU,← au,jK,Ll,QW]; simp);rw [wS];exact⟨rfl,rfl,by dsimp only; rw [gt]; exact hb _,(gt _ _).symm⟩ | true =>refine aV rfl (cn ?_);show eg _ _ _ _ _ _;refine a8 tt_ok fun K hK=>?_;simp only [go_sem];refine hK _ ?_;have kZ:=bx i (by omega);rw [kZ];refine⟨ps.length-(i+1),by omega,n,(false::true::true::(rp 9 false [true,true,true])),by rw [hn]; exact aw _,by simp only [aP,aA,aK,aJ,zB,je,l0,er],by dsimp only; rw [gt]; exact hb _,i+1,(dF step s' u.nodes).1,qC step hG _ _ FJ QW,rfl,ca,by rw [Ll,← QW],?_⟩;dsimp only; rw [gt]; rfl);have hd:=iB ca;refine ah tt_ok fun K hK=>?_;simp only [ag,hd,go_sem];refine hK _ ?_;refine bC (aV rfl (eC ?_));(have ju:i=ps.length:=by omega);subst ju;show eg _ _ _ _ _ _;refine ah tt_ok fun K hK=>?_;simp only [go_sem];refine hK _ ?_;refine bW ⟨.inl rfl,?_⟩;rw [ai] at QV;rw [ep,QV];exact⟨rfl,rfl,by dsimp only; rw [Xc]; exact hb _,(Xc _).symm⟩
end
end
section

theorem GY (t:Ty) (m:List bm) (hb:m.all (aJ (m.length+1))=true):bz af 189 [cD t] m (.cX (.func 234) [] [.ptr m.length 0]) (m++[.box (aq t)]):=by
 refine kh tt_ok (fn:=Tryz.f189) (m.length+1) (by omega) Tryz.func189 rfl Tryz.call189 ?_;simp only [dL,cH,Tryz.ntmps189,ay,aI,zA,zF,aD,aE];rw [aG];simp only [aq];refine ah tt_ok fun K hK=>?_;simp only [go_sem];refine hK _ ?_;refine ah tt_ok fun K hK=>?_;simp only [go_sem];refine hK _ ?_;have ht:∀ B:bm,(m++[B]).take (m.length+1)=m++[B]:=fun B=>aX (by simp);refine bW ⟨.inl rfl,rfl,by simp [aA,aK],?_,?_⟩;·dsimp only; rw [ht]; simp [hb,aJ,aA,aK]
 dsimp only; rw [ht]

section
variable {σ:Type} {M:σ→List bm} {n k kt:Nat}
theorem UR (hn:∀ s,(M s).length=n) (hk:k<n) (MT:kt<n) {t:Ty} (h1:∀ s,(M s)[kt]?=some (.box (aq t))) (hb:∀ s,(M s).all (aJ n)=true)
  (step:σ→Ty→σ×Bool) (G:σ→Prop) (hG:∀ s u,G s→(step s u).2=true→G (step s u).1) {B:Nat} (hB:B≤1048576) (hy:∀ s u,G s→u.size≤B→Ie af k [cD u] (M s) (step s u).2 (M (step s u).1)) (ht:t.size≤B) (s:σ) (hs:G s) :
  bz af 234 [.ke k,.ptr kt 0] (M s) (.eV []) (M (dF step s t.nodes).1):=by
 have g0:∀ s (l:List bm),(M s++l)[n]?=l[0]?:=fun s l=>by rw [aW (by rw [hn]; exact aw _),hn,cU]
 have g1:∀ s (l:List bm),(M s++l)[n+1]?=l[1]?:=fun s l=>by rw [aW (by rw [hn]; omega),hn,ez]
 have Xe:∀ s (l:List bm),(M s++l)[kt]?=some (.box (aq t)):=fun s l=>by rw [bF (by rw [hn]; exact MT)]; exact h1 s
 have gs:∀ s (l:List bm) X,(M s++l).set (n+1) X=M s++l.set 1 X:=fun s l X=>by rw [dz _ _ (by rw [hn]; omega),hn,ez]
 have gt:∀ s (l:List bm),(M s++l).take n=M s:=fun s l=>by rw [← hn s,qM]
 have hw:∀ s,G s→bz af 235 [cD t,.ptr n 0,.ptr (n+1) 0] (M s++[.box [.ke k],.box [.cX (.func 235) [] [.ptr n 0,.ptr (n+1) 0]]]) (bl (dF step s t.nodes).2) (M (dF step s t.nodes).1++[.box [.ke k],.box [.cX (.func 235) [] [.ptr n 0,.ptr (n+1) 0]]]):=fun s hs=>by refine UQ (M:=fun s=>M s++[.box [.ke k],.box [.cX (.func 235) [] [.ptr n 0,.ptr (n+1) 0]]]) (n:=n+2) (k:=k) (k1:=n) (k2:=n+1) (fun s=>by simp [hn]) (by omega) (by omega) (by omega) (fun s=>g0 _ _) (fun s=>g1 _ _) (fun s=>?_) step G hG hB (fun s u hg hu=>?_) t.size t s hs (aw _) ht;(·rw [Ia,aL];refine⟨qs (by omega) (hb s),?_⟩;simp [aJ,aA,aK]; omega);refine (hy s u hg hu).frame (by rw [hn]; exact hk) ?_ (by rw [hn]; exact hb s) (by rw [hn,hn]) (by rw [hn]; exact hb _) _;rw [aG]; simp [aA,aK,aq]
 refine kh tt_ok (fn:=Tryz.f234) n (by rw [hn]; exact aw _) Tryz.func234 rfl Tryz.call234 ?_;simp only [dL,cH,Tryz.ntmps234,ay,aI,zA,zF,aD,aE];have AP:=hw s hs;rw [aG] at AP;simp only [aq] at AP Xe;refine ah tt_ok fun K hK=>?_;simp only [hn,go_sem];refine hK _ ?_;refine ah tt_ok fun K hK=>?_;simp only [hn,aQ,Cq,go_sem];refine hK _ ?_;refine ah tt_ok fun K hK=>?_;simp only [hn,g1,gs,go_sem];refine hK _ ?_;refine a8 tt_ok fun K hK=>?_;simp only [hn,g1,Xe,go_sem];refine .inr <| .inl ⟨_,_,AP,?_⟩
 try simp only [go_sem]
 refine hK _ ?_;refine⟨.inr rfl,rfl,rfl,?_,?_⟩;·dsimp only; rw [gt]; exact hb _
 dsimp only; rw [gt]

def jr {α:Type} (step:σ→α→σ×Option Code):σ→List α→σ×Option Code
 | s,[]=>(s,none)
 | s,u :: r=>match (step s u).2 with
  | none=>jr step (step s u).1 r
  | some c=>((step s u).1,some c)
def vL {α:Type} (step:σ→α→σ×Option Code) (s:σ×Option Code) (u:α):(σ×Option Code)×Bool:=(step s.1 u,(step s.1 u).2.isNone)
theorem y9 {α:Type} (step:σ→α→σ×Option Code):∀ (l:List α) (s:σ),(dF (vL step) (s,none) l).1=jr step s l
 | [],s=>rfl
 | u :: r,s=>by
  simp only [dF,jr]
  have mG:(vL step (s,none) u).1=step s u:=rfl
  have mE:(vL step (s,none) u).2=(step s u).2.isNone:=rfl
  by_cases Ct:(step s u).2.isNone=true
  ·rw [if_pos (mE.trans Ct),mG]
   have h2:(step s u).2=none:=by simpa using Ct
   have e:step s u=((step s u).1,none):=apJ rfl h2
   have h3:=y9 step r (step s u).1
   rw [← e] at h3
   rw [h2]
   exact h3
  have QX:=Ct
  rw [if_neg (fun h=>QX (mE.symm.trans h)),mG]
  cases h2:(step s u).2 with
  | none=>rw [h2] at QX; exact absurd rfl QX
  | some c=>dsimp only; exact apJ rfl h2

theorem take_set {mem pre:List bm} {n:Nat} {X Y:bm} (hn:pre.length=n) (h1:mem[n]?=some Y) (h2:mem.take n=pre):(mem.set n X).take (n+1)=pre++[X]:=by
 have ca:n<mem.length:=(az.1 h1).1;refine dy fun i=>?_;by_cases hi:i<n;·rw [jN (by omega),eY (by omega),bF (by omega),← h2,jN hi]
 by_cases o7:i=n;·subst o7;rw [jN (by omega),List.getElem?_set_self ca,aW (by omega)];simp [hn]
 rw [dQ (by simp; omega),dQ (by simp [hn]; omega)]

theorem MU {n0:Nat} {st:St} {Q:Exit→St→Prop} {f:Operand} {params:Array Tmp} {assign body:Code} {t:Ty} (pre:σ→List bm) (s0:σ) (n kt:Nat) (pP:st.mem=pre s0) (hn:∀ s,(pre s).length=n) (MT:kt<n)
  (ht:∀ s,(pre s)[kt]?=some (.box (aq t))) (hb:∀ s,(pre s).all (aJ (n+1))=true) (yW:st.fr.all (aA (n+1))=true) (hf:st.eval f = .cX (.func 234) [] [.ptr kt 0]) (hp:params.size=1) (step:σ→Ty→σ×Option Code) {B:Nat} (hB:B≤1048576) (mY:t.size≤B)
  (AV:∀ s u,u.size≤B→∀ (l:Nat) (LR LB:bm),aJ (n+1) LR=true→aJ (n+1) LB=true→eg af (some l) (n+1) assign { fr:=oX params.toList [cD u] st.fr,mem:=pre s++[LR] } fun ex tj=>ex = .normal∧tj.mem[n]?=some LR ∧
   eg af (some l) (n+1) body { tj with mem:=tj.mem.set n LB } fun ex yZ=>rI ex=some (step s u).2∧yZ.mem[n]?=some LB∧yZ.mem.take n=pre (step s u).1)
  (hq:match (jr step s0 t.nodes).2 with
   | none=>Q .normal { st with mem:=pre (jr step s0 t.nodes).1++[.dead] }
   | some c=>eg af none n0 c { st with mem:=pre (jr step s0 t.nodes).1++[.dead] } Q):eg af none n0 (.rangeFunc f params assign body) st Q:=by
 have hlen:st.mem.length=n:=by rw [pP,hn]
 have gn:∀ s X,(pre s++[X])[n]?=some X:=fun s X=>by rw [aW (by rw [hn]; exact aw _),hn,cU]; rfl
 have gk:∀ s X,(pre s++[X])[kt]?=some (.box (aq t)):=fun s X=>by rw [bF (by rw [hn]; exact MT)]; exact ht s
 have GZ:∀ s (X Y:bm),(pre s++[X]).set n Y=pre s++[Y]:=fun s X Y=>by rw [dz _ _ (by rw [hn]; exact aw _),hn,cU]; rfl
 have yr:∀ (s:σ) (a:LoopState) (b:Option Code),(pre s++[bm.loop a b st.fr params assign body]).all (aJ (n+1))=true:=fun s a b=>by rw [Ia,aL];exact⟨hb s,by simp only [cZ,dY,aN,aJ]; exact yW⟩
 have it:=UR (M:=fun s:σ×Option Code=>pre s.1++[.loop (if s.2.isNone then .ready else .done) s.2 st.fr params assign body]) (n:=n+1) (k:=n) (kt:=kt) (t:=t) (fun s=>by simp [hn]) (by omega) (by omega) (fun s=>gk _ _) (fun s=>yr _ _ _)
  (vL step) (fun s=>s.2=none) (fun s u hs h=>by simpa [vL] using h) hB (fun s u hs hu=>by
   obtain⟨s,j⟩:=s
   simp only at hs; subst hs
   refine rJ (fr:=st.fr) (params:=params) (assign:=assign) (body:=body) (gn _ _) (by simp [hp]) fun l=>?_
   have hl:(pre s++[bm.loop .ready none st.fr params assign body]).length=n+1:=by simp [hn]
   simp only [aaT,if_true,hl]
   refine eg.mono (AV s u hu l (.loop .ready none st.fr params assign body) (.loop .busy none st.fr params assign body) yW yW) ?_
   rintro ex tj ⟨h1,h2,h3⟩
   refine⟨h1,h2,eg.mono h3 ?_⟩
   rintro ex yZ ⟨h4,h5,h6⟩
   refine⟨_,h4,rfl,h5,?_,?_⟩
   ·rw [take_set (hn _) h5 h6]; exact yr _ _ _
   rw [take_set (hn _) h5 h6]; rfl) mY (s0,none) rfl
 rw [y9] at it;refine pe (g:=234) (vs:=[.ke n,.ptr kt 0]) (by rw [hf,hlen]; rfl) (by rw [pP]; exact it) ?_;rw [hlen];refine⟨_,_,_,_,_,_,gn _ _,?_,?_⟩;·cases (jr step s0 t.nodes).2 <;> simp
 generalize hj:(jr step s0 t.nodes).2=j at hq;cases j with | none=>dsimp only at hq ⊢; rw [GZ]; exact hq | some c=>dsimp only at hq ⊢; rw [GZ]; exact hq
end
end

theorem uz {σ α:Type} (g:σ→α→σ):∀ (l:List α) (s:σ),jr (fun s u=>(g s u,none)) s l=(l.foldl g s,none)
 | [],s=>rfl
 | u :: r,s=>by simp only [jr,aM]; exact uz g r _
theorem AW {α:Type}:∀ (l:List α) (a:Nat),a+l.length≤1152921504606846976→l.foldl (fun (s:Int) _=>IntKind.i64.wrap (s+1)) (a:Int)=((a+l.length:Nat):Int)
 | [],a,_=>rfl
 | _ :: r,a,h=>by
  simp only [ay] at h
  rw [aM,bx a (by omega),AW r (a+1) (by omega),ay]
  congr 1; omega

theorem n7 (t:Ty) (ht:t.size≤1048576):bR af 175 [cD t] (num t.size):=by
 refine jA tt_ok (fn:=Tryz.f175) Tryz.func175 rfl Tryz.call175 ?_;simp only [dL,cH,Tryz.ntmps175,ay,aI,zA,zF,aD,aE];have Zo:=fun B0 B1 h=>GY t [B0,B1] h;rw [aG] at Zo ⊢;simp only [aq] at Zo ⊢;refine ah tt_ok fun K hK=>?_;simp only [go_sem];refine hK _ ?_;refine ah tt_ok fun K hK=>?_;simp only [go_sem];refine hK _ ?_;refine bC ?_;refine ah tt_ok fun K hK=>?_;simp only [go_sem];refine .inr <| .inl ⟨_,_,Zo _ _ rfl,?_⟩
 try simp only [go_sem]
 refine hK _ ?_;refine bX (MU (t:=t) (B:=1048576) (fun s:Int=>[.box (aq t),.box [num s],.box (aq t)]) 0 3 2 rfl (fun _=>rfl) (by omega) (fun _=>rfl) (fun _=>rfl) rfl rfl rfl (fun s _=>(IntKind.i64.wrap (s+1),none)) (by omega) ht ?_ ?_);·intro s u hu l LR LB hLR hLB;refine cn ⟨rfl,rfl,bX ?_⟩;refine a8 tt_ok fun K hK=>?_;simp only [go_sem];refine hK _ ?_;exact⟨rfl,rfl,rfl⟩
 rw [uz,show (0:Int)=((0:Nat):Int) from rfl,AW _ _ (by rw [Ty.vK _ t (aw _)]; omega),Ty.vK _ t (aw _),bE];show eg _ _ _ _ _ _;refine ah tt_ok fun K hK=>?_;simp only [go_sem];refine hK _ ?_;exact bW ⟨.inl rfl,rfl⟩
def fh {α:Type} (f:α→Int):List α→Int
  | []=>0
  | u :: r=>if f u=0 then fh f r else f u
def Ii (a b:ByteArray):Int:=if a=b then 5 else if UA b a=true then 1 else 0
def l7:List ByteArray→Int
  | []=>0
  | a :: r=>match r with
    | []=>0
    | b :: _=>if Ii a b=0 then l7 r else Ii a b
def jc (t:Ty):Bool:=decide (t.kind=0)&&jB t.mod&&jB t.name&&decide (t.args.length=0)&&decide (t.bD.length=0)
def Zp (t:Ty):Bool :=
  (decide (t.kind=8) || !(t.bD.any Fd.opt)) &&
  (if t.kind=0∨t.kind=1∨t.kind=2∨t.kind=3∨t.kind=4 then jB t.mod&&jB t.name&&decide (t.args.length=0)&&decide (t.bD.length=0)
   else if t.kind=5 then jB t.mod&&jB t.name&&decide (t.args.length=1)&&decide (t.bD.length=0)
   else if t.kind=6∨t.kind=7 then jB t.mod&&jB t.name&&decide (t.args.length=0)
   else if t.kind=8 then jB t.mod&&jB t.name&&decide (t.args.length=1)
   else if t.kind=9 then jB t.mod&&decide (t.args.length=0)&&decide (t.bD.length=0)
   else if t.kind=10 then decide (t.bD.length=0) else false)
def MV (t:Ty):Int :=
  if Zp t=false then 1
  else if 32<t.bD.length∨8<t.args.length then 7
  else if (t.kind=9∧GO t.name=false)∨(t.kind=10∧(vH t.mod=false∨pn t.name=false)) then 4
  else if (t.bD.any fun f=>!gy f.name)=true then 4
  else l7 (t.bD.map Fd.name)
def vM (t:Ty):Int:=if 4096<t.size∨32<t.depth then 7 else fh MV t.nodes
end Go.Proofs.YtnboooapeopjoaaGreatDoor
end
