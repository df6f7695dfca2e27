import Derived.Test.YtnboooapeopjoaaGreatDoorJ12
import Derived.Test.YtnboooapeopjoaaGreatDoorCards
import Derived.Test.YtnboooapeopjoaaGreatDoorTie
import Derived.Lib.LaidTab
open Go.Proofs.Tryz renaming prog→af
open List renaming append_nil→jv
set_option linter.all false
section
namespace Go.Proofs.YtnboooapeopjoaaGreatDoor
open Go.Eng
variable [bg]
set_option maxHeartbeats 4000000
set_option maxRecDepth 100000
theorem Qr (hG:bg.g=some 1):bR af 7 [] (bl true):=dg (bM (adl hG) (bM (Y9 hG) (bM (adJ hG) bH))) (cw hG) 3000 (by kernel_rfl)
end Go.Proofs.YtnboooapeopjoaaGreatDoor
end

section
namespace Go.Proofs.YtnboooapeopjoaaGreatDoor.lawScopeAbsolute
open Go.Eng
set_option maxRecDepth 100000
open Go.ChangeShapes Go.WideShapes Go.ChangeAt Go.RowKit
theorem contract (H:Type) (enc:TypeId×Value→H) (W:World) (args:Array Value) (ds gs:List (DataW H)) (before:List MemPlace) (base:Nat)
  (fU:∀ (j:Nat) t v,Tryz.f4.params[j]?=some t→args[j]?=some v→Value.okWide af W .any base t v)
  (hW:DataW.Whole enc af Tryz.f4.params.toList Rows.scopeAbsoluteSpec.vars false W args.toList ds gs before) (hb:Rows.uptoBulkAll (ds++gs)≤1048576) (hS:W.ShapedOpen af) :
  Calls af 4 args W fun e W'=>∃ v,e = .returned v∧Rows.scopeAbsoluteSpec.post enc af Tryz.f4 false true false false W args v W':=by
 have hW':=hW;have ca:=hW.lt;obtain⟨p,q,hA0,hV,rfl,hfz,mf⟩:=hW;have hA:DataW.TrodAll enc af W 0 (fun _=>true) true Tryz.f4.params.toList args.toList ds p:=hA0;rw [Tryz.params4] at hA;obtain⟨v0,Tb,d0,ds0,p0,q0,oY,rfl,rfl,h0,r0⟩:=trodAll_cons hA;obtain⟨rfl,rfl,rfl⟩:=trodAll_nil r0;obtain rfl:args = #[v0]:=by cases args; simp_all
 obtain⟨rfl,rfl⟩:=trodVars_none hV;rw [Tryz.params4] at fU;clear fU;clear hA0 hA r0 oY hV;simp only [jv] at hW' ca;simp only [dL,jv,Rows.uptoBulkAll] at hb;have h0':=h0;obtain⟨f0,h0⟩:=h0;have main:Calls af 4 #[v0] W fun e W'=>e = .returned (.bool true)∧Below W.heap.size W W':=by obtain⟨n,hn⟩:=MF hS;(have go:∀ (G:bg) (hG:G.g=some 1) (hg:@Gl G W.cell?),Calls af 4 #[v0] W fun e W'=>e = .returned (.bool true)∧Below W.heap.size W W':=fun G hG hg=>by have haw:bR af 7 [] (bl true):=Qr hG;obtain⟨x0,KB,b0⟩:=adL (F:=W.cell?) (hg:=hg) rfl h0;(obtain⟨rr,Cu,hc⟩:∃ r_,r_=bl true∧bR af 4 [kn x0] r_:=by obtain⟨r_,h1,h2⟩:=lawAbsolute_all hG haw x0 (by omega);exact⟨r_,h1,h2⟩);subst Cu;refine (hc.2 W.cell? hg W #[v0] (fun _ _ h=>h) ?_).mono fun o W' h=>?_;(·exact .cons (Uv (by simp [kn]) KB) (.nil _));obtain⟨F',x,rfl,-,-,-,⟨FJ,hx⟩,Uw⟩:=h;obtain rfl:=gN hx;exact⟨rfl,Uw⟩);exact go (gOf n) rfl (@Gl.mk (gOf n) _ (fun g hg=>by cases hg; exact hn) (fun g cs j x h=>by cases h))
 refine main.mono fun e W' ⟨he,Uw⟩=>?_;subst he;have adM:laidOutB af=true:=by kernel_rfl
 refine⟨_,rfl,MG (pa:=p0++[]) (pv:=[]) hW' (fun _ _ _=>trodAll_cons_mk (shut_bool Tryz.underlying4 _) trodAll_mk0) (fun sp NV=>?_) (fun _ _=>rfl) (by simp)
  Uw (ok_one (by kernel_rfl) rfl (okWide_bool_mk Tryz.underlying4 _))⟩
 refine trodAll_cons_mk (WideElems.Trod_stays adM (by kernel_rfl) (of_decide_eq_true (by kernel_rfl)) h0' (fun x hx=>Uw.same (ca x (by simp [hx]))) (fun x hx=>NV x (by simp [hx])))
  trodAll_mk0
end Go.Proofs.YtnboooapeopjoaaGreatDoor.lawScopeAbsolute
end

section
namespace Go.Proofs.YtnboooapeopjoaaGreatDoor
set_option maxHeartbeats 4000000
set_option maxRecDepth 100000
section
open Go.ChangeShapes Go.WideShapes Go.ChangeAt Go.RowKit
theorem own:ownKnob af.godebug=none:=by kernel_rfl
def W7 (cs:Array Value):Obj→Obj
 | .cells _ t frozen=>.cells cs t frozen
 | o=>o
def aja:List Nat:=[0,1,28,2,29,14,24,3,30,22,20,15,25,17,4,8,31,27,13,23,21,19,16,7,26,12,18,6,11,5,10,9]
def ajb:List Nat:=[0,1,56,2,57,49,28,3,61,58,42,50,38,29,17,4,62,47,59,36,45,43,51,22,53,39,33,30,24,18,12,5,63,55,48,27,60,41,37,16,46,35,44,21,52,32,23,11,54,26,40,15,34,20,31,10,25,14,19,9,13,8,7,6]
def adN:List Nat:=[1,10,100,1000,10000,100000,1000000,10000000,100000000,1000000000,10000000000,100000000000,1000000000000,10000000000000,100000000000000,1000000000000000,10000000000000000,100000000000000000,1000000000000000000,10000000000000000000]
def ajc:List Nat:=[128,191,160,191,128,159,144,191,128,143,0,0,0,0,0,0,0,0,0,0,0,0,0,0,0,0,0,0,0,0,0,0]
def Ux (l:List Nat):Obj→Obj:=W7 ⟨l.map fun n=>Value.int .u8 (Int.ofNat n)⟩
noncomputable def xm (os:Os):World :=
 { World.holding af os ⟨#[],#[],[]⟩ with heap:=(((((World.holding af os ⟨#[],#[],[]⟩).heap.modify 4 (Ux Pinned.utf8FirstZ)).modify 5 (Ux ajc)).modify 0 (W7 ⟨adN.map fun n=>Value.int .u64 (Int.ofNat n)⟩)).modify 2 (Ux aja)).modify 3 (Ux ajb) }
end
end Go.Proofs.YtnboooapeopjoaaGreatDoor
end
