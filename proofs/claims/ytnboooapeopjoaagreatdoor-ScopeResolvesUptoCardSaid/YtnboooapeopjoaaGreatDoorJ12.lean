import Derived.Test.YtnboooapeopjoaaGreatDoorJ11
import Derived.Test.YtnboooapeopjoaaGreatDoorCards
import Derived.Test.YtnboooapeopjoaaGreatDoorTie
import Derived.Lib.LaidTab
open Go.Proofs.Tryz renaming prog→ab
open List renaming append_nil→ij
set_option linter.all false
section
namespace Go.Proofs.YtnboooapeopjoaaGreatDoor
open Go.Eng
variable [bk]
set_option maxHeartbeats 4000000
set_option maxRecDepth 100000
theorem UR (hG:bk.g=some 1):cx ab 7 [] (bl true):=cU (bL (aiX hG) (bL (adq hG) (bL (ajl hG) bD))) (cg hG) 3000 kr
end Go.Proofs.YtnboooapeopjoaaGreatDoor
end
section
namespace Go.Proofs.YtnboooapeopjoaaGreatDoor.lawScopeResolves
open Go.Eng
set_option maxRecDepth 100000
open Go.ChangeShapes Go.WideShapes Go.ChangeAt Go.RowKit
theorem contract (H:Type) (enc:TypeId×Value→H) (W:World) (args:Array Value) (ds gs:List (DataW H)) (before:List MemPlace) (base:Nat)
  (fF:∀ (j:Nat) t v,Tryz.f3.params[j]?=some t→args[j]?=some v→Value.okWide ab W .any base t v)
  (hW:DataW.Whole enc ab Tryz.f3.params.toList Rows.scopeResolvesSpec.vars false W args.toList ds gs before) (hb:Rows.uptoBulkAll (ds++gs)≤1048576) (hS:W.ShapedOpen ab) :
  Calls ab 3 args W fun e W'=>∃ v,e = .returned v∧Rows.scopeResolvesSpec.post enc ab Tryz.f3 false true false false W args v W':=by
 have hW':=hW;have bR:=hW.lt;obtain⟨p,q,hA0,hV,rfl,hfz,lq⟩:=hW;have hA:DataW.TrodAll enc ab W 0 (fun _=>true) true Tryz.f3.params.toList args.toList ds p:=hA0;rw [Tryz.params3] at hA;obtain⟨v0,Ve,d0,ds0,p0,q0,pC,rfl,rfl,h0,r0⟩:=trodAll_cons hA;obtain⟨rfl,rfl,rfl⟩:=trodAll_nil r0;obtain rfl:args = #[v0]:=by cases args;simp_all
 obtain⟨rfl,rfl⟩:=trodVars_none hV;rw [Tryz.params3] at fF;clear fF;clear hA0 hA r0 pC hV;simp only [ij] at hW' bR;simp only [dG,ij,Rows.uptoBulkAll] at hb;have h0':=h0;obtain⟨f0,h0⟩:=h0;have main:Calls ab 3 #[v0] W fun e W'=>e = .returned (.bool true)∧Below W.heap.size W W':=by obtain⟨n,hn⟩:=O6 hS;(have go:∀ (G:bk) (hG:G.g=some 1) (hg:@Gl G W.cell?),Calls ab 3 #[v0] W fun e W'=>e = .returned (.bool true)∧Below W.heap.size W W':=fun G hG hg=>by have haw:cx ab 7 [] (bl true):=UR hG;obtain⟨x0,Mg,b0⟩:=agK (F:=W.cell?) (hg:=hg) rfl h0;(obtain⟨rr,Dp,hc⟩:∃ r_,r_=bl true∧cx ab 3 [iM x0] r_:=by obtain⟨r_,h1,h2⟩:=lawResolves_all hG haw x0 (by omega);exact⟨r_,h1,h2⟩);subst Dp;refine (hc.2 W.cell? hg W #[v0] (fun _ _ h=>h) ?_).mono fun o W' h=>?_;(·exact .cons (Xi (by simp [iM]) Mg) (.nil _));obtain⟨F',x,rfl,-,-,-,⟨Ha,hx⟩,XU⟩:=h;obtain rfl:=gP hx;exact⟨rfl,XU⟩);exact go (gOf n) rfl (@Gl.mk (gOf n) _ (fun g hg=>by cases hg;exact hn) (fun g cs j x h=>by cases h))
 refine main.mono fun e W' ⟨he,XU⟩=>?_;subst he;have ajm:laidOutB ab=true:=kr
 refine⟨_,rfl,O7 (pa:=p0++[]) (pv:=[]) hW' (fun _ _ _=>trodAll_cons_mk (shut_bool Tryz.underlying4 _) trodAll_mk0) (fun sp U1=>?_) (fun _ _=>rfl) (by simp)
  XU (ok_one kr rfl (okWide_bool_mk Tryz.underlying4 _))⟩
 refine trodAll_cons_mk (WideElems.Trod_stays ajm kr (of_decide_eq_true kr) h0' (fun x hx=>XU.same (bR x (by simp [hx]))) (fun x hx=>U1 x (by simp [hx])))
  trodAll_mk0
end Go.Proofs.YtnboooapeopjoaaGreatDoor.lawScopeResolves
end
section
namespace Go.Proofs.YtnboooapeopjoaaGreatDoor
set_option maxHeartbeats 4000000
set_option maxRecDepth 100000
section
open Go.ChangeShapes Go.WideShapes Go.ChangeAt Go.RowKit
theorem own:ownKnob ab.godebug=none:=kr
def ZP (cs:Array Value):Obj→Obj
 | .cells _ t frozen=>.cells cs t frozen
 | o=>o
def an6:List Nat:=[0,1,28,2,29,14,24,3,30,22,20,15,25,17,4,8,31,27,13,23,21,19,16,7,26,12,18,6,11,5,10,9]
def an7:List Nat:=[0,1,56,2,57,49,28,3,61,58,42,50,38,29,17,4,62,47,59,36,45,43,51,22,53,39,33,30,24,18,12,5,63,55,48,27,60,41,37,16,46,35,44,21,52,32,23,11,54,26,40,15,34,20,31,10,25,14,19,9,13,8,7,6]
def ajn:List Nat:=[1,10,100,1000,10000,100000,1000000,10000000,100000000,1000000000,10000000000,100000000000,1000000000000,10000000000000,100000000000000,1000000000000000,10000000000000000,100000000000000000,1000000000000000000,10000000000000000000]
def an8:List Nat:=[128,191,160,191,128,159,144,191,128,143,0,0,0,0,0,0,0,0,0,0,0,0,0,0,0,0,0,0,0,0,0,0]
def XV (l:List Nat):Obj→Obj:=ZP ⟨l.map fun n=>Value.int .u8 (Int.ofNat n)⟩
noncomputable def yz (os:Os):World :=
 { World.holding ab os ⟨#[],#[],[]⟩ with heap:=(((((World.holding ab os ⟨#[],#[],[]⟩).heap.modify 4 (XV Pinned.utf8FirstZ)).modify 5 (XV an8)).modify 0 (ZP ⟨ajn.map fun n=>Value.int .u64 (Int.ofNat n)⟩)).modify 2 (XV an6)).modify 3 (XV an7) }
end
end Go.Proofs.YtnboooapeopjoaaGreatDoor
end
