import Derived.Test.YtnboooapeopjoaaGreatDoorJ11
import Derived.Test.YtnboooapeopjoaaGreatDoorCards
import Derived.Test.YtnboooapeopjoaaGreatDoorTie
import Derived.Lib.LaidTab
open Go.Proofs.Tryz renaming prog→ab
open List renaming append_nil→ou
set_option linter.all false
section
namespace Go.Proofs.YtnboooapeopjoaaGreatDoor
open Go.Eng
variable [a6]
set_option maxHeartbeats 4000000
set_option maxRecDepth 100000
theorem Qt (hG:a6.g=some 1):bG ab 7 [] (bl true):=cJ (bA (adX hG) (bA (Yv hG) (bA (ael hG) bo))) (b7 hG) 3000 (by kernel_rfl)
end Go.Proofs.YtnboooapeopjoaaGreatDoor
end

section
namespace Go.Proofs.YtnboooapeopjoaaGreatDoor.lawScopeAliases
open Go.Eng
set_option maxRecDepth 100000
open Go.ChangeShapes Go.WideShapes Go.ChangeAt Go.RowKit
theorem contract (H:Type) (enc:TypeId×Value→H) (W:World) (args:Array Value) (ds gs:List (DataW H)) (before:List MemPlace) (base:Nat)
  (gh:∀ (j:Nat) t v,Tryz.f5.params[j]?=some t→args[j]?=some v→Value.okWide ab W .any base t v)
  (hW:DataW.Whole enc ab Tryz.f5.params.toList Rows.scopeAliasesSpec.vars false W args.toList ds gs before) (hb:Rows.uptoBulkAll (ds++gs)≤1048576) (hS:W.ShapedOpen ab) :
  Calls ab 5 args W fun e W'=>∃ v,e = .returned v∧Rows.scopeAliasesSpec.post enc ab Tryz.f5 false true false false W args v W':=by
 have hW':=hW;have bX:=hW.lt;obtain⟨p,q,hA0,hV,rfl,hfz,lu⟩:=hW;have hA:DataW.TrodAll enc ab W 0 (fun _=>true) true Tryz.f5.params.toList args.toList ds p:=hA0;rw [Tryz.params5] at hA;obtain⟨v0,QO,d0,ds0,p0,q0,mU,rfl,rfl,h0,r0⟩:=trodAll_cons hA;obtain⟨rfl,rfl,rfl⟩:=trodAll_nil r0;obtain rfl:args = #[v0]:=by cases args; simp_all
 obtain⟨rfl,rfl⟩:=trodVars_none hV;rw [Tryz.params5] at gh;clear gh;clear hA0 hA r0 mU hV;simp only [ou] at hW' bX;simp only [dO,ou,Rows.uptoBulkAll] at hb;have h0':=h0;obtain⟨f0,h0⟩:=h0;have main:Calls ab 5 #[v0] W fun e W'=>e = .returned (.bool true)∧Below W.heap.size W W':=by obtain⟨n,hn⟩:=Lj hS;(have go:∀ (G:a6) (hG:G.g=some 1) (hg:@Gl G W.cell?),Calls ab 5 #[v0] W fun e W'=>e = .returned (.bool true)∧Below W.heap.size W W':=fun G hG hg=>by have haw:bG ab 7 [] (bl true):=Qt hG;obtain⟨x0,Iu,b0⟩:=abR (F:=W.cell?) (hg:=hg) rfl h0;(obtain⟨rr,AU,hc⟩:∃ r_,r_=bl true∧bG ab 5 [gN x0] r_:=by obtain⟨r_,h1,h2⟩:=lawAliases_all hG haw x0 (by omega);exact⟨r_,h1,h2⟩);subst AU;refine (hc.2 W.cell? hg W #[v0] (fun _ _ h=>h) ?_).mono fun o W' h=>?_;(·exact .cons (S3 (by simp [gN]) Iu) (.nil _));obtain⟨F',x,rfl,-,-,-,⟨DT,hx⟩,Tl⟩:=h;obtain rfl:=fY hx;exact⟨rfl,Tl⟩);exact go (gOf n) rfl (@Gl.mk (gOf n) _ (fun g hg=>by cases hg; exact hn) (fun g cs j x h=>by cases h))
 refine main.mono fun e W' ⟨he,Tl⟩=>?_;subst he;have aem:laidOutB ab=true:=by kernel_rfl
 refine⟨_,rfl,Lk (pa:=p0++[]) (pv:=[]) hW' (fun _ _ _=>trodAll_cons_mk (shut_bool Tryz.underlying4 _) trodAll_mk0) (fun sp QC=>?_) (fun _ _=>rfl) (by simp)
  Tl (ok_one (by kernel_rfl) rfl (okWide_bool_mk Tryz.underlying4 _))⟩
 refine trodAll_cons_mk (WideElems.Trod_stays aem (by kernel_rfl) (of_decide_eq_true (by kernel_rfl)) h0' (fun x hx=>Tl.same (bX x (by simp [hx]))) (fun x hx=>QC x (by simp [hx])))
  trodAll_mk0
end Go.Proofs.YtnboooapeopjoaaGreatDoor.lawScopeAliases
end

section
namespace Go.Proofs.YtnboooapeopjoaaGreatDoor
set_option maxHeartbeats 4000000
set_option maxRecDepth 100000
section
open Go.ChangeShapes Go.WideShapes Go.ChangeAt Go.RowKit
theorem own:ownKnob ab.godebug=none:=by kernel_rfl
def UZ (cs:Array Value):Obj→Obj
 | .cells _ t frozen=>.cells cs t frozen
 | o=>o
def aiu:List Nat:=[0,1,28,2,29,14,24,3,30,22,20,15,25,17,4,8,31,27,13,23,21,19,16,7,26,12,18,6,11,5,10,9]
def aiv:List Nat:=[0,1,56,2,57,49,28,3,61,58,42,50,38,29,17,4,62,47,59,36,45,43,51,22,53,39,33,30,24,18,12,5,63,55,48,27,60,41,37,16,46,35,44,21,52,32,23,11,54,26,40,15,34,20,31,10,25,14,19,9,13,8,7,6]
def aen:List Nat:=[1,10,100,1000,10000,100000,1000000,10000000,100000000,1000000000,10000000000,100000000000,1000000000000,10000000000000,100000000000000,1000000000000000,10000000000000000,100000000000000000,1000000000000000000,10000000000000000000]
def aiw:List Nat:=[128,191,160,191,128,159,144,191,128,143,0,0,0,0,0,0,0,0,0,0,0,0,0,0,0,0,0,0,0,0,0,0]
def Tm (l:List Nat):Obj→Obj:=UZ ⟨l.map fun n=>Value.int .u8 (Int.ofNat n)⟩
noncomputable def wj (os:Os):World :=
 { World.holding ab os ⟨#[],#[],[]⟩ with heap:=(((((World.holding ab os ⟨#[],#[],[]⟩).heap.modify 4 (Tm Pinned.utf8FirstZ)).modify 5 (Tm aiw)).modify 0 (UZ ⟨aen.map fun n=>Value.int .u64 (Int.ofNat n)⟩)).modify 2 (Tm aiu)).modify 3 (Tm aiv) }
end
end Go.Proofs.YtnboooapeopjoaaGreatDoor
end
