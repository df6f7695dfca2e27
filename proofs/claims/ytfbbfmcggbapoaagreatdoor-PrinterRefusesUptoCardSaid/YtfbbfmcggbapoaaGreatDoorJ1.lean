import Derived.Test.YtfbbfmcggbapoaaGreatDoorE7
import Derived.IntWalk
open Go.Proofs.Tryz renaming prog→aj
open List renaming all_cons→cH,take_add_one→bY,take_append_drop→kT,take_nil→z8
set_option linter.all false
section
namespace Go.Proofs.YtfbbfmcggbapoaaGreatDoor
open Go.Eng
theorem cZ:(∀ (α:Type) (l:List α),l.toArray.toList=l)∧(∀ (α:Type) (a b:List α),List.append a b=a++b)∧(∀ (α:Type) (a:α) (l r:List α),(a :: l)++r=a :: (l++r))∧(∀ (α:Type) (l:List α),[]++l=l) ∧
    (∀ (α:Type) (n:Nat) (a:α) (l:List α),(a :: l).take (n+1)=a :: l.take n)∧(∀ (α:Type) (l:List α),l.take 0=[])∧(∀ (α:Type) (n:Nat) (a:α) (l:List α),(a :: l).drop (n+1)=l.drop n)∧(∀ (α:Type) (l:List α),l.drop 0=l) :=
  ⟨fun _ _=>rfl,fun _ _ _=>rfl,fun _ _ _ _=>rfl,fun _ _=>rfl,fun _ _ _ _=>rfl,fun _ _=>rfl,fun _ _ _ _=>rfl,fun _ _=>rfl⟩
def rp {α:Type}:Nat→α→List α→List α
  | 0,_,l=>l
  | n+1,a,l=>a :: rp n a l
theorem ji:(∀ (α:Type) (n:Nat) (a:α) (l:List α),rp (n+1) a l=a :: rp n a l)∧(∀ (α:Type) (a:α) (l:List α),rp 0 a l=l) ∧
    (∀ (ws:List (Nat×V)) (i:Nat) (cs:List Nat),ui ws i cs []=[])∧(∀ (ws:List (Nat×V)) (i:Nat) (v:V) (l:List V),ui ws i [] (v :: l)=v :: l) ∧
    (∀ (ws:List (Nat×V)) (i:Nat) (cs:List Nat) (v:V) (l:List V),ui ws i (0 :: cs) (v :: l)=v :: ui ws (i+1) cs l)∧(∀ (ws:List (Nat×V)) (i:Nat) (cs:List Nat) (v:V) (l:List V),ui ws i (1 :: cs) (v :: l) = .undef :: ui ws (i+1) cs l) ∧
    (∀ (ws:List (Nat×V)) (i:Nat) (cs:List Nat) (v:V) (l:List V),ui ws i (2 :: cs) (v :: l)=Ci i v ws :: ui ws (i+1) cs l)∧(∀ (t:Nat) (b:V),Ci t b []=b)∧(∀ (t k:Nat) (b v:V) (ws:List (Nat×V)),Ci t b ((k,v) :: ws)=if k=t then v else Ci t b ws) ∧
    (∀ (α:Type) (h:Decidable True) (a b:α),@ite α True h a b=a)∧(∀ (α:Type) (h:Decidable False) (a b:α),@ite α False h a b=b) :=
  ⟨fun _ _ _ _=>rfl,fun _ _ _=>rfl,fun _ _ cs=>by cases cs <;> rfl,fun _ _ _ _=>rfl,fun _ _ _ _ _=>rfl,fun _ _ _ _ _=>rfl,fun _ _ _ _ _=>rfl,fun _ _=>rfl,fun _ _ _ _ _=>rfl,fun _ _ _ _=>if_pos trivial,fun _ _ _ _=>if_neg id⟩
theorem ef:(∀ (α:Type) (h:Decidable True) (a b:α),@ite α True h a b=a)∧(∀ (α:Type) (h:Decidable False) (a b:α),@ite α False h a b=b)∧((false=true)=False)∧(∀ (α:Type) (p:α→Bool) (a:α) (l:List α),(a :: l).all p=(p a&&l.all p)) ∧
    (∀ (α:Type) (p:α→Bool),([]:List α).all p=true)∧(∀ h:Decidable True,@decide True h=true)∧(∀ b:Bool,(b&&b)=b)∧(∀ (α:Type) (n:Nat) (a:α) (l:List α),(a :: l).take (n+1)=a :: l.take n)∧(∀ (α:Type) (l:List α),l.take 0=[])∧(∀ (α:Type) (n:Nat),([]:List α).take n=[])∧(∀ (α:Type) (n:Nat) (a:α) (l:List α),rp (n+1) a l=a :: rp n a l)∧(∀ (α:Type) (a:α) (l:List α),rp 0 a l=l) :=
  ⟨fun _ _ _ _=>if_pos trivial,fun _ _ _ _=>if_neg id,by simp,fun _ _ _ _=>cH,fun _ _=>rfl,fun _=>decide_eq_true trivial,fun b=>by cases b <;> rfl,fun _ _ _ _=>rfl,fun _ _=>rfl,fun _ _=>z8,fun _ _ _ _=>rfl,fun _ _ _=>rfl⟩
end Go.Proofs.YtfbbfmcggbapoaaGreatDoor
end
section
namespace Go.Proofs.YtfbbfmcggbapoaaGreatDoor
open Go.Eng
theorem kr.{u} {α:Sort u} {a b:α} (h:a=b:=by kernel_rfl):a=b:=h
variable [bB]
abbrev Cn (f:FuncId) (a:List V) (v:V):Prop:=∃ r_,(fun w=>w=v) r_∧b8 aj f a r_
theorem dK {k:Tk} {m:Bool} {P:Program} {f:FuncId} {vs vs':List V} {keys:List (Nat×Nat)} {st:St} {dst:Option Tmp} {Q:St→Prop} {v:V} (hr:∃ x,(fun w=>w=v) x∧b8 P f vs' x) (h:Q ({ st with mem:=iG st.mem keys v }.put dst v)):sD k m P f vs (some vs') keys st dst Q:=cF hr (by rintro _ rfl;exact h)
theorem y6 {k:Tk} {P:Program} {f:FuncId} {vs':List V} {st:St} {dst:Option Tmp} {Q:St→Prop} {v:V} (hr:∃ x,(fun w=>w=v) x∧b8 P f vs' x) (h:Q (st.put dst v)):Qj k P f (some vs') st dst Q:=cG hr (by rintro _ rfl;exact h)
theorem Cj {k:Tk} {m:Bool} {P:Program} {f:FuncId} {vs:List V} {o:Option (List V)} {keys:List (Nat×Nat)} {st:St} {dst:Option Tmp} {Q:St→Prop} {v:V} (hr:∃ x,(fun w=>w=v) x∧bI P f vs st.mem x st.mem) (h:Q (st.put dst v)):sD k m P f vs o keys st dst Q:=cS hr (by rintro _ rfl;exact h)
end Go.Proofs.YtfbbfmcggbapoaaGreatDoor
end
section
namespace Go.Proofs.YtfbbfmcggbapoaaGreatDoor
open Go.Eng
variable [bB]
set_option maxHeartbeats 4000000
set_option maxRecDepth 100000
abbrev str (s:ByteArray):V:=.sc (.string s)
abbrev num (n:Int):V:=.sc (.int .i64 n)
abbrev bl (b:Bool):V:=.sc (.bool b)
def aS {α:Type} (g:α→Nat):List α→Nat
 | []=>0
 | a :: r=>g a+aS g r
theorem fC {α:Type} (g:α→Nat) (a b:List α):aS g (a++b)=aS g a+aS g b:=by induction a with|nil=>simp [aS]|cons x r ih=>simp [aS,ih];omega
theorem jT {α β:Type} (g:β→Nat) (h:α→β) (a:List α):aS g (a.map h)=aS (fun x=>g (h x)) a:=by induction a with|nil=>rfl|cons x r ih=>simp [aS,ih]
theorem eZ {α:Type} (g:α→Nat) {l:List α} {i:Nat} {a:α} (h:l[i]?=some a):aS g (l.take (i+1))=aS g (l.take i)+g a:=by rw [bY,h,fC];simp [aS]
theorem gp {α:Type} (g:α→Nat) (l:List α) (i:Nat):aS g (l.take i)≤aS g l:=by
 conv=>rhs;rw [← kT i l,fC]
 omega
theorem b9 {α:Type} (g:α→Nat) {l:List α} {i:Nat} {a:α} (h:l[i]?=some a):g a≤aS g l:=by have:=eZ g h;have:=gp g l (i+1);omega
theorem ch {α:Type} (g:α→Nat) (hg:∀ a,0<g a) (l:List α):l.length≤aS g l:=by induction l with|nil=>simp|cons a r ih=>simp [aS];have:=hg a;omega
theorem UN (n:Nat) (h:n≤1152921504606846976):IntKind.i64.wrap (n:Int)=n:=by rw [IntWalk.i64_in _ (by omega)]
theorem ph (a b:Nat) (h:a+b≤1152921504606846976):IntKind.i64.wrap ((a:Int)+(b:Int))=((a+b:Nat):Int):=by rw [IntWalk.i64_in _ (by omega)];omega
theorem bm (a:Nat) (h:a+1≤1152921504606846976):IntKind.i64.wrap ((a:Int)+1)=((a+1:Nat):Int):=by rw [IntWalk.i64_in _ (by omega)];omega
theorem ld (x:Int) (n:Nat) (h:x=n) (hb:n≤1152921504606846976):IntKind.i64.wrap x=(n:Int):=by rw [h,UN n hb]
theorem iR {a b:Nat} (h:a<b):decide ((a:Int)<(b:Int))=true:=by simpa using h
theorem iS {a b:Nat} (h:¬ a<b):decide ((a:Int)<(b:Int))=false:=by simpa using h
theorem eC {s:ByteArray} {i:Nat} (h:i<s.size):∃ c,s[i]?=some c:=⟨s[i],by simp [getElem?_pos,h]⟩
end Go.Proofs.YtfbbfmcggbapoaaGreatDoor
end
