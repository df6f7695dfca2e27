import Derived.Test.YtnboooapeopjoaaGreatDoorE7
import Derived.IntWalk
open List renaming all_cons→cA,take_add_one→bC,take_append_drop→u4,take_nil→anz
set_option linter.all false
section
namespace Go.Proofs.YtnboooapeopjoaaGreatDoor
open Go.Eng
set_option maxHeartbeats 4000000
set_option maxRecDepth 100000
theorem dO:(∀ (α:Type) (l:List α),l.toArray.toList=l)∧(∀ (α:Type) (a b:List α),List.append a b=a++b)∧(∀ (α:Type) (a:α) (l r:List α),(a :: l)++r=a :: (l++r))∧(∀ (α:Type) (l:List α),[]++l=l) ∧
    (∀ (α:Type) (n:Nat) (a:α) (l:List α),(a :: l).take (n+1)=a :: l.take n)∧(∀ (α:Type) (l:List α),l.take 0=[])∧(∀ (α:Type) (n:Nat) (a:α) (l:List α),(a :: l).drop (n+1)=l.drop n)∧(∀ (α:Type) (l:List α),l.drop 0=l) :=
  ⟨fun _ _=>rfl,fun _ _ _=>rfl,fun _ _ _ _=>rfl,fun _ _=>rfl,fun _ _ _ _=>rfl,fun _ _=>rfl,fun _ _ _ _=>rfl,fun _ _=>rfl⟩
def rp {α:Type}:Nat→α→List α→List α
  | 0,_,l=>l
  | n+1,a,l=>a :: rp n a l
theorem QQ:(∀ (α:Type) (n:Nat) (a:α) (l:List α),rp (n+1) a l=a :: rp n a l)∧(∀ (α:Type) (a:α) (l:List α),rp 0 a l=l) ∧
    (∀ (ws:List (Nat×V)) (i:Nat) (cs:List Nat),ua ws i cs []=[])∧(∀ (ws:List (Nat×V)) (i:Nat) (v:V) (l:List V),ua ws i [] (v :: l)=v :: l) ∧
    (∀ (ws:List (Nat×V)) (i:Nat) (cs:List Nat) (v:V) (l:List V),ua ws i (0 :: cs) (v :: l)=v :: ua ws (i+1) cs l)∧(∀ (ws:List (Nat×V)) (i:Nat) (cs:List Nat) (v:V) (l:List V),ua ws i (1 :: cs) (v :: l) = .undef :: ua ws (i+1) cs l) ∧
    (∀ (ws:List (Nat×V)) (i:Nat) (cs:List Nat) (v:V) (l:List V),ua ws i (2 :: cs) (v :: l)=Gg i v ws :: ua ws (i+1) cs l)∧(∀ (t:Nat) (b:V),Gg t b []=b)∧(∀ (t k:Nat) (b v:V) (ws:List (Nat×V)),Gg t b ((k,v) :: ws)=if k=t then v else Gg t b ws) ∧
    (∀ (α:Type) (h:Decidable True) (a b:α),@ite α True h a b=a)∧(∀ (α:Type) (h:Decidable False) (a b:α),@ite α False h a b=b) :=
  ⟨fun _ _ _ _=>rfl,fun _ _ _=>rfl,fun _ _ cs=>by cases cs <;> rfl,fun _ _ _ _=>rfl,fun _ _ _ _ _=>rfl,fun _ _ _ _ _=>rfl,fun _ _ _ _ _=>rfl,fun _ _=>rfl,fun _ _ _ _ _=>rfl,fun _ _ _ _=>if_pos trivial,fun _ _ _ _=>if_neg id⟩
theorem ix:(∀ (α:Type) (h:Decidable True) (a b:α),@ite α True h a b=a)∧(∀ (α:Type) (h:Decidable False) (a b:α),@ite α False h a b=b)∧((false=true)=False)∧(∀ (α:Type) (p:α→Bool) (a:α) (l:List α),(a :: l).all p=(p a&&l.all p)) ∧
    (∀ (α:Type) (p:α→Bool),([]:List α).all p=true)∧(∀ h:Decidable True,@decide True h=true)∧(∀ b:Bool,(b&&b)=b)∧(∀ (α:Type) (n:Nat) (a:α) (l:List α),(a :: l).take (n+1)=a :: l.take n)∧(∀ (α:Type) (l:List α),l.take 0=[])∧(∀ (α:Type) (n:Nat),([]:List α).take n=[])∧(∀ (α:Type) (n:Nat) (a:α) (l:List α),rp (n+1) a l=a :: rp n a l)∧(∀ (α:Type) (a:α) (l:List α),rp 0 a l=l) :=
  ⟨fun _ _ _ _=>if_pos trivial,fun _ _ _ _=>if_neg id,by simp,fun _ _ _ _=>cA,fun _ _=>rfl,fun _=>decide_eq_true trivial,fun b=>by cases b <;> rfl,fun _ _ _ _=>rfl,fun _ _=>rfl,fun _ _=>anz,fun _ _ _ _=>rfl,fun _ _ _=>rfl⟩
end Go.Proofs.YtnboooapeopjoaaGreatDoor
end

section
namespace Go.Proofs.YtnboooapeopjoaaGreatDoor
open Go.Eng
variable [a6]
set_option maxHeartbeats 4000000
set_option maxRecDepth 100000
abbrev str (s:ByteArray):V:=.sc (.string s)
abbrev num (n:Int):V:=.sc (.int .i64 n)
abbrev bl (b:Bool):V:=.sc (.bool b)
def aZ {α:Type} (g:α→Nat):List α→Nat
 | []=>0
 | a :: r=>g a+aZ g r
theorem j2 {α:Type} (g:α→Nat) (a b:List α):aZ g (a++b)=aZ g a+aZ g b:=by induction a with | nil=>simp [aZ] | cons x r ih=>simp [aZ,ih]; omega
theorem ez {α β:Type} (g:β→Nat) (h:α→β) (a:List α):aZ g (a.map h)=aZ (fun x=>g (h x)) a:=by induction a with | nil=>rfl | cons x r ih=>simp [aZ,ih]
theorem fc {α:Type} (g:α→Nat) {l:List α} {i:Nat} {a:α} (h:l[i]?=some a):aZ g (l.take (i+1))=aZ g (l.take i)+g a:=by rw [bC,h,j2]; simp [aZ]
theorem gj {α:Type} (g:α→Nat) (l:List α) (i:Nat):aZ g (l.take i)≤aZ g l:=by
 conv=>rhs; rw [← u4 i l,j2]
 omega
theorem cb {α:Type} (g:α→Nat) {l:List α} {i:Nat} {a:α} (h:l[i]?=some a):g a≤aZ g l:=by have:=fc g h; have:=gj g l (i+1); omega
theorem ca {α:Type} (g:α→Nat) (hg:∀ a,0<g a) (l:List α):l.length≤aZ g l:=by induction l with | nil=>simp | cons a r ih=>simp [aZ]; have:=hg a; omega
theorem RY (n:Nat) (h:n≤1152921504606846976):IntKind.i64.wrap (n:Int)=n:=by rw [IntWalk.i64_in _ (by omega)]
theorem n4 (a b:Nat) (h:a+b≤1152921504606846976):IntKind.i64.wrap ((a:Int)+(b:Int))=((a+b:Nat):Int):=by rw [IntWalk.i64_in _ (by omega)]; omega
theorem bB (a:Nat) (h:a+1≤1152921504606846976):IntKind.i64.wrap ((a:Int)+1)=((a+1:Nat):Int):=by rw [IntWalk.i64_in _ (by omega)]; omega
theorem lf (x:Int) (n:Nat) (h:x=n) (hb:n≤1152921504606846976):IntKind.i64.wrap x=(n:Int):=by rw [h,RY n hb]
theorem gX {a b:Nat} (h:a<b):decide ((a:Int)<(b:Int))=true:=by simpa using h
theorem gY {a b:Nat} (h:¬ a<b):decide ((a:Int)<(b:Int))=false:=by simpa using h
theorem jf {s:ByteArray} {i:Nat} (h:i<s.size):∃ c,s[i]?=some c:=⟨s[i],by simp [getElem?_pos,h]⟩
end Go.Proofs.YtnboooapeopjoaaGreatDoor
end
