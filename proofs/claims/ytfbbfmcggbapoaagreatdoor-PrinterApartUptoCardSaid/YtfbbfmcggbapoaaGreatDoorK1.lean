import Derived.Test.YtfbbfmcggbapoaaGreatDoorE7
import Derived.IntWalk
open Go.Proofs.Tryz renaming prog→aj
open List renaming all_cons→cI,take_add_one→bH,take_append_drop→nB,take_nil→atS
set_option linter.all false
section
namespace Go.Proofs.YtfbbfmcggbapoaaGreatDoor
open Go.Eng
theorem cP:(∀ (α:Type) (l:List α),l.toArray.toList=l)∧(∀ (α:Type) (a b:List α),List.append a b=a++b)∧(∀ (α:Type) (a:α) (l r:List α),(a :: l)++r=a :: (l++r))∧(∀ (α:Type) (l:List α),[]++l=l) ∧
    (∀ (α:Type) (n:Nat) (a:α) (l:List α),(a :: l).take (n+1)=a :: l.take n)∧(∀ (α:Type) (l:List α),l.take 0=[])∧(∀ (α:Type) (n:Nat) (a:α) (l:List α),(a :: l).drop (n+1)=l.drop n)∧(∀ (α:Type) (l:List α),l.drop 0=l) :=
  ⟨fun _ _=>rfl,fun _ _ _=>rfl,fun _ _ _ _=>rfl,fun _ _=>rfl,fun _ _ _ _=>rfl,fun _ _=>rfl,fun _ _ _ _=>rfl,fun _ _=>rfl⟩
def rp {α:Type}:Nat→α→List α→List α
  | 0,_,l=>l
  | n+1,a,l=>a :: rp n a l
theorem zq:(∀ (α:Type) (n:Nat) (a:α) (l:List α),rp (n+1) a l=a :: rp n a l)∧(∀ (α:Type) (a:α) (l:List α),rp 0 a l=l) ∧
    (∀ (ws:List (Nat×V)) (i:Nat) (cs:List Nat),vL ws i cs []=[])∧(∀ (ws:List (Nat×V)) (i:Nat) (v:V) (l:List V),vL ws i [] (v :: l)=v :: l) ∧
    (∀ (ws:List (Nat×V)) (i:Nat) (cs:List Nat) (v:V) (l:List V),vL ws i (0 :: cs) (v :: l)=v :: vL ws (i+1) cs l)∧(∀ (ws:List (Nat×V)) (i:Nat) (cs:List Nat) (v:V) (l:List V),vL ws i (1 :: cs) (v :: l) = .undef :: vL ws (i+1) cs l) ∧
    (∀ (ws:List (Nat×V)) (i:Nat) (cs:List Nat) (v:V) (l:List V),vL ws i (2 :: cs) (v :: l)=Ii i v ws :: vL ws (i+1) cs l)∧(∀ (t:Nat) (b:V),Ii t b []=b)∧(∀ (t k:Nat) (b v:V) (ws:List (Nat×V)),Ii t b ((k,v) :: ws)=if k=t then v else Ii t b ws) ∧
    (∀ (α:Type) (h:Decidable True) (a b:α),@ite α True h a b=a)∧(∀ (α:Type) (h:Decidable False) (a b:α),@ite α False h a b=b) :=
  ⟨fun _ _ _ _=>rfl,fun _ _ _=>rfl,fun _ _ cs=>by cases cs <;> rfl,fun _ _ _ _=>rfl,fun _ _ _ _ _=>rfl,fun _ _ _ _ _=>rfl,fun _ _ _ _ _=>rfl,fun _ _=>rfl,fun _ _ _ _ _=>rfl,fun _ _ _ _=>if_pos trivial,fun _ _ _ _=>if_neg id⟩
theorem gG:(∀ (α:Type) (h:Decidable True) (a b:α),@ite α True h a b=a)∧(∀ (α:Type) (h:Decidable False) (a b:α),@ite α False h a b=b)∧((false=true)=False)∧(∀ (α:Type) (p:α→Bool) (a:α) (l:List α),(a :: l).all p=(p a&&l.all p)) ∧
    (∀ (α:Type) (p:α→Bool),([]:List α).all p=true)∧(∀ h:Decidable True,@decide True h=true)∧(∀ b:Bool,(b&&b)=b)∧(∀ (α:Type) (n:Nat) (a:α) (l:List α),(a :: l).take (n+1)=a :: l.take n)∧(∀ (α:Type) (l:List α),l.take 0=[])∧(∀ (α:Type) (n:Nat),([]:List α).take n=[])∧(∀ (α:Type) (n:Nat) (a:α) (l:List α),rp (n+1) a l=a :: rp n a l)∧(∀ (α:Type) (a:α) (l:List α),rp 0 a l=l) :=
  ⟨fun _ _ _ _=>if_pos trivial,fun _ _ _ _=>if_neg id,by simp,fun _ _ _ _=>cI,fun _ _=>rfl,fun _=>decide_eq_true trivial,fun b=>by cases b <;> rfl,fun _ _ _ _=>rfl,fun _ _=>rfl,fun _ _=>atS,fun _ _ _ _=>rfl,fun _ _ _=>rfl⟩
end Go.Proofs.YtfbbfmcggbapoaaGreatDoor
end
section
namespace Go.Proofs.YtfbbfmcggbapoaaGreatDoor
open Go.Eng
theorem kr.{u} {α:Sort u} {a b:α} (h:a=b:=by kernel_rfl):a=b:=h
variable [ba]
abbrev Cn (f:FuncId) (a:List V) (v:V):Prop:=∃ r_,(fun w=>w=v) r_∧bJ aj f a r_
theorem ep {k:Tk} {m:Bool} {P:Program} {f:FuncId} {vs vs':List V} {keys:List (Nat×Nat)} {st:St} {dst:Option Tmp} {Q:St→Prop} {v:V} (hr:∃ x,(fun w=>w=v) x∧bJ P f vs' x) (h:Q ({ st with mem:=gQ st.mem keys v }.put dst v)):si k m P f vs (some vs') keys st dst Q:=cF hr (by rintro _ rfl;exact h)
theorem Jn {k:Tk} {P:Program} {f:FuncId} {vs':List V} {st:St} {dst:Option Tmp} {Q:St→Prop} {v:V} (hr:∃ x,(fun w=>w=v) x∧bJ P f vs' x) (h:Q (st.put dst v)):QE k P f (some vs') st dst Q:=cG hr (by rintro _ rfl;exact h)
theorem BX {k:Tk} {m:Bool} {P:Program} {f:FuncId} {vs:List V} {o:Option (List V)} {keys:List (Nat×Nat)} {st:St} {dst:Option Tmp} {Q:St→Prop} {v:V} (hr:∃ x,(fun w=>w=v) x∧bo P f vs st.mem x st.mem) (h:Q (st.put dst v)):si k m P f vs o keys st dst Q:=cS hr (by rintro _ rfl;exact h)
end Go.Proofs.YtfbbfmcggbapoaaGreatDoor
end
section
namespace Go.Proofs.YtfbbfmcggbapoaaGreatDoor
open Go.Eng
variable [ba]
set_option maxHeartbeats 4000000
set_option maxRecDepth 100000
abbrev str (s:ByteArray):V:=.sc (.string s)
abbrev num (n:Int):V:=.sc (.int .i64 n)
abbrev bl (b:Bool):V:=.sc (.bool b)
def aM {α:Type} (g:α→Nat):List α→Nat
 | []=>0
 | a :: r=>g a+aM g r
theorem eW {α:Type} (g:α→Nat) (a b:List α):aM g (a++b)=aM g a+aM g b:=by induction a with|nil=>simp [aM]|cons x r ih=>simp [aM,ih];omega
theorem js {α β:Type} (g:β→Nat) (h:α→β) (a:List α):aM g (a.map h)=aM (fun x=>g (h x)) a:=by induction a with|nil=>rfl|cons x r ih=>simp [aM,ih]
theorem fb {α:Type} (g:α→Nat) {l:List α} {i:Nat} {a:α} (h:l[i]?=some a):aM g (l.take (i+1))=aM g (l.take i)+g a:=by rw [bH,h,eW];simp [aM]
theorem gb {α:Type} (g:α→Nat) (l:List α) (i:Nat):aM g (l.take i)≤aM g l:=by
 conv=>rhs;rw [← nB i l,eW]
 omega
theorem bU {α:Type} (g:α→Nat) {l:List α} {i:Nat} {a:α} (h:l[i]?=some a):g a≤aM g l:=by have:=fb g h;have:=gb g l (i+1);omega
theorem ct {α:Type} (g:α→Nat) (hg:∀ a,0<g a) (l:List α):l.length≤aM g l:=by induction l with|nil=>simp|cons a r ih=>simp [aM];have:=hg a;omega
theorem Vi (n:Nat) (h:n≤1152921504606846976):IntKind.i64.wrap (n:Int)=n:=by rw [IntWalk.i64_in _ (by omega)]
theorem oy (a b:Nat) (h:a+b≤1152921504606846976):IntKind.i64.wrap ((a:Int)+(b:Int))=((a+b:Nat):Int):=by rw [IntWalk.i64_in _ (by omega)];omega
theorem bN (a:Nat) (h:a+1≤1152921504606846976):IntKind.i64.wrap ((a:Int)+1)=((a+1:Nat):Int):=by rw [IntWalk.i64_in _ (by omega)];omega
theorem lE (x:Int) (n:Nat) (h:x=n) (hb:n≤1152921504606846976):IntKind.i64.wrap x=(n:Int):=by rw [h,Vi n hb]
theorem gx {a b:Nat} (h:a<b):decide ((a:Int)<(b:Int))=true:=by simpa using h
theorem gy {a b:Nat} (h:¬ a<b):decide ((a:Int)<(b:Int))=false:=by simpa using h
theorem ji {s:ByteArray} {i:Nat} (h:i<s.size):∃ c,s[i]?=some c:=⟨s[i],by simp [getElem?_pos,h]⟩
end Go.Proofs.YtfbbfmcggbapoaaGreatDoor
end
