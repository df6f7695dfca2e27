import Derived.Test.YtfbbfmcggbapoaaGreatDoorE7
open Go.Proofs.Tryz renaming prog->ak
open List renaming all_cons->cI,getElem?_eq_getElem->bf,take_add_one->cg,take_append_drop->ji,take_nil->avD
open Nat renaming le_refl->aA
set_option linter.all false
section
namespace Go.Proofs.YtfbbfmcggbapoaaGreatDoor
open Go.Eng
theorem dD:(∀ (α:Type) (l:List α),l.toArray.toList=l)/\(∀ (α:Type) (a b:List α),List.append a b=a++b)/\(∀ (α:Type) (a:α) (l r:List α),(a :: l)++r=a :: (l++r))/\(∀ (α:Type) (l:List α),[]++l=l) /\
    (∀ (α:Type) (n:Nat) (a:α) (l:List α),(a :: l).take (n+1)=a :: l.take n)/\(∀ (α:Type) (l:List α),l.take 0=[])/\(∀ (α:Type) (n:Nat) (a:α) (l:List α),(a :: l).drop (n+1)=l.drop n)/\(∀ (α:Type) (l:List α),l.drop 0=l) :=
  ⟨fun _ _=>rfl,fun _ _ _=>rfl,fun _ _ _ _=>rfl,fun _ _=>rfl,fun _ _ _ _=>rfl,fun _ _=>rfl,fun _ _ _ _=>rfl,fun _ _=>rfl⟩
def rp {α:Type}:Nat->α->List α->List α
  | 0,_,l=>l
  | n+1,a,l=>a :: rp n a l
theorem V8:(∀ (α:Type) (n:Nat) (a:α) (l:List α),rp (n+1) a l=a :: rp n a l)/\(∀ (α:Type) (a:α) (l:List α),rp 0 a l=l) /\
    (∀ (ws:List (Nat×V)) (i:Nat) (cs:List Nat),xk ws i cs []=[])/\(∀ (ws:List (Nat×V)) (i:Nat) (v:V) (l:List V),xk ws i [] (v :: l)=v :: l) /\
    (∀ (ws:List (Nat×V)) (i:Nat) (cs:List Nat) (v:V) (l:List V),xk ws i (0 :: cs) (v :: l)=v :: xk ws (i+1) cs l)/\(∀ (ws:List (Nat×V)) (i:Nat) (cs:List Nat) (v:V) (l:List V),xk ws i (1 :: cs) (v :: l) = .undef :: xk ws (i+1) cs l) /\
    (∀ (ws:List (Nat×V)) (i:Nat) (cs:List Nat) (v:V) (l:List V),xk ws i (2 :: cs) (v :: l)=KK i v ws :: xk ws (i+1) cs l)/\(∀ (t:Nat) (b:V),KK t b []=b)/\(∀ (t k:Nat) (b v:V) (ws:List (Nat×V)),KK t b ((k,v) :: ws)=if k=t then v else KK t b ws) /\
    (∀ (α:Type) (h:Decidable True) (a b:α),@ite α True h a b=a)/\(∀ (α:Type) (h:Decidable False) (a b:α),@ite α False h a b=b) :=
  ⟨fun _ _ _ _=>rfl,fun _ _ _=>rfl,fun _ _ cs=>by cases cs <;> rfl,fun _ _ _ _=>rfl,fun _ _ _ _ _=>rfl,fun _ _ _ _ _=>rfl,fun _ _ _ _ _=>rfl,fun _ _=>rfl,fun _ _ _ _ _=>rfl,fun _ _ _ _=>gH trivial,fun _ _ _ _=>g5 id⟩
theorem lP:(∀ (α:Type) (h:Decidable True) (a b:α),@ite α True h a b=a)/\(∀ (α:Type) (h:Decidable False) (a b:α),@ite α False h a b=b)/\((false=true)=False)/\(∀ (α:Type) (p:α->Bool) (a:α) (l:List α),(a :: l).all p=(p a&&l.all p)) /\
    (∀ (α:Type) (p:α->Bool),([]:List α).all p=true)/\(∀ h:Decidable True,@decide True h=true)/\(∀ b:Bool,(b&&b)=b)/\(∀ (α:Type) (n:Nat) (a:α) (l:List α),(a :: l).take (n+1)=a :: l.take n)/\(∀ (α:Type) (l:List α),l.take 0=[])/\(∀ (α:Type) (n:Nat),([]:List α).take n=[])/\(∀ (α:Type) (n:Nat) (a:α) (l:List α),rp (n+1) a l=a :: rp n a l)/\(∀ (α:Type) (a:α) (l:List α),rp 0 a l=l) :=
  ⟨fun _ _ _ _=>gH trivial,fun _ _ _ _=>g5 id,by simp,fun _ _ _ _=>cI,fun _ _=>rfl,fun _=>decide_eq_true trivial,fun b=>by cases b <;> rfl,fun _ _ _ _=>rfl,fun _ _=>rfl,fun _ _=>avD,fun _ _ _ _=>rfl,fun _ _ _=>rfl⟩
end Go.Proofs.YtfbbfmcggbapoaaGreatDoor
end
section
namespace Go.Proofs.YtfbbfmcggbapoaaGreatDoor
open Go.Eng
theorem kr.{u} {α:Sort u} {a b:α} (h:a=b:=by kernel_rfl):a=b:=h
variable [bJ]
abbrev Cn (f:FuncId) (a:List V) (v:V):Prop:=∃ r_,(fun w=>w=v) r_/\dz ak f a r_
theorem cL {k:Tk} {m:Bool} {P:g7} {f:FuncId} {vs vs':List V} {keys:List (Nat×Nat)} {st:St} {dst:Option Tmp} {Q:St->Prop} {v:V} (hr:∃ x,(fun w=>w=v) x/\dz P f vs' x) (h:Q ({ st with mem:=iP st.mem keys v }.put dst v)):tq k m P f vs (some vs') keys st dst Q:=cF hr (by rintro _ rfl;exact h)
theorem lQ {k:Tk} {P:g7} {f:FuncId} {vs':List V} {st:St} {dst:Option Tmp} {Q:St->Prop} {v:V} (hr:∃ x,(fun w=>w=v) x/\dz P f vs' x) (h:Q (st.put dst v)):SK k P f (some vs') st dst Q:=cG hr (by rintro _ rfl;exact h)
theorem Dx {k:Tk} {m:Bool} {P:g7} {f:FuncId} {vs:List V} {o:Option (List V)} {keys:List (Nat×Nat)} {st:St} {dst:Option Tmp} {Q:St->Prop} {v:V} (hr:∃ x,(fun w=>w=v) x/\bK P f vs st.mem x st.mem) (h:Q (st.put dst v)):tq k m P f vs o keys st dst Q:=cS hr (by rintro _ rfl;exact h)
end Go.Proofs.YtfbbfmcggbapoaaGreatDoor
end
section
namespace Go.Proofs.YtfbbfmcggbapoaaGreatDoor
open Go.Eng
theorem gA {α:Type} {l:List α} {i:Nat} (h:i<l.length):∃ k,l[i]?=some k:=⟨_,bf h⟩
theorem gB {α:Type} (l:List α) (i:Nat) (h:i<l.length):∃ k,l[i]?=some k:=⟨_,bf h⟩
theorem gz.{u} {α:Sort u} (a:α):∃ b,a=b:=⟨a,rfl⟩
theorem gy.{u} {α:Sort u} (a:α):∃ b,b=a:=⟨a,rfl⟩
theorem jq {i n:Nat} (h:decide ((i:Int)<(n:Int))=true):i<n:=by simpa using h
theorem ki {i n:Nat} (h:decide ((i:Int)<(n:Int))=false):¬ i<n:=by simpa using h
variable [bJ]
theorem zY (a:g6) (ty:g9):u3 ak (Builtin.len_ #[9] ty) [.sc (.string a)]=some (.sc (.int .i64 (a.size:Int))):=Wz (P:=ak) (tt:=tt) (T:=9) a Tryz.underlying9 ty
theorem cM {f:FuncId} {fn:Func} {body:Code} {args:List V} (sp:List Nat) (n:Nat) (rs:List ResultVar) {R:V->Prop} (hf:ak.funcs[f]?=some fn) (fM:∀ (xs:Array Value) (w:World),(callFunc f xs).run ak w = .ok (.enter f xs) w) (h:∀ K:V->Prop,(∀ v,R v->K v)->vc false ak tt sp none 0 body ⟨W n (Ar 0 args),[]⟩ (acC K tt rs.toArray)) (hb:fn.body=some body:=by rfl) (hn:fn.ntmps=n/\fn.results=rs.toArray/\args.length<=n:=by exact⟨rfl,rfl,by simp⟩):∃ r,R r/\dz ak f args r:=vfn tt_ok sp n rs hf hb fM hn h
theorem ma {f:FuncId} {fn:Func} {body:Code} {args:List V} (sp:List Nat) (n:Nat) (rs:List ResultVar) {R:V->List bx->Prop} {mem:List bx} (k:Nat) (hf:ak.funcs[f]?=some fn) (fM:∀ (xs:Array Value) (w:World),(callFunc f xs).run ak w = .ok (.enter f xs) w) (h:∀ K:V->List bx->Prop,(∀ v m',R v m'->K v m')->vc false ak tt sp none mem.length body ⟨W n (Ar 0 args),mem⟩ (SQ K k tt rs.toArray)) (hk:mem.length<=k:=by exact aA _) (hb:fn.body=some body:=by rfl) (hn:fn.ntmps=n/\fn.results=rs.toArray/\args.length<=n:=by exact⟨rfl,rfl,by simp⟩):∃ r m',R r m'/\bK ak f args mem r m':=vfw tt_ok sp n rs k hk hf hb fM hn h
theorem jt {f:FuncId} {fn:Func} {body:Code} {args:List V} {r:V} (hf:ak.funcs[f]?=some fn) (fM:∀ (xs:Array Value) (w:World),(callFunc f xs).run ak w = .ok (.enter f xs) w) (h:fc ak none 0 body (dj fn args []) fun ex st'=>(ex = .ret\/ex = .normal)/\rm tt fn.results st'=some r) (hb:fn.body=some body:=by rfl):dz ak f args r:=Na tt_ok hf hb fM h
theorem bY {ρ:Option Nat} {n0:Nat} {st:St} {Q:Exit->St->Prop} {id:Nat} {ops:Array Oper} {y:Code} (h:∀ K:St->Prop,(∀ st',fc ak ρ n0 y st' Q->K st')->eV ak tt ops ops.toList st K):fc ak ρ n0 (.seq (.region id ops false) y) st Q:=s5 tt_ok h
theorem jR {ρ:Option Nat} {n0:Nat} {st:St} {Q:Exit->St->Prop} {id:Nat} {ops:Array Oper} (h:∀ K:St->Prop,(∀ st',Q .normal st'->K st')->eV ak tt ops ops.toList st K):fc ak ρ n0 (.region id ops false) st Q:=r6 tt_ok h
theorem lr {k_:Tk} {m:Bool} {ρ:Option Nat} {n0:Nat} {st:St} {Q:Exit->St->Prop} (plan:List Pl) (j:Nat) {id:Nat} {ops:Array Oper} (h:Gw ak tt ops.toList st.mem.length ops.toList plan { st with mem:=st.mem++List.replicate j .hole } (Q .normal)) (iq:xe ops plan=true:=by kernel_rfl):X k_ m ak ρ n0 (.region id ops true) st Q:=agT tt_ok nI plan j iq h
end Go.Proofs.YtfbbfmcggbapoaaGreatDoor
end
section
namespace Go.Proofs.YtfbbfmcggbapoaaGreatDoor
open Go.Eng
variable [bJ]
set_option maxHeartbeats 4000000
set_option maxRecDepth 100000
abbrev str (s:g6):V:=.sc (.string s)
abbrev num (n:Int):V:=.sc (.int .i64 n)
abbrev bl (b:Bool):V:=.sc (.bool b)
def aU {α:Type} (g:α->Nat):List α->Nat
 | []=>0
 | a :: r=>g a+aU g r
theorem fO {α:Type} (g:α->Nat) (a b:List α):aU g (a++b)=aU g a+aU g b:=by induction a with|nil=>simp [aU]|cons x r ih=>simp [aU,ih];omega
theorem ju {α β:Type} (g:β->Nat) (h:α->β) (a:List α):aU g (a.map h)=aU (fun x=>g (h x)) a:=by induction a with|nil=>rfl|cons x r ih=>simp [aU,ih]
theorem fX {α:Type} (g:α->Nat) {l:List α} {i:Nat} {a:α} (h:l[i]?=some a):aU g (l.take (i+1))=aU g (l.take i)+g a:=by rw [cg,h,fO];simp [aU]
theorem gG {α:Type} (g:α->Nat) (l:List α) (i:Nat):aU g (l.take i)<=aU g l:=by
 conv=>rhs;rw [<- ji i l,fO]
 omega
theorem bX {α:Type} (g:α->Nat) {l:List α} {i:Nat} {a:α} (h:l[i]?=some a):g a<=aU g l:=by have:=fX g h;have:=gG g l (i+1);omega
theorem bB {α:Type} (g:α->Nat) (hg:∀ a,0<g a) (l:List α):l.length<=aU g l:=by induction l with|nil=>simp|cons a r ih=>simp [aU];have:=hg a;omega
theorem Xm (n:Nat) (h:n<=1152921504606846976):IntKind.i64.wrap (n:Int)=n:=by rw [IntWalk.i64_in _ (by omega)]
theorem gf (a b:Nat) (h:a+b<=1152921504606846976):IntKind.i64.wrap ((a:Int)+(b:Int))=((a+b:Nat):Int):=by rw [IntWalk.i64_in _ (by omega)];omega
theorem bj (a:Nat) (h:a+1<=1152921504606846976):IntKind.i64.wrap ((a:Int)+1)=((a+1:Nat):Int):=by rw [IntWalk.i64_in _ (by omega)];omega
theorem Ci (x:Int) (n:Nat) (h:x=n) (hb:n<=1152921504606846976):IntKind.i64.wrap x=(n:Int):=by rw [h,Xm n hb]
theorem kD {a b:Nat} (h:a<b):decide ((a:Int)<(b:Int))=true:=by simpa using h
theorem kE {a b:Nat} (h:¬ a<b):decide ((a:Int)<(b:Int))=false:=by simpa using h
theorem er {s:g6} {i:Nat} (h:i<s.size):∃ c,s[i]?=some c:=⟨s[i],by simp [getElem?_pos,h]⟩
end Go.Proofs.YtfbbfmcggbapoaaGreatDoor
end
