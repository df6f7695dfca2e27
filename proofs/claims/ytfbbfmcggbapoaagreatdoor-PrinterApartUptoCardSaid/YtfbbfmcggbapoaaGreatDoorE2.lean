import Derived.Test.YtfbbfmcggbapoaaGreatDoorE1
import Derived.LoopNIn
import Derived.RangeFuncLeaves
import Derived.RangeFuncCalls
open Array renaming foldl_toList→at6,getElem?_eq_getElem→bP,mapM_eq_mapM_toList→aul,toList_append→y4,toList_inj→aiS,toList_zipIdx→auO
open List renaming all_eq_true→aN,any_eq_true→tP,append_nil→ah,flatMap_cons→ab,flatMap_nil→ag,foldl_nil→atH,getElem?_cons_zero→aF,getElem?_eq_getElem→au,getElem?_eq_some_iff→aA,getElem?_map→aq,getElem?_set→bR,length_eq_zero_iff→cb,mapM_cons→atU,map_cons→bm,mem_append→eA,mem_cons→b8,mem_of_getElem?→aE,mem_singleton→eX,not_mem_nil→ef
open Nat renaming add_mul→iJ,le_refl→ay,lt_of_lt_of_le→qJ
open Option renaming map_some→b9
open Option.some renaming injEq→aB
open Prod.mk renaming injEq→dn
set_option linter.all false
section
namespace Go.Eng
variable [ba]
open Go.RowKit (Below)
def eN (mem:List bf):V→Option V
  | .undef=>some .undef
  | .sc v=>some (ph (.sc v))
  | .slice rows=>some (.slice rows)
  | .full rows=>some (.slice rows)
  | .eY cs=>some (.eY cs)
  | .gn=>some .gn
  | .ms b v s l=>match mem[b]? with
    | some (.rows v' _ rs)=>if v'=v∧s+l≤rs.length then some (.slice ((rs.drop s).take l)) else none
    | some (.rv v' _ rs)=>if v'=v∧s+l≤rs.length then some (.slice ((rs.drop s).take l)) else none
    | _=>none
  | .ia f [] []=>some (.sc (.func f #[] #[]))
  | _=>none
def gP (mem:List bf):List V→Option (List V)
  | []=>some []
  | c :: r=>match eN mem c with
    | some c'=>match gP mem r with|some r'=>some (c' :: r')|none=>none
    | none=>none
def l0 (mem:List bf):V→Option V
  | .agg cs=>match gP mem cs with|some l=>some (.agg l)|none=>none
  | v=>eN mem v
def ij (mem:List bf):List V→Option (List V)
  | []=>some []
  | c :: r=>match l0 mem c with
    | some c'=>match ij mem r with|some r'=>some (c' :: r')|none=>none
    | none=>none
def Iz (mem:List bf):V→Option V
  | .dR vs=>match ij mem vs with|some l=>some (.dR l)|none=>none
  | v=>l0 mem v
def j5:V→List (Nat×Nat)
  | .ms b v _ _=>[(b,v)]
  | _=>[]
def gq:V→List (Nat×Nat)
  | .agg cs=>cs.flatMap j5
  | v=>j5 v
def refs:V→List (Nat×Nat)
  | .dR vs=>vs.flatMap gq
  | v=>gq v
def Env.pX (E:Env) (w:World) (keys:List (Nat×Nat)):Env :=
  { F:=fun ad=>match E.F ad with
      | some x=>some x
      | none=>if keys.any (fun k=>match E.cn k.1 k.2 with|some (g,_,_)=>g==ad.block|none=>false) then w.cell? ad else none
    cn:=E.cn
    gl:=E.gl.mono fun ad x h=>by simp only [h] }
theorem Env.w9 (E:Env) (w:World) (keys:List (Nat×Nat)):E.le (E.pX w keys):=⟨fun ad x h=>by simp [Env.pX,h],fun _ _ _ h=>h⟩
theorem Env.KO {E:Env} {w:World} {keys:List (Nat×Nat)} (hF:∀ ad x,E.F ad=some x→w.cell? ad=some x) {ad:Addr} {x:Value} (h:(E.pX w keys).F ad=some x):w.cell? ad=some x:=by
  unfold Env.pX at h;dsimp only at h;split at h;·rename_i y hy;cases h;exact hF _ _ hy
  ·split at h;(·exact h);·cases h
theorem Env.DX {E:Env} {w:World} {keys:List (Nat×Nat)} {ad:Addr} {x:Value} (h:(E.pX w keys).F ad=some x):E.F ad=some x∨∃ k∈keys,∃ e c,E.cn k.1 k.2=some (ad.block,e,c):=by
  unfold Env.pX at h;dsimp only at h;split at h;·rename_i y hy;cases h;exact .inl hy
  ·split at h;(·rename_i IA;obtain⟨k,hk,hm⟩:=tP.1 IA;split at hm;(·rename_i g e c hb;simp only [beq_iff_eq] at hm;subst hm;exact .inr ⟨k,hk,e,c,hb⟩);·cases hm);·cases h
theorem Env.YW {E:Env} {w:World} {keys:List (Nat×Nat)} {k v g e c:Nat} (hk:(k,v)∈keys) (hb:E.cn k v=some (g,e,c)) {o:Nat} {x:Value} (hn:E.F ⟨g,o,none⟩=none) (hx:w.cell? ⟨g,o,none⟩=some x):(E.pX w keys).F ⟨g,o,none⟩=some x:=by have:keys.any (fun k=>match E.cn k.1 k.2 with|some (g',_,_)=>g'==g|none=>false)=true:=tP.2 ⟨(k,v),hk,by simp [hb]⟩;unfold Env.pX;dsimp only;rw [hn];dsimp only;rw [if_pos this];exact hx
theorem FP {E:Env} {w:World} {a:Act} {st:St} (hs:c5 E w a st) {keys:List (Nat×Nat)} {k v g e c:Nat} (hk:(k,v)∈keys) (hb:E.cn k v=some (g,e,c)) {B:bf} (hm:st.mem[k]?=some B) {rs:List V} {e':Nat}
    (hB:B = .rows v e' rs∨B = .rv v e' rs):e'=e∧rs.length≤c∧lY E.pure e rs (fun o=>(E.pX w keys).F ⟨g,o,none⟩):=by
  rcases hB with rfl|rfl
  ·(rcases hs.mem k _ hm with ⟨-,hn⟩|⟨g',T,xs,c',fR,hh,iw,hl,hr,hf⟩);(·rw [hb] at hn;cases hn);·rw [hb] at fR;cases fR;refine⟨rfl,hl,fun i row hi=>?_⟩;obtain⟨h1,h2⟩:=hr i row hi;exact⟨h1,fun j cc hj=>let ⟨x,hx,h⟩:=h2 j cc hj;⟨x,Env.YW hk hb (hf _) (by rw [nd hh];exact hx),h⟩⟩
  ·(rcases hs.mem k _ hm with ⟨-,hn⟩|⟨g',c',fR,hl,hr⟩);(·rw [hb] at hn;cases hn);rw [hb] at fR;cases fR;refine⟨rfl,hl,fun i row hi=>?_⟩;obtain⟨h1,h2⟩:=hr i row hi;exact⟨h1,fun j cc hj=>let ⟨x,hx,h⟩:=h2 j cc hj;⟨x,(Env.w9 E w keys).F _ _ hx,h⟩⟩
theorem oN {E:Env} {w:World} {a:Act} {st:St} (hs:c5 E w a st) {keys:List (Nat×Nat)} {v v':V} {x:Value} (hr:cT E v x) (h:eN st.mem v=some v') (hk:∀ k∈j5 v,k∈keys):cT (E.pX w keys).pure v' x:=by
  have hle:=Env.kC (Env.w9 E w keys)
  have WK:∀ {b v s l:Nat} {B:bf} {rs:List V} {e':Nat},cT E (.ms b v s l) x→(b,v)∈keys→st.mem[b]?=some B→(B = .rows v e' rs∨B = .rv v e' rs)→s+l≤rs.length→cT (E.pX w keys).pure (.slice ((rs.drop s).take l)) x:=by
    intro b v s l B rs e' hr fg hm hB hl;have hlen:((rs.drop s).take l).length=l:=by simp;omega
    rcases DS hr with ⟨rfl,rfl⟩|⟨g,e,c,aa,cap,rfl,hb,nn,-,hlc⟩
    ·rw [show (rs.drop s).take 0=[] from by simp];exact .slice _ [] none 0 0 default (fun _ _=>default) (by simp) (by simp) (by simp) (by simp) (by simp) (by simp)
    · obtain⟨rfl,KJ,hrk⟩:=FP hs fg hb hm hB
      have kV:∀ (i:Nat) (row:V) (j:Nat) (cc:V),((rs.drop s).take l)[i]?=some row→row.cells[j]?=some cc→∃ y,(E.pX w keys).F ⟨g,(s+i)*e'+j,none⟩=some y∧y.oneCell'=true∧cT E.pure cc y:=fun i row j cc hi hj =>
        (hrk _ _ (y7 hi)).2 j cc hj
      let xf:Nat→Nat→Value:=fun i j=>((E.pX w keys).F ⟨g,(s+i)*e'+j,none⟩).getD default;have Fv:cT (E.pX w keys).pure (.slice ((rs.drop s).take l)) (.slice aa ((rs.drop s).take l).length cap):=by refine .slice _ _ _ _ e' ⟨g,s*e',none⟩ xf (fun dy=>nn ?_) (by rw [hlen];exact hlc.1) (fun i row hi=>(hrk _ _ (y7 hi)).1) (fun i row j cc hi hj=>?_) (fun i row j cc hi hj=>?_) fun i row j cc hi hj=>?_;(·have:((rs.drop s).take l).length≠0:=fun h0=>dy (cb.1 h0);omega);(·obtain⟨y,hy,-⟩:=kV i row j cc hi hj;(have YR:s*e'+(i*e'+j)=(s+i)*e'+j:=by rw [iJ];omega);rw [add_lit,YR];show (E.pX w keys).F _=some (xf i j);simp [xf,hy]);(·obtain⟨y,hy,h1,-⟩:=kV i row j cc hi hj;simp [xf,hy,h1]);·obtain⟨y,hy,-,h2⟩:=kV i row j cc hi hj;(have:xf i j=y:=by simp [xf,hy]);rw [this];exact h2.mono hle
      rw [hlen] at Fv;exact Fv
  unfold eN at h;split at h;·simp only [aB] at h;subst h;exact .undef _ _
  ·simp only [aB] at h;subst h;exact vf (by rw [eT hr];exact .sc _ _)
  ·simp only [aB] at h;subst h;cases hr with|slice _ _ a cap uj ad xf ha lR hz hF h1 hR=>exact (cT.slice E.pure _ a cap uj ad xf ha lR hz hF h1 hR).mono hle
  ·simp only [aB] at h;subst h;cases hr with|full _ _ a h =>cases h with|slice _ _ a cap uj ad xf ha lR hz hF h1 hR=>exact (cT.slice E.pure _ a _ uj ad xf ha (ay _) hz hF h1 hR).mono hle
  ·simp only [aB] at h;subst h;cases hr with|eY _ _ ad xf hF hR=>exact (cT.eY E.pure _ ad xf hF hR).mono hle
  ·simp only [aB] at h;subst h;cases hr with|gn=>exact .gn _
  ·rename_i b v s l;have fg:(b,v)∈keys:=hk (b,v) (by simp [j5]);split at h;(·rename_i v' e rs hm;split at h;(·rename_i hl;obtain⟨rfl,hl⟩:=hl;simp only [aB] at h;subst h;exact WK hr fg hm (.inl rfl) hl);·cases h);(·rename_i v' e rs hm;split at h;(·rename_i hl;obtain⟨rfl,hl⟩:=hl;simp only [aB] at h;subst h;exact WK hr fg hm (.inr rfl) hl);·cases h);·cases h
  ·simp only [aB] at h;subst h;cases hr with|ia _ f _ _ xs ys hx hy h1 h2 =>(have e1:xs = #[]:=by simpa using hx.symm);(have e2:ys = #[]:=by simpa using hy.symm);subst e1;subst e2;exact .sc _ _
  ·cases h
theorem rK {E:Env} {w:World} {a:Act} {st:St} (hs:c5 E w a st) {keys:List (Nat×Nat)}:∀ {vs vs':List V} {xs:List Value},cU E vs xs→gP st.mem vs=some vs'→(∀ k∈vs.flatMap j5,k∈keys) →
    cU (E.pX w keys).pure vs' xs
  | [],vs',xs,hr,h,_=>by simp [gP] at h;subst h;rw [hr.of_nil];exact .nil _
  | v :: vs,vs',xs,hr,h,hk=>by
    obtain⟨x,ys,rfl,h1,h2⟩:=hr.of_cons
    simp only [gP] at h
    split at h
    · rename_i c' hc
      split at h
      · rename_i r' za
        simp only [aB] at h;subst h
        exact .cons (oN hs h1 hc fun k lj=>hk k (by simp [lj])) (rK hs h2 za fun k lj=>hk k (by simp at lj ⊢;exact .inr lj))
      · cases h
    · cases h
theorem Ac {E:Env} {w:World} {a:Act} {st:St} (hs:c5 E w a st) {keys:List (Nat×Nat)} {v v':V} {x:Value} (hr:cT E v x) (h:l0 st.mem v=some v') (hk:∀ k∈gq v,k∈keys):cT (E.pX w keys).pure v' x:=by
  unfold l0 at h;split at h;·split at h;(·rename_i cs l hl;simp only [aB] at h;subst h;cases hr with|agg _ _ xs hlen hh =>have:=rK hs (xs:=xs.toList) ⟨by simpa using hlen,fun i c x hc hx=>hh i c x hc (by simpa using hx)⟩ hl (by simpa [gq] using hk);exact .agg _ _ _ (by simpa using this.1) fun i c x hc hx=>this.2 i c x hc (by simpa using hx));·cases h
  ·rename_i dy;refine oN hs hr h fun k lj=>hk k ?_;cases v <;> first|exact lj|exact absurd rfl (dy _)
theorem l6 {E:Env} {w:World} {a:Act} {st:St} (hs:c5 E w a st) {keys:List (Nat×Nat)}:∀ {vs vs':List V} {xs:List Value},cU E vs xs→ij st.mem vs=some vs'→(∀ k∈vs.flatMap gq,k∈keys) →
    cU (E.pX w keys).pure vs' xs
  | [],vs',xs,hr,h,_=>by simp [ij] at h;subst h;rw [hr.of_nil];exact .nil _
  | v :: vs,vs',xs,hr,h,hk=>by
    obtain⟨x,ys,rfl,h1,h2⟩:=hr.of_cons
    simp only [ij] at h
    split at h
    · rename_i c' hc
      split at h
      · rename_i r' za
        simp only [aB] at h;subst h
        exact .cons (Ac hs h1 hc fun k lj=>hk k (by simp [lj])) (l6 hs h2 za fun k lj=>hk k (by simp at lj ⊢;exact .inr lj))
      · cases h
    · cases h
theorem CJ {E:Env} {w:World} {a:Act} {st:St} (hs:c5 E w a st) {keys:List (Nat×Nat)} {v v':V} {x:Value} (hr:cT E v x) (h:Iz st.mem v=some v') (hk:∀ k∈refs v,k∈keys):cT (E.pX w keys).pure v' x:=by
  unfold Iz at h;split at h;·split at h;(·rename_i vs l hl;simp only [aB] at h;subst h;cases hr with|dR _ _ xs hlen hh =>have:=l6 hs (xs:=xs.toList) ⟨by simpa using hlen,fun i c x hc hx=>hh i c x hc (by simpa using hx)⟩ hl (by simpa [refs] using hk);exact .dR _ _ _ (by simpa using this.1) fun i c x hc hx=>this.2 i c x hc (by simpa using hx));·cases h
  ·rename_i dy;refine Ac hs hr h fun k lj=>hk k ?_;cases v <;> first|exact lj|exact absurd rfl (dy _)
def bJ (P:Program) (f:FuncId) (args:List V) (r:V):Prop :=
  (∀ (xs:Array Value) (w:World),(callFunc f xs).run P w = .ok (.enter f xs) w) ∧
  ∀ (F:Addr→Option Value) (hg:Gl F) (w:World) (xs:Array Value),(∀ ad x,F ad=some x→w.cell? ad=some x)→cU ⟨F,fun _ _=>none,hg⟩ args xs.toList →
    Calls P f xs w fun e w'=>∃ F' x,e = .returned x∧(∀ ad y,F ad=some y→F' ad=some y)∧(∀ ad y,F' ad=some y→w'.cell? ad=some y)∧(∀ ad y,F' ad=some y→F ad=some y∨w.heap.size≤ad.block) ∧
      (∃ FQ,cT ⟨F',fun _ _=>none,FQ⟩ r x)∧Below w.heap.size w w'
def FR:V→Bool
  | .undef=>true
  | .sc _=>true
  | .agg cs=>cs.all (fun c=>match c with|.sc _=>true|_=>false)
  | _=>false
def Px:V→Bool
  | .dR vs=>vs.all FR
  | v=>FR v
theorem CK {E E':Env} {v:V} {x:Value} (h:cT E v x) (hf:FR v=true):cT E' v x:=by cases h with|undef=>exact .undef _ _|sc=>exact .sc _ _|agg _ cs xs hl hh =>refine .agg _ _ _ hl fun i c x hc hx=>?_;have h1:=hh i c x hc hx;simp only [FR,aN] at hf;have:=hf c (aE hc);cases c <;> simp at this;rw [eT h1];exact .sc _ _|_=>simp [FR] at hf
theorem MB {E E':Env} {v:V} {x:Value} (h:cT E v x) (hf:Px v=true):cT E' v x:=by
  unfold Px at hf;split at hf;·cases h with|dR _ vs xs hl hh =>refine .dR _ _ _ hl fun i c x hc hx=>CK (hh i c x hc hx) ?_;simp only [aN] at hf;exact hf c (aE hc)
  ·exact CK h hf
def FT (mem:List bf) (k:Nat×Nat):List bf:=match mem[k.1]? with|some (.rows v e rs)=>if v=k.2 then mem.set k.1 (.rv v e rs) else mem|_=>mem
def gu (mem:List bf) (keys:List (Nat×Nat)):List bf:=keys.foldl FT mem
def qP (keys:List (Nat×Nat)) (q:Nat):Option bf→Option bf
  | some (.rows v e rs)=>if (q,v)∈keys then some (.rv v e rs) else some (.rows v e rs)
  | B=>B
theorem Py (mem:List bf) (k:Nat×Nat) (q:Nat):(FT mem k)[q]?=qP [k] q mem[q]?:=by
  obtain⟨k,kv⟩:=k;unfold FT;dsimp only;split;·rename_i v e rs hk;split;(·rename_i hv;subst hv;rw [bR];by_cases hq:k=q;(·subst hq;rw [hk];simp [qP,(aA.1 hk).1]);·rw [if_neg hq];have TW:¬ q=k:=fun e=>hq e.symm;cases hB:mem[q]? with|none=>rfl|some B=>cases B <;> simp [qP,TW]);·rename_i hv;cases hB:mem[q]? with|none=>rfl|some B =>(cases B <;> first|rfl|skip);rename_i v' e' mv;simp only [qP,eX,dn];rw [if_neg];rintro⟨rfl,rfl⟩;rw [hk] at hB;cases hB;exact hv rfl
  ·rename_i hk;cases hB:mem[q]? with|none=>rfl|some B =>(cases B <;> first|rfl|skip);rename_i v e rs;simp only [qP,eX,dn];rw [if_neg];rintro⟨rfl,rfl⟩;exact hk _ _ _ hB
theorem ux (keys:List (Nat×Nat)):∀ (mem:List bf) (q:Nat),(gu mem keys)[q]?=qP keys q mem[q]?:=by induction keys with|nil=>(intro mem q;simp only [gu,atH];cases hB:mem[q]? with|none=>rfl|some B=>cases B <;> simp [qP])|cons k r ih =>intro mem q;show (gu (FT mem k) r)[q]?=_;rw [ih,Py];cases hB:mem[q]? with|none=>rfl|some B =>(cases B <;> first|rfl|skip);rename_i v e rs;simp only [qP,b8,ef,or_false];by_cases hq:(q,v)=k;(·rw [if_pos hq,if_pos (.inl hq)]);·rw [if_neg hq];by_cases hr:(q,v)∈r;(·rw [if_pos (.inr hr)];simp [hr]);·rw [if_neg (fun h=>h.elim hq hr)];simp [hr]
theorem ua (keys:List (Nat×Nat)):∀ (mem:List bf),(gu mem keys).length=mem.length:=by induction keys with|nil=>intro mem;rfl|cons k r ih =>intro mem;show (gu (FT mem k) r).length=_;rw [ih];unfold FT;split;(·split <;> simp);·rfl
def gQ (mem:List bf) (keys:List (Nat×Nat)) (r:V):List bf:=if Px r=true then mem else gu mem keys
theorem MC {mem:List bf} {k:Nat×Nat}:∀ {us Pz:List V},ij mem us=some Pz→k∈us.flatMap gq→∃ B,mem[k.1]?=some B∧B.dI=k.2∧∃ e rs,B = .rows k.2 e rs∨B = .rv k.2 e rs:=by
  have WS:∀ (cs tW:List V),gP mem cs=some tW→k∈cs.flatMap j5→∃ B,mem[k.1]?=some B∧B.dI=k.2∧∃ e rs,B = .rows k.2 e rs∨B = .rv k.2 e rs:=by intro cs;induction cs with|nil=>intro tW _ hm;simp at hm|cons c r ih =>intro tW hp hm;simp only [gP] at hp;split at hp;(·rename_i c' hc;split at hp;(·rename_i r' hr;simp only [ab,eA] at hm;(rcases hm with hm|hm);(·cases c <;> simp only [j5,eX,ef] at hm;subst hm;simp only [eN] at hc;split at hc;(·rename_i h;split at hc;(·rename_i hv;obtain⟨rfl,-⟩:=hv;exact⟨_,h,rfl,_,_,.inl rfl⟩);·cases hc);(·rename_i h;split at hc;(·rename_i hv;obtain⟨rfl,-⟩:=hv;exact⟨_,h,rfl,_,_,.inr rfl⟩);·cases hc);·cases hc);·exact ih _ hr hm);·cases hp);·cases hp
  intro us;induction us with|nil=>intro Pz _ hm;simp at hm|cons c r ih =>intro Pz hp hm;simp only [ij] at hp;split at hp;(·rename_i c' hc;split at hp;(·rename_i r' hr;simp only [ab,eA] at hm;(rcases hm with hm|hm);(·unfold l0 at hc;split at hc;(·split at hc;(·rename_i l hl;exact WS _ _ hl hm);·cases hc);·rename_i dy;refine WS [c] [c'] (by simp [gP,hc]) ?_;simp only [ab,ag,ah];cases c <;> first|exact hm|exact absurd rfl (dy _));·exact ih hr hm);·cases hp);·cases hp
theorem Ad {E:Env} {w w':World} {a:Act} {st:St} (hs:c5 E w a st) {vs vs':List V} (hp:ij st.mem vs=some vs') {F':Addr→Option Value} (FU:∀ ad y,(E.pX w (vs.flatMap gq)).F ad=some y→F' ad=some y)
    (ju:∀ ad y,F' ad=some y→w'.cell? ad=some y) (hF3:∀ ad y,F' ad=some y→(E.pX w (vs.flatMap gq)).F ad=some y∨w.heap.size≤ad.block) (hb:Below w.heap.size w w') :
    ∃ hg,gK E w ⟨F',E.cn,hg⟩ w'∧c5 ⟨F',E.cn,hg⟩ w' a { st with mem:=gu st.mem (vs.flatMap gq) }:=by
  have hg:Gl F':=E.gl.mono fun ad x h=>FU _ _ ((Env.w9 E w _).F _ _ h);refine⟨hg,?_⟩;have hle:E.le ⟨F',E.cn,hg⟩:=⟨fun ad y hy=>FU _ _ ((Env.w9 E w _).F _ _ hy),fun _ _ _ h=>h⟩;have akb:(E.pX w (vs.flatMap gq)).le ⟨F',E.cn,hg⟩:=⟨FU,fun _ _ _ h=>h⟩;have clean:∀ k B,st.mem[k]?=some B→B.held=true→(∀ v e rs,B ≠ .rv v e rs)→(∀ v e rs,B = .rows v e rs→(k,v) ∉ vs.flatMap gq)→∀ g e c o,E.cn k B.dI=some (g,e,c)→E.F ⟨g,o,none⟩=none→F' ⟨g,o,none⟩=none:=by intro k B hB hh hnf Ae g e c o fg hn;cases hy:F' ⟨g,o,none⟩ with|none=>rfl|some y =>exfalso;(rcases hF3 _ y hy with h|h);(·(rcases Env.DX h with h|⟨k',lj,e',c',h⟩);(·rw [hn] at h;cases h);·obtain⟨B',tV,zO,e1,rs1,ON⟩:=MC hp lj;(have Ia:B'.held=true:=by rcases ON with rfl|rfl <;> rfl);rw [← zO] at h;have fe:=hs.apart _ _ _ _ _ _ _ _ _ fg h;subst fe;rw [hB] at tV;cases tV;(rcases ON with rfl|rfl);(·exact Ae _ _ _ rfl (by rw [show (k'.1,k'.2)=k' from rfl];exact lj));·exact hnf _ _ _ rfl);·have:=hs.lt _ _ _ _ _ fg;simp at h;omega
  refine⟨⟨hle,fun k v g e c h=>.inl ⟨k,v,e,c,h⟩,fun ad y hy=>?_,hb.os,hb.tape,hb.output,hb.size,fun b bQ _=>hb.block b bQ⟩,?_⟩;·(rcases hF3 ad y hy with h|h);(·(rcases Env.DX h with h|⟨k,-,e,c,h⟩);(·exact .inl h);·exact .inr (.inr ⟨k.1,k.2,e,c,h⟩));·exact .inr (.inl h)
  ·(have rH:∀ (q:Nat) (B:bf),(gu st.mem (vs.flatMap gq))[q]?=some B→∃ B',st.mem[q]?=some B'∧B.dI=B'.dI∧B.held=B'.held∧(B=B'∧(∀ v e rs,B = .rows v e rs→(q,v) ∉ vs.flatMap gq)∨∃ v e rs,B' = .rows v e rs∧B = .rv v e rs∧(q,v)∈vs.flatMap gq):=fun q B hq=>by rw [ux] at hq;cases KP:st.mem[q]? with|none=>rw [KP] at hq;simp [qP] at hq|some B0 =>rw [KP] at hq;refine⟨B0,rfl,?_⟩;cases B0 with|rows v e rs =>(simp only [qP] at hq;split at hq;(·rename_i oI;cases hq;exact⟨rfl,rfl,.inr ⟨v,e,rs,rfl,rfl,oI⟩⟩);·rename_i oI;cases hq;exact⟨rfl,rfl,.inl ⟨rfl,fun v' e' mv h=>by cases h;exact oI⟩⟩)|_=>cases hq;exact⟨rfl,rfl,.inl ⟨rfl,fun v' e' mv h=>by cases h⟩⟩);refine⟨ju,fun k v g e c h=>qJ (hs.lt _ _ _ _ _ h) hb.size,fun k B hk=>?_,fun k hk v=>hs.top k (by simpa [ua] using hk) v,fun k B hk v hv=>?_,hs.apart,hs.fr.mono hle⟩;(·obtain⟨B',tV,-,-,Aa⟩:=rH k B hk;(rcases Aa with ⟨rfl,Ae⟩|⟨v,e,rs,rfl,rfl,oI⟩);(·have vk:=(hs.mem k B tV).mono (E':=⟨F',E.cn,hg⟩) (w':=w') hle (fun _ h=>h) (fun g e c h=>hb.block _ (hs.lt _ _ _ _ _ h));cases PA:B with|rv v e rs =>(subst PA;(rcases hs.mem k _ tV with h9|⟨g,c,np,hl,hr⟩);(·exact .inl h9);refine .inr ⟨g,c,np,hl,fun i row hi=>?_⟩;obtain⟨h5,h6⟩:=hr i row hi;exact⟨h5,fun j cc hj=>let ⟨x,hx,h7,h8⟩:=h6 j cc hj;⟨x,hle.F _ _ hx,h7,h8.mono (Env.kC hle)⟩⟩)|hole=>subst PA;exact hs.mem k _ tV|dead=>trivial|loop s nc fr params assign body=>subst PA;exact vk (clean k _ tV rfl (fun _ _ _ h=>by cases h) (fun _ _ _ h=>by cases h))|box cs=>subst PA;exact vk (clean k _ tV rfl (fun _ _ _ h=>by cases h) (fun _ _ _ h=>by cases h))|map dx clock=>subst PA;exact vk (clean k _ tV rfl (fun _ _ _ h=>by cases h) (fun _ _ _ h=>by cases h))|jg m since seen last=>subst PA;exact vk (clean k _ tV rfl (fun _ _ _ h=>by cases h) (fun _ _ _ h=>by cases h))|nk T kb v l=>subst PA;exact vk (clean k _ tV rfl (fun _ _ _ h=>by cases h) (fun _ _ _ h=>by cases h))|n7 T v O=>subst PA;exact vk (clean k _ tV rfl (fun _ _ _ h=>by cases h) (fun _ _ _ h=>by cases h))|mX s pos=>subst PA;exact vk (clean k _ tV rfl (fun _ _ _ h=>by cases h) (fun _ _ _ h=>by cases h))|nC=>subst PA;exact vk (clean k _ tV rfl (fun _ _ _ h=>by cases h) (fun _ _ _ h=>by cases h))|rows v e rs=>subst PA;exact vk (clean k _ tV rfl (fun _ _ _ h=>by cases h) Ae));·(rcases hs.mem k _ tV with h9|⟨g,T,cur,c,np,-⟩);(·exact .inl h9);·obtain⟨-,hl,hr⟩:=FP hs oI np tV (.inl rfl);refine .inr ⟨g,c,np,hl,fun i row hi=>?_⟩;obtain⟨h5,h6⟩:=hr i row hi;exact⟨h5,fun j cc hj=>let ⟨x,hx,h7,h8⟩:=h6 j cc hj;⟨x,akb.F _ _ hx,h7,h8.mono (Env.kC hle)⟩⟩);·obtain⟨B',tV,Ib,-,-⟩:=rH k B hk;exact hs.dI k B' tV v (by omega)
theorem c5.freeze {E:Env} {w:World} {a:Act} {st:St} (hs:c5 E w a st) {vs vs':List V} (hp:ij st.mem vs=some vs') :
    ∃ E',c5 E' w a { st with mem:=gu st.mem (vs.flatMap gq) }∧gK E w E' w∧∀ xs,cU E vs xs→cU E' vs' xs:=by obtain⟨hg,h1,h2⟩:=Ad hs hp (F':=(E.pX w (vs.flatMap gq)).F) (fun _ _ h=>h) (fun ad y h=>Env.KO hs.F h) (fun _ _ h=>.inl h) (Below.refl _ w);exact⟨_,h2,h1,fun xs hx=>(l6 hs (keys:=vs.flatMap gq) hx hp fun k hk=>hk).mono ⟨fun _ _ h=>h,fun _ _ _ h=>by cases h⟩⟩
theorem MD {P:Program} {f:FuncId} {E:Env} {w:World} {a:Act} {st:St} (hs:c5 E w a st) {vs vs':List V} {r:V} {xs:Array Value} (hx:cU E vs xs.toList) (hp:ij st.mem vs=some vs') (hf:bJ P f vs' r) :
    Calls P f xs w fun e w'=>∃ E' x,e = .returned x∧gK E w E' w'∧c5 E' w' a { st with mem:=gQ st.mem (vs.flatMap gq) r }∧cT E' r x:=by
  have h1:=l6 hs (keys:=vs.flatMap gq) hx hp fun k hk=>hk;refine (hf.2 (E.pX w (vs.flatMap gq)).F (E.pX w (vs.flatMap gq)).gl w xs (fun ad x h=>Env.KO hs.F h) h1).mono ?_;rintro e w' ⟨F',x,rfl,FU,ju,hF3,⟨FQ,j4⟩,hb⟩;unfold gQ;split;·rename_i ad9;refine⟨E,x,rfl,⟨E.le_refl,fun k v g e c h=>.inl ⟨k,v,e,c,h⟩,fun _ _ h=>.inl h,hb.os,hb.tape,hb.output,hb.size,fun b bQ _=>hb.block b bQ⟩,?_,MB j4 ad9⟩;refine⟨fun ad y hy=>?_,fun k v g e c h=>qJ (hs.lt _ _ _ _ _ h) hb.size,fun k B hk=>?_,hs.top,hs.dI,hs.apart,hs.fr⟩;(·rw [hb.cell (World.block_lt_of_cell? w ad (hs.F ad y hy))];exact hs.F ad y hy);·exact (hs.mem k B hk).mono E.le_refl (fun _ h=>h) (fun g e c h=>hb.block _ (hs.lt _ _ _ _ _ h)) fun _ _ _ _ _ h=>h
  ·obtain⟨hg,e1,s1⟩:=Ad hs hp FU ju hF3 hb;exact⟨_,x,rfl,e1,s1,j4.mono ⟨fun _ _ h=>h,fun _ _ _ h=>by simp at h⟩⟩
end Go.Eng
end
section
namespace Go.Eng
variable [ba]
open Go.RowKit (Below)
def bo (P:Program) (f:FuncId) (args:List V) (mem:List bf) (r:V) (bI:List bf):Prop :=
 (∀ (xs:Array Value) (w:World),(callFunc f xs).run P w = .ok (.enter f xs) w) ∧
 ∀ (E:Env) (w:World) (xs:Array Value),c5 E w { tmps := #[],defers:=[] } { fr:=[],mem:=mem }→cU E args xs.toList →
  Calls P f xs w fun e w'=>∃ E' x,e = .returned x∧gK E w E' w'∧c5 E' w' { tmps := #[],defers:=[] } { fr:=[],mem:=bI }∧cT E' r x
def jh (P:Program) (f:FuncId) (args:List V) (mem:List bf) (R:V→List bf→Prop):Prop :=
 (∀ (xs:Array Value) (w:World),(callFunc f xs).run P w = .ok (.enter f xs) w) ∧
 ∀ (E:Env) (w:World) (xs:Array Value),c5 E w { tmps := #[],defers:=[] } { fr:=[],mem:=mem }→cU E args xs.toList →
  Calls P f xs w fun e w'=>∃ E' x r bI,e = .returned x∧R r bI∧gK E w E' w'∧c5 E' w' { tmps := #[],defers:=[] } { fr:=[],mem:=bI }∧cT E' r x
theorem jh.det {P:Program} {f:FuncId} {args:List V} {mem:List bf} {r:V} {bI:List bf} (h:jh P f args mem fun r' m'=>r'=r∧m'=bI):bo P f args mem r bI :=
 ⟨h.1,fun E w xs hs hx=>(h.2 E w xs hs hx).mono fun e w' ⟨E',x,r',m',h1,⟨h2,h3⟩,h4,h5,h6⟩=>by subst h2;subst h3;exact⟨E',x,h1,h4,h5,h6⟩⟩
theorem bo.rel {P:Program} {f:FuncId} {args:List V} {mem:List bf} {r:V} {bI:List bf} (h:bo P f args mem r bI):jh P f args mem fun r' m'=>r'=r∧m'=bI :=
 ⟨h.1,fun E w xs hs hx=>(h.2 E w xs hs hx).mono fun e w' ⟨E',x,h1,h4,h5,h6⟩=>⟨E',x,_,_,h1,⟨rfl,rfl⟩,h4,h5,h6⟩⟩
theorem jh.mono {P:Program} {f:FuncId} {args:List V} {mem:List bf} {R R':V→List bf→Prop} (h:jh P f args mem R) (hR:∀ r m,R r m→R' r m):jh P f args mem R' :=
 ⟨h.1,fun E w xs hs hx=>(h.2 E w xs hs hx).mono fun e w' ⟨E',x,r',m',h1,h2,h4⟩=>⟨E',x,r',m',h1,hR _ _ h2,h4⟩⟩
theorem c5.bare {E:Env} {w:World} {a:Act} {st:St} (hs:c5 E w a st):c5 E w { tmps := #[],defers:=[] } { fr:=[],mem:=st.mem } :=
 ⟨hs.F,hs.lt,hs.mem,hs.top,hs.dI,hs.apart,.nil _⟩
theorem c5.FV {E E':Env} {w w':World} {a:Act} {st:St} {bI:List bf} (hs:c5 E w a st) (h:c5 E' w' { tmps := #[],defers:=[] } { fr:=[],mem:=bI }) (hle:E.le E'):c5 E' w' a { st with mem:=bI } :=
 ⟨h.F,h.lt,h.mem,h.top,h.dI,h.apart,hs.fr.mono hle⟩
def c6 (fv:V) (args:List V):Option (FuncId×List V) :=
 match fv with
 | .sc (.func (.func g) first cap)=>some (g,first.toList.map V.sc++args++cap.toList.map V.sc)
 | .ia (.func g) first cap=>some (g,first++args++cap)
 | _=>none
def rL (P:Program) (f:FuncId) (vs:List V) (r:V):Prop :=
 ∀ (E:Env) (w:World) (xs:Array Value),(∀ ad x,E.F ad=some x→w.cell? ad=some x)→cU E vs xs.toList→∃ x,(callFunc f xs).run P w = .ok (.value x) w∧cT E r x
def YX (P:Program) (f:FuncId) (vs:List V):Option V :=
 match oK vs with
 | some l=>match dv P (callFunc f l.toArray) with|some (.value v)=>some (kf v)|_=>none
 | none=>none
theorem Ur {P:Program} {f:FuncId} {vs:List V} {r:V} (h:YX P f vs=some r):rL P f vs r:=fun E w xs hF hx=>by
 unfold YX at h;split at h;·rename_i l hl;have:=qc hx hl;split at h;(·rename_i v hv;cases h;exact⟨v,fY _ (by rw [← this] at hv;simpa using hv) w,kn E v⟩);cases h
 cases h
def x8 (P:Program) (f:FuncId) (vs:List V) (st:St) (dst:Option Tmp) (Q:St→Prop):Prop :=
 (∃ vs' r,ij st.mem vs=some vs'∧bJ P f vs' r∧Q ({ st with mem:=gQ st.mem (vs.flatMap gq) r }.put dst r)) ∨
 (∃ r bI,bo P f vs st.mem r bI∧Q ({ st with mem:=bI }.put dst r)) ∨
 (∃ R,jh P f vs st.mem R∧∀ r bI,R r bI→Q ({ st with mem:=bI }.put dst r)) ∨
 (∃ r,rL P f vs r∧Q (st.put dst r))
def Ih (P:Program) (k:Nat) (vs:List V) (mem:List bf) (b:Bool) (bI:List bf):Prop :=
 ∀ (E:Env) (w:World) (xs:Array Value) (l e c:Nat),c5 E w { tmps := #[],defers:=[] } { fr:=[],mem:=mem }→cU E vs xs.toList→E.cn k 0=some (l,e,c) →
  ∃ fn tmps assign body,(Instr.yield l xs).run P w = .ok (.round l fn tmps assign body) w∧RoundIn Fence.wide 0 P l fn tmps assign body w fun e w'=>∃ E',e = .returned (.bool b)∧gK E w E' w' ∧
   c5 E' w' { tmps := #[],defers:=[] } { fr:=[],mem:=bI }
def ME (P:Program) (k:Nat) (vs:List V) (mem:List bf) (R:Bool→List bf→Prop):Prop :=
 ∀ (E:Env) (w:World) (xs:Array Value) (l e c:Nat),c5 E w { tmps := #[],defers:=[] } { fr:=[],mem:=mem }→cU E vs xs.toList→E.cn k 0=some (l,e,c) →
  ∃ fn tmps assign body,(Instr.yield l xs).run P w = .ok (.round l fn tmps assign body) w∧RoundIn Fence.wide 0 P l fn tmps assign body w fun e w'=>∃ E' b bI,e = .returned (.bool b)∧R b bI∧gK E w E' w' ∧
   c5 E' w' { tmps := #[],defers:=[] } { fr:=[],mem:=bI }
theorem ME.det {P:Program} {k:Nat} {vs:List V} {mem bI:List bf} {b:Bool} (h:ME P k vs mem fun b' m'=>b'=b∧m'=bI):Ih P k vs mem b bI:=fun E w xs l e c hs hx hb=>by obtain⟨fn,tmps,assign,body,h1,h2⟩:=h E w xs l e c hs hx hb;exact⟨fn,tmps,assign,body,h1,h2.mono fun e w' ⟨E',b',m',h3,⟨h4,h5⟩,h6,h7⟩=>by subst h4;subst h5;exact⟨E',h3,h6,h7⟩⟩
def vl (bA:List (Nat×Nat)) (ev:Operand→V):List (Nat×Operand)→List V→Option (List V)
 | [],cs=>some cs
 | (i,x) :: r,cs=>match bA[i]? with
  | some p=>match lr (ev x) with
   | some new=>if new.length=p.2∧p.1+p.2≤cs.length then vl bA ev r (j1 cs p.1 new) else none
   | none=>none
  | none=>none
def mw (ev:Operand→V):List (Nat×Operand)→Option (List (Nat×Value))
 | []=>some []
 | (i,x) :: r=>match ev x with
  | .sc v=>match mw ev r with|some l=>some ((i,v) :: l)|none=>none
  | _=>none
def xb (P:Program) (T:TypeId) (l:List (Nat×Value)):Option V:=match dv P (Instr.build T l.toArray) with
 | some (.agg cs)=>some (.agg (cs.toList.map V.sc))
 | _=>none
def mL (P:Program) (tt:Table) (T:TypeId) (parts:List (Nat×Operand)) (ev:Operand→V):Option V :=
 match tt T with
 | some i=>if i.bA≠[] then (match vl i.bA ev parts (i.zero.map V.sc) with|some cs=>some (.agg cs)|none=>none) else
  match mw ev parts with|some l=>xb P T l|none=>none
 | none=>none
theorem rM {E:Env} {st:St} {a:Act} (fK:∀ x,cT E (st.eval x) (a.eval x)):∀ {ps:List (Nat×Operand)} {l:List (Nat×Value)},mw st.eval ps=some l→(ps.map fun p=>(p.1,a.eval p.2))=l
 | [],l,h=>by cases h;rfl
 | (i,x) :: r,l,h=>by
  simp only [mw] at h
  split at h
  ·rename_i v hv
   split at h
   ·rename_i l' hl
    cases h
    have hx:=fK x
    rw [hv] at hx
    have:a.eval x=v:=by cases hx;rfl
    simp only [bm,this,rM fK hl]
   cases h
  cases h
def rN (tt:Table) (T:TypeId):V→Option Nat
 | .slice rows=>match jz tt T with|some _=>some rows.length|none=>none
 | .ms _ _ _ l=>match jz tt T with|some _=>some l|none=>none
 | _=>none
def oO (tt:Table) (op:BinOp) (T:TypeId) (x y:V):Option Nat :=
 match op,y with
 | .eql,.sc (.slice none 0 0)=>rN tt T x
 | .neq,.sc (.slice none 0 0)=>rN tt T x
 | _,_=>none
def qh (op:BinOp) (b:Bool):Bool:=match op with|.neq=>!b|_=>b
theorem uy {P:Program} {tt:Table} (ht:TT P tt) {T e:TypeId} (he:jz tt T=some e) (w:World) (xo yo:Operand) {op:BinOp} (jv:op = .eql∨op = .neq) (a:Option Addr) (l c:Nat) :
  (do eqGuard op T xo yo (.slice a l c) (.slice none 0 0);binOp op T (.slice a l c) (.slice none 0 0):Sem Value).run P w = .ok (.bool (qh op a.isNone)) w:=by
 unfold jz at he;split at he;·rename_i i hi;obtain⟨d,hd,-,uZ,-⟩:=ht.desc T i hi;obtain rfl:=uZ e he;(have heq:(Op.equal T (.slice a l c) (.slice none 0 0)).run P w = .ok a.isNone w:=by show (Op.equalIn (9999+1) T (.slice a l c) (.slice none 0 0)).run P w=_;rw [Op.equalIn];simp only [Sem.run_bind,aZ hd,Result.andThen_ok];cases a <;> rfl);(have hg:(eqGuard op T xo yo (.slice a l c) (.slice none 0 0)).run P w = .ok () w:=by rcases jv with rfl|rfl <;> rfl);rw [Sem.run_bind,hg,Result.andThen_ok];(rcases jv with rfl|rfl);(·show (do pure (Value.bool (← Op.equal T (.slice a l c) (.slice none 0 0))):Sem Value).run P w=_;rw [Sem.run_bind,heq];rfl);show (do pure (Value.bool (!(← Op.equal T (.slice a l c) (.slice none 0 0)))):Sem Value).run P w=_;rw [Sem.run_bind,heq];rfl
 cases he
theorem DY {P:Program} {tt:Table} (ht:TT P tt) {E:Env} {w:World} {T:TypeId} {op:BinOp} {vx vy:V} {x y:Value} (xo yo:Operand) (hx:cT E vx x) (hy:cT E vy y) {n:Nat} (h:oO tt op T vx vy=some n) :
  ∃ b:Bool,(n≠0→b=false)∧(do eqGuard op T xo yo x y;binOp op T x y:Sem Value).run P w = .ok (.bool (qh op b)) w:=by
 have gen:(op = .eql∨op = .neq)→y = .slice none 0 0→rN tt T vx=some n→∃ b:Bool,(n≠0→b=false)∧(do eqGuard op T xo yo x y;binOp op T x y:Sem Value).run P w = .ok (.bool (qh op b)) w:=by intro jv hyy h;subst hyy;unfold rN at h;split at h;(·split at h;(·rename_i e he;cases h;cases hx with|slice _ _ a cap uj ad xf ha lR hs hF h1 h2 =>refine⟨a.isNone,fun hn=>?_,uy ht he w xo yo jv _ _ _⟩;rw [ha (fun e=>hn (by rw [e];rfl))];rfl);cases h);(·split at h;(·rename_i e he;cases h;cases hx with|ms _ b v s l g e c a cap hb hl h0 hc =>refine⟨a.isNone,fun hn=>?_,uy ht he w xo yo jv _ _ _⟩;rw [hl (by omega)];rfl|iv=>exact⟨true,fun hn=>absurd rfl hn,uy ht he w xo yo jv _ _ _⟩);cases h);cases h
 unfold oO at h;split at h;·exact gen (.inl rfl) (eT hy) h
 ·exact gen (.inr rfl) (eT hy) h
 cases h
def evP (mem:List bf) (ev:Operand→V) (x:Operand):V:=match l0 mem (ev x) with|some v=>v|none=>ev x
def DZ (ev:Operand→V) (parts:List (Nat×Operand)):List (Nat×Nat):=(parts.map fun p=>ev p.2).flatMap gq
def Us (tt:Table) (T:TypeId) (len:Nat) (parts:List (Nat×Operand)) (st:St):Option (Nat×List V) :=
 match ij st.mem (parts.map fun p=>st.eval p.2) with
 | some _=>w6 tt T len parts (evP st.mem st.eval)
 | none=>none
def D0 (tt:Table) (mem:List bf) (T:TypeId) (p v:V):Option (List bf) :=
 match l0 mem v with
 | some v'=>mJ tt (gu mem (gq v)) T p v'
 | none=>none
def x9 (tt:Table) (st:St) (ts:List TypeId) (s x:V) (dst:Option Tmp) (Q:St→Prop):Prop :=
 match oh tt st.mem ts s x with
 | some (size,b,v,l,rs,xs)=>∀ (o:Nat) (mv:List V),mv.drop o=rs++xs→o+(l+xs.length)=mv.length→Q ({ st with mem:=st.mem.set b (.rows (v+1) size mv) }.put dst (.ms b (v+1) o (l+xs.length)))
 | none=>False
def cY (P:Program) (tt:Table) (key:Nat) (o:Oper) (st:St) (Q:St→Prop):Prop :=
 match o.op with
 | .alloc T=>match tt T with
  | some i=>Q ({ st with mem:=da st.mem key (.box (i.zero.map V.sc)) }.put o.dst (.ptr key 0))
  | none=>False
 | .box _ x=>match lr (st.eval x) with
  | some cs=>Q ({ st with mem:=da st.mem key (.box cs) }.put o.dst (.ptr key 0))
  | none=>False
 | .build T parts=>match mL P tt T parts.toList st.eval with
  | some v=>Q (st.put o.dst v)
  | none=>False
 | .buildSlice T len parts=>match w6 tt T len parts.toList st.eval with
  | some (size,rs)=>Q ({ st with mem:=da st.mem key (.rows 0 size rs) }.put o.dst (.ms key 0 0 len))
  | none=>match Us tt T len parts.toList st with
   | some (size,rs)=>Q ({ st with mem:=da (gu st.mem (DZ st.eval parts.toList)) key (.rows 0 size rs) }.put o.dst (.ms key 0 0 len))
   | none=>False
 | .store T p x=>match mJ tt st.mem T (st.eval p) (st.eval x) with
  | some bI=>Q ({ st with mem:=bI }.put o.dst (.sc undef))
  | none=>match D0 tt st.mem T (st.eval p) (st.eval x) with
   | some bI=>Q ({ st with mem:=bI }.put o.dst (.sc undef))
   | none=>False
 | .call { callee:=.builtin .append,args:=xs,argTypes:=ts }=>match xs.toList.map st.eval with
  | [s,x]=>match eM tt st.mem ts.toList s x with
   | some (size,rH,rows)=>Q ({ st with mem:=(ew st.mem key size rows rH).1 }.put o.dst (ew st.mem key size rows rH).2)
   | none=>x9 tt st ts.toList s x o.dst Q
  | _=>False
 | .call { callee:=.value f,args:=xs,.. }=>match st.eval f with
  | .jK k=>(∃ b bI,Ih P k (xs.toList.map st.eval) st.mem b bI∧Q ({ st with mem:=bI }.put o.dst (.sc (.bool b)))) ∨
    (∃ R,ME P k (xs.toList.map st.eval) st.mem R∧∀ b bI,R b bI→Q ({ st with mem:=bI }.put o.dst (.sc (.bool b))))
  | fv=>match c6 fv (xs.toList.map st.eval) with
   | some (g,vs)=>x8 P g vs st o.dst Q
   | none=>False
 | .makeSlice T l c=>match x7 tt T (st.eval l) (st.eval c) with
  | some (size,rs,_)=>Q ({ st with mem:=da st.mem key (.rows 0 size rs) }.put o.dst (.ms key 0 0 rs.length))
  | none=>False
 | .makeMap _ none=>Q ({ st with mem:=da st.mem key (.map [] 0) }.put o.dst (.mp key))
 | .mapUpdate T m k x=>match dB P st.mem T (st.eval m) (st.eval k) (st.eval x) with
  | some bI=>Q ({ st with mem:=bI }.put o.dst (.sc undef))
  | none=>False
 | .insert T m k x=>match dB P st.mem T (st.eval m) (st.eval k) (st.eval x) with
  | some bI=>Q ({ st with mem:=bI }.put o.dst (.sc undef))
  | none=>False
 | .mapEntry T m k=>match w7 P st.mem T (st.eval m) (st.eval k) with
  | some (bI,v)=>Q ({ st with mem:=bI }.put o.dst v)
  | none=>False
 | .entryStore _ m s x=>match w8 st.mem (st.eval m) (st.eval s) (st.eval x) with
  | some bI=>Q ({ st with mem:=bI }.put o.dst (.sc undef))
  | none=>False
 | .call { callee:=.builtin .delete,args:=xs,argTypes:=ts }=>match tb P st.mem ts (xs.toList.map st.eval) with
  | some bI=>Q ({ st with mem:=bI }.put o.dst (.sc (.tuple #[])))
  | none=>False
 | .range T x=>match pn P st.mem T (st.eval x) with
  | some B=>Q ({ st with mem:=da st.mem key B }.put o.dst (.ptr key 0))
  | none=>False
 | .next it str=>vi st o.dst (st.eval it) str Q
 | .binOp op T x y _=>match oO tt op T (st.eval x) (st.eval y) with
  | some n=>∀ b:Bool,(n≠0→b=false)→Q (st.put o.dst (.sc (.bool (qh op b))))
  | none=>match iq P tt st o with
   | some v=>Q (st.put o.dst v)
   | none=>False
 | _=>match iq P tt st o with
  | some v=>Q (st.put o.dst v)
  | none=>False
theorem Af {P:Program} {E:Env} {w:World} {fv:V} {fx:Value} {args:List V} {xs:Array Value} {g:FuncId} {vs:List V} (hf:cT E fv fx) (ha:cU E args xs.toList) (h:c6 fv args=some (g,vs)) :
  ∃ d,∃ ys:Array Value,cU E vs ys.toList∧(Deferred.ofValue fx xs).run P w = .ok d w∧(invoke d.target d.args).run P w=(callFunc g ys).run P w:=by
 unfold c6 at h;split at h;·simp only [aB,dn] at h;obtain⟨rfl,rfl⟩:=h;obtain rfl:=eT hf;(rename_i g first cap);have IB:∀ zs:Array Value,cU E (zs.toList.map V.sc) zs.toList:=fun zs=>⟨by simp,fun i c x hc hx=>lX E zs i c x hc (by simpa using hx)⟩;exact⟨{ target:=.fn (.func g) cap,args:=first++xs },first++xs++cap,by simp only [y4];exact ((IB first).append ha).append (IB cap),rfl,by simp [invoke]⟩
 ·simp only [aB,dn] at h;obtain⟨rfl,rfl⟩:=h;rename_i g _ _;cases hf with|ia _ _ first cap ys zs h1 h2 h3 h4 =>refine⟨{ target:=.fn (.func g) zs,args:=ys++xs },ys++xs++zs,?_,rfl,by simp [invoke]⟩;simp only [y4];exact (cU.append (cU.append ⟨by simpa using h1,fun i c x hc hx=>h3 i c x hc (by simpa using hx)⟩ ha) ⟨by simpa using h2,fun i c x hc hx=>h4 i c x hc (by simpa using hx)⟩)
 cases h
theorem rO {P:Program} {E:Env} {w:World} {fv:V} {fx:Value} {args:List V} {xs:Array Value} {g:FuncId} {vs:List V} (hf:cT E fv fx) (ha:cU E args xs.toList) (h:c6 fv args=some (g,vs)) :
  ∃ ys:Array Value,cU E vs ys.toList∧(do let d ← Deferred.ofValue fx xs;invoke d.target d.args:Sem Next).run P w=(callFunc g ys).run P w:=by
 unfold c6 at h;split at h;·simp only [aB,dn] at h;obtain⟨rfl,rfl⟩:=h;obtain rfl:=eT hf;(rename_i first cap);have IB:∀ zs:Array Value,cU E (zs.toList.map V.sc) zs.toList:=fun zs=>⟨by simp,fun i c x hc hx=>lX E zs i c x hc (by simpa using hx)⟩;refine⟨first++xs++cap,by simp only [y4];exact ((IB first).append ha).append (IB cap),?_⟩;simp [Deferred.ofValue,invoke]
 ·simp only [aB,dn] at h;obtain⟨rfl,rfl⟩:=h;cases hf with|ia _ _ first cap ys zs h1 h2 h3 h4 =>refine⟨ys++xs++zs,?_,?_⟩;(·simp only [y4];exact (cU.append (cU.append ⟨by simpa using h1,fun i c x hc hx=>h3 i c x hc (by simpa using hx)⟩ ha) ⟨by simpa using h2,fun i c x hc hx=>h4 i c x hc (by simpa using hx)⟩));simp [Deferred.ofValue,invoke]
 cases h
theorem FW {P:Program} {tt:Table} {E:Env} {bA:List (Nat×Nat)} {ev:Operand→V} {av:Operand→Value} (j4:∀ o,cT E (ev o) (av o)):∀ (parts:List (Nat×Operand)) (cs:List V) (xs:Array Value) (out:List V),
  cU E cs xs.toList→vl bA ev parts cs=some out→∃ ys,Instr.fill (bA[·]?) xs (parts.map fun p=>(p.1,av p.2))=some ys∧cU E out ys.toList:=by intro parts;induction parts with|nil=>intro cs xs out hr h;simp only [vl,aB] at h;subst h;exact⟨xs,rfl,hr⟩|cons p r ih =>intro cs xs out hr h;obtain⟨i,x⟩:=p;simp only [vl] at h;split at h;(·rename_i p hp;split at h;(·rename_i new oL;split at h;(·rename_i hc;obtain⟨h1,h2⟩:=qf (j4 x) oL;(have iw:(av x).cells.size=p.2:=by have:=h1.1;simp at this;omega);(have rj:xs.size=cs.length:=by have:=hr.1;simp at this;omega);obtain⟨ys,h3,h4⟩:=ih _ _ out (xY new _ cs xs p.1 h1 hr) h;refine⟨ys,?_,h4⟩;simp only [bm,Instr.fill,hp,iw];rw [if_neg (by simp;omega),← h3];congr 1;rw [← at6,auO];exact xZ p.1 (av x).cells.toList 0 xs);cases h);cases h);cases h
theorem vm {P:Program} {tt:Table} (ht:TT P tt) {E:Env} {w:World} {a:Act} {st:St} (hs:c5 E w a st) {T:TypeId} {parts:Array (Nat×Operand)} {v:V} (h:mL P tt T parts.toList st.eval=some v) :
  ∃ x,(Instr.build T (parts.map fun (i,x)=>(i,a.eval x))).run P w = .ok x w∧cT E v x:=by
 unfold mL at h;split at h
 ·rename_i i hi;split at h
  ·rename_i dy;split at h
   ·rename_i cs mc;simp only [aB] at h;subst h;obtain⟨info,wW,-,-,z,hz,CG⟩:=ht.size T i hi;obtain⟨d,hd,-,-,Fi⟩:=ht.desc T i hi;obtain⟨ys,h1,h2⟩:=FW (P:=P) (tt:=tt) hs.eval parts.toList _ z.cells cs (by rw [CG];exact⟨by simp,fun i c x hc hx=>by simp only [aq,hx,b9,aB] at hc;subst hc;exact .sc _ _⟩) mc;have hfs:∃ fs,d = .struct fs∧fs.size=i.bA.length∧∀ k (hk:k<fs.size),∃ inf,P.info? fs[k].type=some inf∧i.bA[k]?=some (fs[k].offset,inf.size):=by have zY:0<i.bA.length:=List.length_pos_iff.2 dy;obtain⟨fs,fd,inf,rfl,hlen,-⟩:=Fi 0 (i.bA[0]).1 (i.bA[0]).2 (au zY);refine⟨fs,rfl,hlen,fun k hk=>?_⟩;obtain⟨fs',fd,inf,he,-,hf1,hf2,hf3,hf4,-⟩:=Fi k (i.bA[k]'(by omega)).1 (i.bA[k]'(by omega)).2 (au (by omega));cases he;rw [bP hk] at hf1;cases hf1;exact⟨inf,hf3,by rw [au (by omega),hf2,hf4]⟩
    obtain⟨fs,rfl,hlen,ff⟩:=hfs
    have IB:(fs.mapM fun f=>do pure (f.offset,← sizeOf f.type):Sem (Array (Nat×Nat))).run P w = .ok i.bA.toArray w:=by
     have gen:∀ (l:List Field) (fl:List (Nat×Nat)),l.length=fl.length→(∀ k (hk:k<l.length),∃ inf,P.info? l[k].type=some inf∧fl[k]?=some (l[k].offset,inf.size)) →
       (l.mapM fun f=>do pure (f.offset,← sizeOf f.type):Sem (List (Nat×Nat))).run P w = .ok fl w:=by
      intro l
      induction l with
      | nil=>intro fl hl _;have:fl=[]:=cb.1 hl.symm;subst this;rfl
      | cons f r ih =>
       intro fl hl hk
       cases fl with
       | nil=>simp at hl
       | cons p fl =>
        obtain⟨inf,h1,h2⟩:=hk 0 (by simp)
        simp only [List.getElem_cons_zero,aF,aB] at h1 h2
        subst h2
        have:=ih fl (by simpa using hl) fun k fe=>hk (k+1) (Nat.succ_lt_succ fe)
        simp only [atU,Sem.run_bind,fG h1,Result.andThen_ok,Sem.run_pure,this]
     have:=gen fs.toList i.bA hlen fun k hk=>ff k hk;rw [aul];simp only [Sem.run_map,this,Result.andThen_ok]
    have uu:(parts.map fun (i,x)=>(i,a.eval x)).toList=parts.toList.map fun p=>(p.1,a.eval p.2):=by simp
    refine⟨.agg ys,?_,.agg _ _ _ (by simpa using h2.1) fun i c x hc hx=>h2.2 i c x hc (by simpa using hx)⟩;unfold Instr.build;have YV:(zeroValue T).run P w = .ok z w:=by simp [zeroValue,eR wW,hz]
    simp only [Sem.run_bind,YV,Result.andThen_ok,aZ hd,IB,uu];have aeb:(fun (k:Nat)=>i.bA.toArray[k]?)=(fun (k:Nat)=>i.bA[k]?):=by funext k;simp
    simp only [aeb,h1];simp
   cases h
  split at h;·rename_i l hl;have hp:=rM hs.eval hl;unfold xb at h;split at h;(·rename_i cs mc;cases h;refine⟨.agg cs,?_,.agg _ _ _ (by simp) (lX E cs)⟩;(have uu:(parts.map fun (i,x)=>(i,a.eval x))=l.toArray:=by rw [← hp];apply aiS.1;simp);rw [uu];exact fY _ mc w);cases h
  cases h
 cases h
end Go.Eng
end
