import Derived.Test.YtfbbfmcggbapoaaGreatDoorE1
import Derived.LoopNIn
import Derived.RangeFuncLeaves
import Derived.RangeFuncCalls
open Array renaming foldl_toList->awa,getElem?_eq_getElem->cb,mapM_eq_mapM_toList->awl,toList_append->AE,toList_inj->ake,toList_zipIdx->awG
open List renaming all_eq_true->ba,any_eq_true->u1,append_nil->ai,flatMap_cons->ag,flatMap_nil->aj,foldl_nil->avH,getElem?_cons_zero->aI,getElem?_eq_getElem->bf,getElem?_eq_some_iff->az,getElem?_map->ae,getElem?_set->cf,length_eq_zero_iff->b9,mapM_cons->av0,map_cons->bo,mem_append->ey,mem_cons->dp,mem_of_getElem?->aw,mem_singleton->ei,not_mem_nil->ja
open Nat renaming add_mul->jF,le_refl->aA,lt_of_lt_of_le->rV
open Option renaming map_some->bU
open Option.some renaming injEq->aD
open Prod.mk renaming injEq->dK
set_option linter.all false
section
namespace Go.Eng
variable [bJ]
open Go.RowKit (Below)
def fE (mem:List bx):V->Option V
  | .undef=>some .undef
  | .sc v=>some (qy (.sc v))
  | .slice rows=>some (.slice rows)
  | .full rows=>some (.slice rows)
  | .fQ cs=>some (.fQ cs)
  | .gn=>some .gn
  | .ms b v s l=>match mem[b]? with
    | some (.rows v' _ rs)=>if v'=v/\s+l<=rs.length then some (.slice ((rs.drop s).take l)) else none
    | some (.sF v' _ rs)=>if v'=v/\s+l<=rs.length then some (.slice ((rs.drop s).take l)) else none
    | _=>none
  | .jh f [] []=>some (.sc (.func f #[] #[]))
  | _=>none
def iO (mem:List bx):List V->Option (List V)
  | []=>some []
  | c :: r=>match fE mem c with
    | some c'=>match iO mem r with|some r'=>some (c' :: r')|none=>none
    | none=>none
def mT (mem:List bx):V->Option V
  | .agg cs=>match iO mem cs with|some l=>some (.agg l)|none=>none
  | v=>fE mem v
def jj (mem:List bx):List V->Option (List V)
  | []=>some []
  | c :: r=>match mT mem c with
    | some c'=>match jj mem r with|some r'=>some (c' :: r')|none=>none
    | none=>none
def K0 (mem:List bx):V->Option V
  | .fZ vs=>match jj mem vs with|some l=>some (.fZ l)|none=>none
  | v=>mT mem v
def kW:V->List (Nat×Nat)
  | .ms b v _ _=>[(b,v)]
  | _=>[]
def iz:V->List (Nat×Nat)
  | .agg cs=>cs.flatMap kW
  | v=>kW v
def refs:V->List (Nat×Nat)
  | .fZ vs=>vs.flatMap iz
  | v=>iz v
def Env.qW (E:Env) (w:World) (keys:List (Nat×Nat)):Env :=
  { F:=fun ad=>match E.F ad with
      | some x=>some x
      | none=>if keys.any (fun k=>match E.cE k.1 k.2 with|some (g,_,_)=>g==ad.block|none=>false) then w.cell? ad else none
    cE:=E.cE
    gl:=E.gl.mono fun ad x h=>by simp only [h] }
theorem Env.yy (E:Env) (w:World) (keys:List (Nat×Nat)):E.le (E.qW w keys):=⟨fun ad x h=>by simp [Env.qW,h],fun _ _ _ h=>h⟩
theorem Env.M8 {E:Env} {w:World} {keys:List (Nat×Nat)} (hF:∀ ad x,E.F ad=some x->w.cell? ad=some x) {ad:Addr} {x:Value} (h:(E.qW w keys).F ad=some x):w.cell? ad=some x:=by
  unfold Env.qW at h;dsimp only at h;split at h;·rename_i y hy;cases h;exact hF _ _ hy
  ·split at h;(·exact h);·cases h
theorem Env.FY {E:Env} {w:World} {keys:List (Nat×Nat)} {ad:Addr} {x:Value} (h:(E.qW w keys).F ad=some x):E.F ad=some x\/∃ k∈keys,∃ e c,E.cE k.1 k.2=some (ad.block,e,c):=by
  unfold Env.qW at h;dsimp only at h;split at h;·rename_i y hy;cases h;exact .inl hy
  ·split at h;(·rename_i Bx;obtain⟨k,hk,hm⟩:=u1.1 Bx;split at hm;(·rename_i g e c hb;simp only [beq_iff_eq] at hm;subst hm;exact .inr ⟨k,hk,e,c,hb⟩);·cases hm);·cases h
theorem Env.abn {E:Env} {w:World} {keys:List (Nat×Nat)} {k v g e c:Nat} (hk:(k,v)∈keys) (hb:E.cE k v=some (g,e,c)) {o:Nat} {x:Value} (hn:E.F ⟨g,o,none⟩=none) (hx:w.cell? ⟨g,o,none⟩=some x):(E.qW w keys).F ⟨g,o,none⟩=some x:=by have:keys.any (fun k=>match E.cE k.1 k.2 with|some (g',_,_)=>g'==g|none=>false)=true:=u1.2 ⟨(k,v),hk,by simp [hb]⟩;unfold Env.qW;dsimp only;rw [hn];dsimp only;rw [gH this];exact hx
theorem Ia {E:Env} {w:World} {a:Act} {st:St} (hs:dt E w a st) {keys:List (Nat×Nat)} {k v g e c:Nat} (hk:(k,v)∈keys) (hb:E.cE k v=some (g,e,c)) {B:bx} (hm:st.mem[k]?=some B) {rs:List V} {e':Nat}
    (hB:B = .rows v e' rs\/B = .sF v e' rs):e'=e/\rs.length<=c/\mR E.pure e rs (fun o=>(E.qW w keys).F ⟨g,o,none⟩):=by
  rcases hB with rfl|rfl
  ·(rcases hs.mem k _ hm with ⟨-,hn⟩|⟨g',T,xs,c',gY,hh,ly,hl,hr,hf⟩);(·rw [hb] at hn;cases hn);·rw [hb] at gY;cases gY;refine⟨rfl,hl,fun i row hi=>?_⟩;obtain⟨h1,h2⟩:=hr i row hi;exact⟨h1,fun j cc hj=>let ⟨x,hx,h⟩:=h2 j cc hj;⟨x,Env.abn hk hb (hf _) (by rw [og hh];exact hx),h⟩⟩
  ·(rcases hs.mem k _ hm with ⟨-,hn⟩|⟨g',c',gY,hl,hr⟩);(·rw [hb] at hn;cases hn);rw [hb] at gY;cases gY;refine⟨rfl,hl,fun i row hi=>?_⟩;obtain⟨h1,h2⟩:=hr i row hi;exact⟨h1,fun j cc hj=>let ⟨x,hx,h⟩:=h2 j cc hj;⟨x,(Env.yy E w keys).F _ _ hx,h⟩⟩
theorem qe {E:Env} {w:World} {a:Act} {st:St} (hs:dt E w a st) {keys:List (Nat×Nat)} {v v':V} {x:Value} (hr:df E v x) (h:fE st.mem v=some v') (hk:∀ k∈kW v,k∈keys):df (E.qW w keys).pure v' x:=by
  have hle:=Env.lG (Env.yy E w keys)
  have HB:∀ {b v s l:Nat} {B:bx} {rs:List V} {e':Nat},df E (.ms b v s l) x->(b,v)∈keys->st.mem[b]?=some B->(B = .rows v e' rs\/B = .sF v e' rs)->s+l<=rs.length->df (E.qW w keys).pure (.slice ((rs.drop s).take l)) x:=by
    intro b v s l B rs e' hr fw hm hB hl;have hlen:((rs.drop s).take l).length=l:=by simp;omega
    rcases FT hr with ⟨rfl,rfl⟩|⟨g,e,c,aa,cap,rfl,hb,oc,-,hlc⟩
    ·rw [show (rs.drop s).take 0=[] from by simp];exact .slice _ [] none 0 0 default (fun _ _=>default) (by simp) (by simp) (by simp) (by simp) (by simp) (by simp)
    · obtain⟨rfl,M4,hrk⟩:=Ia hs fw hb hm hB
      have lz:∀ (i:Nat) (row:V) (j:Nat) (cc:V),((rs.drop s).take l)[i]?=some row->row.cells[j]?=some cc->∃ y,(E.qW w keys).F ⟨g,(s+i)*e'+j,none⟩=some y/\y.oneCell'=true/\df E.pure cc y:=fun i row j cc hi hj =>
        (hrk _ _ (AK hi)).2 j cc hj
      let xf:Nat->Nat->Value:=fun i j=>((E.qW w keys).F ⟨g,(s+i)*e'+j,none⟩).getD default;have HP:df (E.qW w keys).pure (.slice ((rs.drop s).take l)) (.slice aa ((rs.drop s).take l).length cap):=by refine .slice _ _ _ _ e' ⟨g,s*e',none⟩ xf (fun dI=>oc ?_) (by rw [hlen];exact hlc.1) (fun i row hi=>(hrk _ _ (AK hi)).1) (fun i row j cc hi hj=>?_) (fun i row j cc hi hj=>?_) fun i row j cc hi hj=>?_;(·have:((rs.drop s).take l).length≠0:=fun h0=>dI (b9.1 h0);omega);(·obtain⟨y,hy,-⟩:=lz i row j cc hi hj;(have abi:s*e'+(i*e'+j)=(s+i)*e'+j:=by rw [jF];omega);rw [add_lit,abi];show (E.qW w keys).F _=some (xf i j);simp [xf,hy]);(·obtain⟨y,hy,h1,-⟩:=lz i row j cc hi hj;simp [xf,hy,h1]);·obtain⟨y,hy,-,h2⟩:=lz i row j cc hi hj;(have:xf i j=y:=by simp [xf,hy]);rw [this];exact h2.mono hle
      rw [hlen] at HP;exact HP
  unfold fE at h;split at h;·simp only [aD] at h;subst h;exact .undef _ _
  ·simp only [aD] at h;subst h;exact wK (by rw [fL hr];exact .sc _ _)
  ·simp only [aD] at h;subst h;cases hr with|slice _ _ a cap vz ad xf ha mF hz hF h1 hR=>exact (df.slice E.pure _ a cap vz ad xf ha mF hz hF h1 hR).mono hle
  ·simp only [aD] at h;subst h;cases hr with|full _ _ a h =>cases h with|slice _ _ a cap vz ad xf ha mF hz hF h1 hR=>exact (df.slice E.pure _ a _ vz ad xf ha (aA _) hz hF h1 hR).mono hle
  ·simp only [aD] at h;subst h;cases hr with|fQ _ _ ad xf hF hR=>exact (df.fQ E.pure _ ad xf hF hR).mono hle
  ·simp only [aD] at h;subst h;cases hr with|gn=>exact .gn _
  ·rename_i b v s l;have fw:(b,v)∈keys:=hk (b,v) (by simp [kW]);split at h;(·rename_i v' e rs hm;split at h;(·rename_i hl;obtain⟨rfl,hl⟩:=hl;simp only [aD] at h;subst h;exact HB hr fw hm (.inl rfl) hl);·cases h);(·rename_i v' e rs hm;split at h;(·rename_i hl;obtain⟨rfl,hl⟩:=hl;simp only [aD] at h;subst h;exact HB hr fw hm (.inr rfl) hl);·cases h);·cases h
  ·simp only [aD] at h;subst h;cases hr with|jh _ f _ _ xs ys hx hy h1 h2 =>(have e1:xs = #[]:=by simpa using hx.symm);(have e2:ys = #[]:=by simpa using hy.symm);subst e1;subst e2;exact .sc _ _
  ·cases h
theorem sR {E:Env} {w:World} {a:Act} {st:St} (hs:dt E w a st) {keys:List (Nat×Nat)}:∀ {vs vs':List V} {xs:List Value},dh E vs xs->iO st.mem vs=some vs'->(∀ k∈vs.flatMap kW,k∈keys) ->
    dh (E.qW w keys).pure vs' xs
  | [],vs',xs,hr,h,_=>by simp [iO] at h;subst h;rw [hr.of_nil];exact .nil _
  | v :: vs,vs',xs,hr,h,hk=>by
    obtain⟨x,ys,rfl,h1,h2⟩:=hr.of_cons
    simp only [iO] at h
    split at h
    · rename_i c' hc
      split at h
      · rename_i r' KI
        simp only [aD] at h;subst h
        exact .cons (qe hs h1 hc fun k mm=>hk k (by simp [mm])) (sR hs h2 KI fun k mm=>hk k (by simp at mm ⊢;exact .inr mm))
      · cases h
    · cases h
theorem By {E:Env} {w:World} {a:Act} {st:St} (hs:dt E w a st) {keys:List (Nat×Nat)} {v v':V} {x:Value} (hr:df E v x) (h:mT st.mem v=some v') (hk:∀ k∈iz v,k∈keys):df (E.qW w keys).pure v' x:=by
  unfold mT at h;split at h;·split at h;(·rename_i cs l hl;simp only [aD] at h;subst h;cases hr with|agg _ _ xs hlen hh =>have:=sR hs (xs:=xs.toList) ⟨by simpa using hlen,fun i c x hc hx=>hh i c x hc (by simpa using hx)⟩ hl (by simpa [iz] using hk);exact .agg _ _ _ (by simpa using this.1) fun i c x hc hx=>this.2 i c x hc (by simpa using hx));·cases h
  ·rename_i dI;refine qe hs hr h fun k mm=>hk k ?_;cases v <;> first|exact mm|exact absurd rfl (dI _)
theorem mU {E:Env} {w:World} {a:Act} {st:St} (hs:dt E w a st) {keys:List (Nat×Nat)}:∀ {vs vs':List V} {xs:List Value},dh E vs xs->jj st.mem vs=some vs'->(∀ k∈vs.flatMap iz,k∈keys) ->
    dh (E.qW w keys).pure vs' xs
  | [],vs',xs,hr,h,_=>by simp [jj] at h;subst h;rw [hr.of_nil];exact .nil _
  | v :: vs,vs',xs,hr,h,hk=>by
    obtain⟨x,ys,rfl,h1,h2⟩:=hr.of_cons
    simp only [jj] at h
    split at h
    · rename_i c' hc
      split at h
      · rename_i r' KI
        simp only [aD] at h;subst h
        exact .cons (By hs h1 hc fun k mm=>hk k (by simp [mm])) (mU hs h2 KI fun k mm=>hk k (by simp at mm ⊢;exact .inr mm))
      · cases h
    · cases h
theorem El {E:Env} {w:World} {a:Act} {st:St} (hs:dt E w a st) {keys:List (Nat×Nat)} {v v':V} {x:Value} (hr:df E v x) (h:K0 st.mem v=some v') (hk:∀ k∈refs v,k∈keys):df (E.qW w keys).pure v' x:=by
  unfold K0 at h;split at h;·split at h;(·rename_i vs l hl;simp only [aD] at h;subst h;cases hr with|fZ _ _ xs hlen hh =>have:=mU hs (xs:=xs.toList) ⟨by simpa using hlen,fun i c x hc hx=>hh i c x hc (by simpa using hx)⟩ hl (by simpa [refs] using hk);exact .fZ _ _ _ (by simpa using this.1) fun i c x hc hx=>this.2 i c x hc (by simpa using hx));·cases h
  ·rename_i dI;refine By hs hr h fun k mm=>hk k ?_;cases v <;> first|exact mm|exact absurd rfl (dI _)
def dz (P:g7) (f:FuncId) (args:List V) (r:V):Prop :=
  (∀ (xs:Array Value) (w:World),(callFunc f xs).run P w = .ok (.enter f xs) w) /\
  ∀ (F:Addr->Option Value) (hg:Gl F) (w:World) (xs:Array Value),(∀ ad x,F ad=some x->w.cell? ad=some x)->dh ⟨F,fun _ _=>none,hg⟩ args xs.toList ->
    Calls P f xs w fun e w'=>∃ F' x,e = .returned x/\(∀ ad y,F ad=some y->F' ad=some y)/\(∀ ad y,F' ad=some y->w'.cell? ad=some y)/\(∀ ad y,F' ad=some y->F ad=some y\/w.heap.size<=ad.block) /\
      (∃ Ib,df ⟨F',fun _ _=>none,Ib⟩ r x)/\Below w.heap.size w w'
def Ic:V->Bool
  | .undef=>true
  | .sc _=>true
  | .agg cs=>cs.all (fun c=>match c with|.sc _=>true|_=>false)
  | _=>false
def RA:V->Bool
  | .fZ vs=>vs.all Ic
  | v=>Ic v
theorem Em {E E':Env} {v:V} {x:Value} (h:df E v x) (hf:Ic v=true):df E' v x:=by cases h with|undef=>exact .undef _ _|sc=>exact .sc _ _|agg _ cs xs hl hh =>refine .agg _ _ _ hl fun i c x hc hx=>?_;have h1:=hh i c x hc hx;simp only [Ic,ba] at hf;have:=hf c (aw hc);cases c <;> simp at this;rw [fL h1];exact .sc _ _|_=>simp [Ic] at hf
theorem Pa {E E':Env} {v:V} {x:Value} (h:df E v x) (hf:RA v=true):df E' v x:=by
  unfold RA at hf;split at hf;·cases h with|fZ _ vs xs hl hh =>refine .fZ _ _ _ hl fun i c x hc hx=>Em (hh i c x hc hx) ?_;simp only [ba] at hf;exact hf c (aw hc)
  ·exact Em h hf
def Ie (mem:List bx) (k:Nat×Nat):List bx:=match mem[k.1]? with|some (.rows v e rs)=>if v=k.2 then mem.set k.1 (.sF v e rs) else mem|_=>mem
def iA (mem:List bx) (keys:List (Nat×Nat)):List bx:=keys.foldl Ie mem
def r5 (keys:List (Nat×Nat)) (q:Nat):Option bx->Option bx
  | some (.rows v e rs)=>if (q,v)∈keys then some (.sF v e rs) else some (.rows v e rs)
  | B=>B
theorem RB (mem:List bx) (k:Nat×Nat) (q:Nat):(Ie mem k)[q]?=r5 [k] q mem[q]?:=by
  obtain⟨k,kv⟩:=k;unfold Ie;dsimp only;split;·rename_i v e rs hk;split;(·rename_i hv;subst hv;rw [cf];by_cases hq:k=q;(·subst hq;rw [hk];simp [r5,(az.1 hk).1]);·rw [g5 hq];have VY:¬ q=k:=fun e=>hq e.symm;cases hB:mem[q]? with|none=>rfl|some B=>cases B <;> simp [r5,VY]);·rename_i hv;cases hB:mem[q]? with|none=>rfl|some B =>(cases B <;> first|rfl|skip);rename_i v' e' nC;simp only [r5,ei,dK];rw [g5];rintro⟨rfl,rfl⟩;rw [hk] at hB;cases hB;exact hv rfl
  ·rename_i hk;cases hB:mem[q]? with|none=>rfl|some B =>(cases B <;> first|rfl|skip);rename_i v e rs;simp only [r5,ei,dK];rw [g5];rintro⟨rfl,rfl⟩;exact hk _ _ _ hB
theorem vK (keys:List (Nat×Nat)):∀ (mem:List bx) (q:Nat),(iA mem keys)[q]?=r5 keys q mem[q]?:=by induction keys with|nil=>(intro mem q;simp only [iA,avH];cases hB:mem[q]? with|none=>rfl|some B=>cases B <;> simp [r5])|cons k r ih =>intro mem q;show (iA (Ie mem k) r)[q]?=_;rw [ih,RB];cases hB:mem[q]? with|none=>rfl|some B =>(cases B <;> first|rfl|skip);rename_i v e rs;simp only [r5,dp,ja,or_false];by_cases hq:(q,v)=k;(·rw [gH hq,gH (.inl hq)]);·rw [g5 hq];by_cases hr:(q,v)∈r;(·rw [gH (.inr hr)];simp [hr]);·rw [g5 (fun h=>h.elim hq hr)];simp [hr]
theorem vf (keys:List (Nat×Nat)):∀ (mem:List bx),(iA mem keys).length=mem.length:=by induction keys with|nil=>intro mem;rfl|cons k r ih =>intro mem;show (iA (Ie mem k) r).length=_;rw [ih];unfold Ie;split;(·split <;> simp);·rfl
def iP (mem:List bx) (keys:List (Nat×Nat)) (r:V):List bx:=if RA r=true then mem else iA mem keys
theorem Pb {mem:List bx} {k:Nat×Nat}:∀ {us RC:List V},jj mem us=some RC->k∈us.flatMap iz->∃ B,mem[k.1]?=some B/\B.ej=k.2/\∃ e rs,B = .rows k.2 e rs\/B = .sF k.2 e rs:=by
  have YU:∀ (cs u7:List V),iO mem cs=some u7->k∈cs.flatMap kW->∃ B,mem[k.1]?=some B/\B.ej=k.2/\∃ e rs,B = .rows k.2 e rs\/B = .sF k.2 e rs:=by intro cs;induction cs with|nil=>intro u7 _ hm;simp at hm|cons c r ih =>intro u7 hp hm;simp only [iO] at hp;split at hp;(·rename_i c' hc;split at hp;(·rename_i r' hr;simp only [ag,ey] at hm;(rcases hm with hm|hm);(·cases c <;> simp only [kW,ei,ja] at hm;subst hm;simp only [fE] at hc;split at hc;(·rename_i h;split at hc;(·rename_i hv;obtain⟨rfl,-⟩:=hv;exact⟨_,h,rfl,_,_,.inl rfl⟩);·cases hc);(·rename_i h;split at hc;(·rename_i hv;obtain⟨rfl,-⟩:=hv;exact⟨_,h,rfl,_,_,.inr rfl⟩);·cases hc);·cases hc);·exact ih _ hr hm);·cases hp);·cases hp
  intro us;induction us with|nil=>intro RC _ hm;simp at hm|cons c r ih =>intro RC hp hm;simp only [jj] at hp;split at hp;(·rename_i c' hc;split at hp;(·rename_i r' hr;simp only [ag,ey] at hm;(rcases hm with hm|hm);(·unfold mT at hc;split at hc;(·split at hc;(·rename_i l hl;exact YU _ _ hl hm);·cases hc);·rename_i dI;refine YU [c] [c'] (by simp [iO,hc]) ?_;simp only [ag,aj,ai];cases c <;> first|exact hm|exact absurd rfl (dI _));·exact ih hr hm);·cases hp);·cases hp
theorem Bz {E:Env} {w w':World} {a:Act} {st:St} (hs:dt E w a st) {vs vs':List V} (hp:jj st.mem vs=some vs') {F':Addr->Option Value} (Ig:∀ ad y,(E.qW w (vs.flatMap iz)).F ad=some y->F' ad=some y)
    (j7:∀ ad y,F' ad=some y->w'.cell? ad=some y) (hF3:∀ ad y,F' ad=some y->(E.qW w (vs.flatMap iz)).F ad=some y\/w.heap.size<=ad.block) (hb:Below w.heap.size w w') :
    ∃ hg,iF E w ⟨F',E.cE,hg⟩ w'/\dt ⟨F',E.cE,hg⟩ w' a { st with mem:=iA st.mem (vs.flatMap iz) }:=by
  have hg:Gl F':=E.gl.mono fun ad x h=>Ig _ _ ((Env.yy E w _).F _ _ h);refine⟨hg,?_⟩;have hle:E.le ⟨F',E.cE,hg⟩:=⟨fun ad y hy=>Ig _ _ ((Env.yy E w _).F _ _ hy),fun _ _ _ h=>h⟩;have alp:(E.qW w (vs.flatMap iz)).le ⟨F',E.cE,hg⟩:=⟨Ig,fun _ _ _ h=>h⟩;have clean:∀ k B,st.mem[k]?=some B->B.held=true->(∀ v e rs,B ≠ .sF v e rs)->(∀ v e rs,B = .rows v e rs->(k,v) ∉ vs.flatMap iz)->∀ g e c o,E.cE k B.ej=some (g,e,c)->E.F ⟨g,o,none⟩=none->F' ⟨g,o,none⟩=none:=by intro k B hB hh Q5 BA g e c o fw hn;cases hy:F' ⟨g,o,none⟩ with|none=>rfl|some y =>exfalso;(rcases hF3 _ y hy with h|h);(·(rcases Env.FY h with h|⟨k',mm,e',c',h⟩);(·rw [hn] at h;cases h);·obtain⟨B',u6,Bg,e1,rs1,DL⟩:=Pb hp mm;(have KE:B'.held=true:=by rcases DL with rfl|rfl <;> rfl);rw [<- Bg] at h;have ga:=hs.apart _ _ _ _ _ _ _ _ _ fw h;subst ga;rw [hB] at u6;cases u6;(rcases DL with rfl|rfl);(·exact BA _ _ _ rfl (by rw [show (k'.1,k'.2)=k' from rfl];exact mm));·exact Q5 _ _ _ rfl);·have:=hs.lt _ _ _ _ _ fw;simp at h;omega
  refine⟨⟨hle,fun k v g e c h=>.inl ⟨k,v,e,c,h⟩,fun ad y hy=>?_,hb.os,hb.tape,hb.output,hb.size,fun b bH _=>hb.block b bH⟩,?_⟩;·(rcases hF3 ad y hy with h|h);(·(rcases Env.FY h with h|⟨k,-,e,c,h⟩);(·exact .inl h);·exact .inr (.inr ⟨k.1,k.2,e,c,h⟩));·exact .inr (.inl h)
  ·(have sO:∀ (q:Nat) (B:bx),(iA st.mem (vs.flatMap iz))[q]?=some B->∃ B',st.mem[q]?=some B'/\B.ej=B'.ej/\B.held=B'.held/\(B=B'/\(∀ v e rs,B = .rows v e rs->(q,v) ∉ vs.flatMap iz)\/∃ v e rs,B' = .rows v e rs/\B = .sF v e rs/\(q,v)∈vs.flatMap iz):=fun q B hq=>by rw [vK] at hq;cases M9:st.mem[q]? with|none=>rw [M9] at hq;simp [r5] at hq|some B0 =>rw [M9] at hq;refine⟨B0,rfl,?_⟩;cases B0 with|rows v e rs =>(simp only [r5] at hq;split at hq;(·rename_i pY;cases hq;exact⟨rfl,rfl,.inr ⟨v,e,rs,rfl,rfl,pY⟩⟩);·rename_i pY;cases hq;exact⟨rfl,rfl,.inl ⟨rfl,fun v' e' nC h=>by cases h;exact pY⟩⟩)|_=>cases hq;exact⟨rfl,rfl,.inl ⟨rfl,fun v' e' nC h=>by cases h⟩⟩);refine⟨j7,fun k v g e c h=>rV (hs.lt _ _ _ _ _ h) hb.size,fun k B hk=>?_,fun k hk v=>hs.top k (by simpa [vf] using hk) v,fun k B hk v hv=>?_,hs.apart,hs.fr.mono hle⟩;(·obtain⟨B',u6,-,-,Bv⟩:=sO k B hk;(rcases Bv with ⟨rfl,BA⟩|⟨v,e,rs,rfl,rfl,pY⟩);(·have wO:=(hs.mem k B u6).mono (E':=⟨F',E.cE,hg⟩) (w':=w') hle (fun _ h=>h) (fun g e c h=>hb.block _ (hs.lt _ _ _ _ _ h));cases RD:B with|sF v e rs =>(subst RD;(rcases hs.mem k _ u6 with h9|⟨g,c,j8,hl,hr⟩);(·exact .inl h9);refine .inr ⟨g,c,j8,hl,fun i row hi=>?_⟩;obtain⟨h5,h6⟩:=hr i row hi;exact⟨h5,fun j cc hj=>let ⟨x,hx,h7,h8⟩:=h6 j cc hj;⟨x,hle.F _ _ hx,h7,h8.mono (Env.lG hle)⟩⟩)|hole=>subst RD;exact hs.mem k _ u6|dead=>trivial|loop s oe fr params assign body=>subst RD;exact wO (clean k _ u6 rfl (fun _ _ _ h=>by cases h) (fun _ _ _ h=>by cases h))|box cs=>subst RD;exact wO (clean k _ u6 rfl (fun _ _ _ h=>by cases h) (fun _ _ _ h=>by cases h))|map dU clock=>subst RD;exact wO (clean k _ u6 rfl (fun _ _ _ h=>by cases h) (fun _ _ _ h=>by cases h))|jX m since seen last=>subst RD;exact wO (clean k _ u6 rfl (fun _ _ _ h=>by cases h) (fun _ _ _ h=>by cases h))|ox T kb v l=>subst RD;exact wO (clean k _ u6 rfl (fun _ _ _ h=>by cases h) (fun _ _ _ h=>by cases h))|pq T v O=>subst RD;exact wO (clean k _ u6 rfl (fun _ _ _ h=>by cases h) (fun _ _ _ h=>by cases h))|n9 s pos=>subst RD;exact wO (clean k _ u6 rfl (fun _ _ _ h=>by cases h) (fun _ _ _ h=>by cases h))|oG=>subst RD;exact wO (clean k _ u6 rfl (fun _ _ _ h=>by cases h) (fun _ _ _ h=>by cases h))|rows v e rs=>subst RD;exact wO (clean k _ u6 rfl (fun _ _ _ h=>by cases h) BA));·(rcases hs.mem k _ u6 with h9|⟨g,T,cur,c,j8,-⟩);(·exact .inl h9);·obtain⟨-,hl,hr⟩:=Ia hs pY j8 u6 (.inl rfl);refine .inr ⟨g,c,j8,hl,fun i row hi=>?_⟩;obtain⟨h5,h6⟩:=hr i row hi;exact⟨h5,fun j cc hj=>let ⟨x,hx,h7,h8⟩:=h6 j cc hj;⟨x,alp.F _ _ hx,h7,h8.mono (Env.lG hle)⟩⟩);·obtain⟨B',u6,KF,-,-⟩:=sO k B hk;exact hs.ej k B' u6 v (by omega)
theorem dt.freeze {E:Env} {w:World} {a:Act} {st:St} (hs:dt E w a st) {vs vs':List V} (hp:jj st.mem vs=some vs') :
    ∃ E',dt E' w a { st with mem:=iA st.mem (vs.flatMap iz) }/\iF E w E' w/\∀ xs,dh E vs xs->dh E' vs' xs:=by obtain⟨hg,h1,h2⟩:=Bz hs hp (F':=(E.qW w (vs.flatMap iz)).F) (fun _ _ h=>h) (fun ad y h=>Env.M8 hs.F h) (fun _ _ h=>.inl h) (Below.refl _ w);exact⟨_,h2,h1,fun xs hx=>(mU hs (keys:=vs.flatMap iz) hx hp fun k hk=>hk).mono ⟨fun _ _ h=>h,fun _ _ _ h=>by cases h⟩⟩
theorem Pc {P:g7} {f:FuncId} {E:Env} {w:World} {a:Act} {st:St} (hs:dt E w a st) {vs vs':List V} {r:V} {xs:Array Value} (hx:dh E vs xs.toList) (hp:jj st.mem vs=some vs') (hf:dz P f vs' r) :
    Calls P f xs w fun e w'=>∃ E' x,e = .returned x/\iF E w E' w'/\dt E' w' a { st with mem:=iP st.mem (vs.flatMap iz) r }/\df E' r x:=by
  have h1:=mU hs (keys:=vs.flatMap iz) hx hp fun k hk=>hk;refine (hf.2 (E.qW w (vs.flatMap iz)).F (E.qW w (vs.flatMap iz)).gl w xs (fun ad x h=>Env.M8 hs.F h) h1).mono ?_;rintro e w' ⟨F',x,rfl,Ig,j7,hF3,⟨Ib,kV⟩,hb⟩;unfold iP;split;·rename_i afU;refine⟨E,x,rfl,⟨E.le_refl,fun k v g e c h=>.inl ⟨k,v,e,c,h⟩,fun _ _ h=>.inl h,hb.os,hb.tape,hb.output,hb.size,fun b bH _=>hb.block b bH⟩,?_,Pa kV afU⟩;refine⟨fun ad y hy=>?_,fun k v g e c h=>rV (hs.lt _ _ _ _ _ h) hb.size,fun k B hk=>?_,hs.top,hs.ej,hs.apart,hs.fr⟩;(·rw [hb.cell (World.block_lt_of_cell? w ad (hs.F ad y hy))];exact hs.F ad y hy);·exact (hs.mem k B hk).mono E.le_refl (fun _ h=>h) (fun g e c h=>hb.block _ (hs.lt _ _ _ _ _ h)) fun _ _ _ _ _ h=>h
  ·obtain⟨hg,e1,s1⟩:=Bz hs hp Ig j7 hF3 hb;exact⟨_,x,rfl,e1,s1,kV.mono ⟨fun _ _ h=>h,fun _ _ _ h=>by simp at h⟩⟩
end Go.Eng
end
section
namespace Go.Eng
variable [bJ]
open Go.RowKit (Below)
def bK (P:g7) (f:FuncId) (args:List V) (mem:List bx) (r:V) (b7:List bx):Prop :=
 (∀ (xs:Array Value) (w:World),(callFunc f xs).run P w = .ok (.enter f xs) w) /\
 ∀ (E:Env) (w:World) (xs:Array Value),dt E w { tmps := #[],defers:=[] } { fr:=[],mem:=mem }->dh E args xs.toList ->
  Calls P f xs w fun e w'=>∃ E' x,e = .returned x/\iF E w E' w'/\dt E' w' { tmps := #[],defers:=[] } { fr:=[],mem:=b7 }/\df E' r x
def jY (P:g7) (f:FuncId) (args:List V) (mem:List bx) (R:V->List bx->Prop):Prop :=
 (∀ (xs:Array Value) (w:World),(callFunc f xs).run P w = .ok (.enter f xs) w) /\
 ∀ (E:Env) (w:World) (xs:Array Value),dt E w { tmps := #[],defers:=[] } { fr:=[],mem:=mem }->dh E args xs.toList ->
  Calls P f xs w fun e w'=>∃ E' x r b7,e = .returned x/\R r b7/\iF E w E' w'/\dt E' w' { tmps := #[],defers:=[] } { fr:=[],mem:=b7 }/\df E' r x
theorem jY.det {P:g7} {f:FuncId} {args:List V} {mem:List bx} {r:V} {b7:List bx} (h:jY P f args mem fun r' m'=>r'=r/\m'=b7):bK P f args mem r b7 :=
 ⟨h.1,fun E w xs hs hx=>(h.2 E w xs hs hx).mono fun e w' ⟨E',x,r',m',h1,⟨h2,h3⟩,h4,h5,h6⟩=>by subst h2;subst h3;exact⟨E',x,h1,h4,h5,h6⟩⟩
theorem bK.rel {P:g7} {f:FuncId} {args:List V} {mem:List bx} {r:V} {b7:List bx} (h:bK P f args mem r b7):jY P f args mem fun r' m'=>r'=r/\m'=b7 :=
 ⟨h.1,fun E w xs hs hx=>(h.2 E w xs hs hx).mono fun e w' ⟨E',x,h1,h4,h5,h6⟩=>⟨E',x,_,_,h1,⟨rfl,rfl⟩,h4,h5,h6⟩⟩
theorem jY.mono {P:g7} {f:FuncId} {args:List V} {mem:List bx} {R R':V->List bx->Prop} (h:jY P f args mem R) (hR:∀ r m,R r m->R' r m):jY P f args mem R' :=
 ⟨h.1,fun E w xs hs hx=>(h.2 E w xs hs hx).mono fun e w' ⟨E',x,r',m',h1,h2,h4⟩=>⟨E',x,r',m',h1,hR _ _ h2,h4⟩⟩
theorem dt.bare {E:Env} {w:World} {a:Act} {st:St} (hs:dt E w a st):dt E w { tmps := #[],defers:=[] } { fr:=[],mem:=st.mem } :=
 ⟨hs.F,hs.lt,hs.mem,hs.top,hs.ej,hs.apart,.nil _⟩
theorem dt.Ih {E E':Env} {w w':World} {a:Act} {st:St} {b7:List bx} (hs:dt E w a st) (h:dt E' w' { tmps := #[],defers:=[] } { fr:=[],mem:=b7 }) (hle:E.le E'):dt E' w' a { st with mem:=b7 } :=
 ⟨h.F,h.lt,h.mem,h.top,h.ej,h.apart,hs.fr.mono hle⟩
def du (fv:V) (args:List V):Option (FuncId×List V) :=
 match fv with
 | .sc (.func (.func g) first cap)=>some (g,first.toList.map V.sc++args++cap.toList.map V.sc)
 | .jh (.func g) first cap=>some (g,first++args++cap)
 | _=>none
def sS (P:g7) (f:FuncId) (vs:List V) (r:V):Prop :=
 ∀ (E:Env) (w:World) (xs:Array Value),(∀ ad x,E.F ad=some x->w.cell? ad=some x)->dh E vs xs.toList->∃ x,(callFunc f xs).run P w = .ok (.value x) w/\df E r x
def abo (P:g7) (f:FuncId) (vs:List V):Option V :=
 match qa vs with
 | some l=>match dL P (callFunc f l.toArray) with|some (.value v)=>some (j6 v)|_=>none
 | none=>none
theorem Wp {P:g7} {f:FuncId} {vs:List V} {r:V} (h:abo P f vs=some r):sS P f vs r:=fun E w xs hF hx=>by
 unfold abo at h;split at h;·rename_i l hl;have:=rf hx hl;split at h;(·rename_i v hv;cases h;exact⟨v,ia _ (by rw [<- this] at hv;simpa using hv) w,lx E v⟩);cases h
 cases h
def zw (P:g7) (f:FuncId) (vs:List V) (st:St) (dst:Option Tmp) (Q:St->Prop):Prop :=
 (∃ vs' r,jj st.mem vs=some vs'/\dz P f vs' r/\Q ({ st with mem:=iP st.mem (vs.flatMap iz) r }.put dst r)) \/
 (∃ r b7,bK P f vs st.mem r b7/\Q ({ st with mem:=b7 }.put dst r)) \/
 (∃ R,jY P f vs st.mem R/\∀ r b7,R r b7->Q ({ st with mem:=b7 }.put dst r)) \/
 (∃ r,sS P f vs r/\Q (st.put dst r))
def KJ (P:g7) (k:Nat) (vs:List V) (mem:List bx) (b:Bool) (b7:List bx):Prop :=
 ∀ (E:Env) (w:World) (xs:Array Value) (l e c:Nat),dt E w { tmps := #[],defers:=[] } { fr:=[],mem:=mem }->dh E vs xs.toList->E.cE k 0=some (l,e,c) ->
  ∃ fn tmps assign body,(Instr.yield l xs).run P w = .ok (.round l fn tmps assign body) w/\RoundIn Fence.wide 0 P l fn tmps assign body w fun e w'=>∃ E',e = .returned (.bool b)/\iF E w E' w' /\
   dt E' w' { tmps := #[],defers:=[] } { fr:=[],mem:=b7 }
def Pe (P:g7) (k:Nat) (vs:List V) (mem:List bx) (R:Bool->List bx->Prop):Prop :=
 ∀ (E:Env) (w:World) (xs:Array Value) (l e c:Nat),dt E w { tmps := #[],defers:=[] } { fr:=[],mem:=mem }->dh E vs xs.toList->E.cE k 0=some (l,e,c) ->
  ∃ fn tmps assign body,(Instr.yield l xs).run P w = .ok (.round l fn tmps assign body) w/\RoundIn Fence.wide 0 P l fn tmps assign body w fun e w'=>∃ E' b b7,e = .returned (.bool b)/\R b b7/\iF E w E' w' /\
   dt E' w' { tmps := #[],defers:=[] } { fr:=[],mem:=b7 }
theorem Pe.det {P:g7} {k:Nat} {vs:List V} {mem b7:List bx} {b:Bool} (h:Pe P k vs mem fun b' m'=>b'=b/\m'=b7):KJ P k vs mem b b7:=fun E w xs l e c hs hx hb=>by obtain⟨fn,tmps,assign,body,h1,h2⟩:=h E w xs l e c hs hx hb;exact⟨fn,tmps,assign,body,h1,h2.mono fun e w' ⟨E',b',m',h3,⟨h4,h5⟩,h6,h7⟩=>by subst h4;subst h5;exact⟨E',h3,h6,h7⟩⟩
def wP (bT:List (Nat×Nat)) (ev:Operand->V):List (Nat×Operand)->List V->Option (List V)
 | [],cs=>some cs
 | (i,x) :: r,cs=>match bT[i]? with
  | some p=>match mr (ev x) with
   | some new=>if new.length=p.2/\p.1+p.2<=cs.length then wP bT ev r (kS cs p.1 new) else none
   | none=>none
  | none=>none
def nE (ev:Operand->V):List (Nat×Operand)->Option (List (Nat×Value))
 | []=>some []
 | (i,x) :: r=>match ev x with
  | .sc v=>match nE ev r with|some l=>some ((i,v) :: l)|none=>none
  | _=>none
def yz (P:g7) (T:g9) (l:List (Nat×Value)):Option V:=match dL P (Instr.build T l.toArray) with
 | some (.agg cs)=>some (.agg (cs.toList.map V.sc))
 | _=>none
def nW (P:g7) (tt:Table) (T:g9) (parts:List (Nat×Operand)) (ev:Operand->V):Option V :=
 match tt T with
 | some i=>if i.bT≠[] then (match wP i.bT ev parts (i.zero.map V.sc) with|some cs=>some (.agg cs)|none=>none) else
  match nE ev parts with|some l=>yz P T l|none=>none
 | none=>none
theorem sT {E:Env} {st:St} {a:Act} (gM:∀ x,df E (st.eval x) (a.eval x)):∀ {ps:List (Nat×Operand)} {l:List (Nat×Value)},nE st.eval ps=some l->(ps.map fun p=>(p.1,a.eval p.2))=l
 | [],l,h=>by cases h;rfl
 | (i,x) :: r,l,h=>by
  simp only [nE] at h
  split at h
  ·rename_i v hv
   split at h
   ·rename_i l' hl
    cases h
    have hx:=gM x
    rw [hv] at hx
    have:a.eval x=v:=by cases hx;rfl
    simp only [bo,this,sT gM hl]
   cases h
  cases h
def sU (tt:Table) (T:g9):V->Option Nat
 | .slice rows=>match ke tt T with|some _=>some rows.length|none=>none
 | .ms _ _ _ l=>match ke tt T with|some _=>some l|none=>none
 | _=>none
def qf (tt:Table) (op:BinOp) (T:g9) (x y:V):Option Nat :=
 match op,y with
 | .eql,.sc (.slice none 0 0)=>sU tt T x
 | .neq,.sc (.slice none 0 0)=>sU tt T x
 | _,_=>none
def rl (op:BinOp) (b:Bool):Bool:=match op with|.neq=>!b|_=>b
theorem vL {P:g7} {tt:Table} (ht:TT P tt) {T e:g9} (he:ke tt T=some e) (w:World) (xo yo:Operand) {op:BinOp} (ko:op = .eql\/op = .neq) (a:Option Addr) (l c:Nat) :
  (do eqGuard op T xo yo (.slice a l c) (.slice none 0 0);binOp op T (.slice a l c) (.slice none 0 0):Sem Value).run P w = .ok (.bool (rl op a.isNone)) w:=by
 unfold ke at he;split at he;·rename_i i hi;obtain⟨d,hd,-,wC,-⟩:=ht.desc T i hi;obtain rfl:=wC e he;(have heq:(Op.equal T (.slice a l c) (.slice none 0 0)).run P w = .ok a.isNone w:=by show (Op.equalIn (9999+1) T (.slice a l c) (.slice none 0 0)).run P w=_;rw [Op.equalIn];simp only [Sem.run_bind,bu hd,Result.andThen_ok];cases a <;> rfl);(have hg:(eqGuard op T xo yo (.slice a l c) (.slice none 0 0)).run P w = .ok () w:=by rcases ko with rfl|rfl <;> rfl);rw [Sem.run_bind,hg,Result.andThen_ok];(rcases ko with rfl|rfl);(·show (do pure (Value.bool (<- Op.equal T (.slice a l c) (.slice none 0 0))):Sem Value).run P w=_;rw [Sem.run_bind,heq];rfl);show (do pure (Value.bool (!(<- Op.equal T (.slice a l c) (.slice none 0 0)))):Sem Value).run P w=_;rw [Sem.run_bind,heq];rfl
 cases he
theorem F0 {P:g7} {tt:Table} (ht:TT P tt) {E:Env} {w:World} {T:g9} {op:BinOp} {vx vy:V} {x y:Value} (xo yo:Operand) (hx:df E vx x) (hy:df E vy y) {n:Nat} (h:qf tt op T vx vy=some n) :
  ∃ b:Bool,(n≠0->b=false)/\(do eqGuard op T xo yo x y;binOp op T x y:Sem Value).run P w = .ok (.bool (rl op b)) w:=by
 have gen:(op = .eql\/op = .neq)->y = .slice none 0 0->sU tt T vx=some n->∃ b:Bool,(n≠0->b=false)/\(do eqGuard op T xo yo x y;binOp op T x y:Sem Value).run P w = .ok (.bool (rl op b)) w:=by intro ko hyy h;subst hyy;unfold sU at h;split at h;(·split at h;(·rename_i e he;cases h;cases hx with|slice _ _ a cap vz ad xf ha mF hs hF h1 h2 =>refine⟨a.isNone,fun hn=>?_,vL ht he w xo yo ko _ _ _⟩;rw [ha (fun e=>hn (by rw [e];rfl))];rfl);cases h);(·split at h;(·rename_i e he;cases h;cases hx with|ms _ b v s l g e c a cap hb hl h0 hc =>refine⟨a.isNone,fun hn=>?_,vL ht he w xo yo ko _ _ _⟩;rw [hl (by omega)];rfl|jr=>exact⟨true,fun hn=>absurd rfl hn,vL ht he w xo yo ko _ _ _⟩);cases h);cases h
 unfold qf at h;split at h;·exact gen (.inl rfl) (fL hy) h
 ·exact gen (.inr rfl) (fL hy) h
 cases h
def evP (mem:List bx) (ev:Operand->V) (x:Operand):V:=match mT mem (ev x) with|some v=>v|none=>ev x
def F1 (ev:Operand->V) (parts:List (Nat×Operand)):List (Nat×Nat):=(parts.map fun p=>ev p.2).flatMap iz
def Wq (tt:Table) (T:g9) (len:Nat) (parts:List (Nat×Operand)) (st:St):Option (Nat×List V) :=
 match jj st.mem (parts.map fun p=>st.eval p.2) with
 | some _=>yv tt T len parts (evP st.mem st.eval)
 | none=>none
def F2 (tt:Table) (mem:List bx) (T:g9) (p v:V):Option (List bx) :=
 match mT mem v with
 | some v'=>nU tt (iA mem (iz v)) T p v'
 | none=>none
def zy (tt:Table) (st:St) (ts:List g9) (s x:V) (dst:Option Tmp) (Q:St->Prop):Prop :=
 match pI tt st.mem ts s x with
 | some (size,b,v,l,rs,xs)=>∀ (o:Nat) (nC:List V),nC.drop o=rs++xs->o+(l+xs.length)=nC.length->Q ({ st with mem:=st.mem.set b (.rows (v+1) size nC) }.put dst (.ms b (v+1) o (l+xs.length)))
 | none=>False
def dv (P:g7) (tt:Table) (key:Nat) (o:Oper) (st:St) (Q:St->Prop):Prop :=
 match o.op with
 | .alloc T=>match tt T with
  | some i=>Q ({ st with mem:=dw st.mem key (.box (i.zero.map V.sc)) }.put o.dst (.ptr key 0))
  | none=>False
 | .box _ x=>match mr (st.eval x) with
  | some cs=>Q ({ st with mem:=dw st.mem key (.box cs) }.put o.dst (.ptr key 0))
  | none=>False
 | .build T parts=>match nW P tt T parts.toList st.eval with
  | some v=>Q (st.put o.dst v)
  | none=>False
 | .buildSlice T len parts=>match yv tt T len parts.toList st.eval with
  | some (size,rs)=>Q ({ st with mem:=dw st.mem key (.rows 0 size rs) }.put o.dst (.ms key 0 0 len))
  | none=>match Wq tt T len parts.toList st with
   | some (size,rs)=>Q ({ st with mem:=dw (iA st.mem (F1 st.eval parts.toList)) key (.rows 0 size rs) }.put o.dst (.ms key 0 0 len))
   | none=>False
 | .store T p x=>match nU tt st.mem T (st.eval p) (st.eval x) with
  | some b7=>Q ({ st with mem:=b7 }.put o.dst (.sc undef))
  | none=>match F2 tt st.mem T (st.eval p) (st.eval x) with
   | some b7=>Q ({ st with mem:=b7 }.put o.dst (.sc undef))
   | none=>False
 | .call { callee:=.builtin .append,args:=xs,argTypes:=ts }=>match xs.toList.map st.eval with
  | [s,x]=>match fC tt st.mem ts.toList s x with
   | some (size,sO,rows)=>Q ({ st with mem:=(eU st.mem key size rows sO).1 }.put o.dst (eU st.mem key size rows sO).2)
   | none=>zy tt st ts.toList s x o.dst Q
  | _=>False
 | .call { callee:=.value f,args:=xs,.. }=>match st.eval f with
  | .kx k=>(∃ b b7,KJ P k (xs.toList.map st.eval) st.mem b b7/\Q ({ st with mem:=b7 }.put o.dst (.sc (.bool b)))) \/
    (∃ R,Pe P k (xs.toList.map st.eval) st.mem R/\∀ b b7,R b b7->Q ({ st with mem:=b7 }.put o.dst (.sc (.bool b))))
  | fv=>match du fv (xs.toList.map st.eval) with
   | some (g,vs)=>zw P g vs st o.dst Q
   | none=>False
 | .makeSlice T l c=>match zv tt T (st.eval l) (st.eval c) with
  | some (size,rs,_)=>Q ({ st with mem:=dw st.mem key (.rows 0 size rs) }.put o.dst (.ms key 0 0 rs.length))
  | none=>False
 | .makeMap _ none=>Q ({ st with mem:=dw st.mem key (.map [] 0) }.put o.dst (.mp key))
 | .mapUpdate T m k x=>match ee P st.mem T (st.eval m) (st.eval k) (st.eval x) with
  | some b7=>Q ({ st with mem:=b7 }.put o.dst (.sc undef))
  | none=>False
 | .insert T m k x=>match ee P st.mem T (st.eval m) (st.eval k) (st.eval x) with
  | some b7=>Q ({ st with mem:=b7 }.put o.dst (.sc undef))
  | none=>False
 | .mapEntry T m k=>match yw P st.mem T (st.eval m) (st.eval k) with
  | some (b7,v)=>Q ({ st with mem:=b7 }.put o.dst v)
  | none=>False
 | .entryStore _ m s x=>match yx st.mem (st.eval m) (st.eval s) (st.eval x) with
  | some b7=>Q ({ st with mem:=b7 }.put o.dst (.sc undef))
  | none=>False
 | .call { callee:=.builtin .delete,args:=xs,argTypes:=ts }=>match ui P st.mem ts (xs.toList.map st.eval) with
  | some b7=>Q ({ st with mem:=b7 }.put o.dst (.sc (.tuple #[])))
  | none=>False
 | .range T x=>match qA P st.mem T (st.eval x) with
  | some B=>Q ({ st with mem:=dw st.mem key B }.put o.dst (.ptr key 0))
  | none=>False
 | .next it str=>wM st o.dst (st.eval it) str Q
 | .binOp op T x y _=>match qf tt op T (st.eval x) (st.eval y) with
  | some n=>∀ b:Bool,(n≠0->b=false)->Q (st.put o.dst (.sc (.bool (rl op b))))
  | none=>match lM P tt st o with
   | some v=>Q (st.put o.dst v)
   | none=>False
 | _=>match lM P tt st o with
  | some v=>Q (st.put o.dst v)
  | none=>False
theorem BB {P:g7} {E:Env} {w:World} {fv:V} {fx:Value} {args:List V} {xs:Array Value} {g:FuncId} {vs:List V} (hf:df E fv fx) (ha:dh E args xs.toList) (h:du fv args=some (g,vs)) :
  ∃ d,∃ ys:Array Value,dh E vs ys.toList/\(Deferred.ofValue fx xs).run P w = .ok d w/\(invoke d.target d.args).run P w=(callFunc g ys).run P w:=by
 unfold du at h;split at h;·simp only [aD,dK] at h;obtain⟨rfl,rfl⟩:=h;obtain rfl:=fL hf;(rename_i g first cap);have K3:∀ zs:Array Value,dh E (zs.toList.map V.sc) zs.toList:=fun zs=>⟨by simp,fun i c x hc hx=>mQ E zs i c x hc (by simpa using hx)⟩;exact⟨{ target:=.fn (.func g) cap,args:=first++xs },first++xs++cap,by simp only [AE];exact ((K3 first).append ha).append (K3 cap),rfl,by simp [invoke]⟩
 ·simp only [aD,dK] at h;obtain⟨rfl,rfl⟩:=h;rename_i g _ _;cases hf with|jh _ _ first cap ys zs h1 h2 h3 h4 =>refine⟨{ target:=.fn (.func g) zs,args:=ys++xs },ys++xs++zs,?_,rfl,by simp [invoke]⟩;simp only [AE];exact (dh.append (dh.append ⟨by simpa using h1,fun i c x hc hx=>h3 i c x hc (by simpa using hx)⟩ ha) ⟨by simpa using h2,fun i c x hc hx=>h4 i c x hc (by simpa using hx)⟩)
 cases h
theorem sW {P:g7} {E:Env} {w:World} {fv:V} {fx:Value} {args:List V} {xs:Array Value} {g:FuncId} {vs:List V} (hf:df E fv fx) (ha:dh E args xs.toList) (h:du fv args=some (g,vs)) :
  ∃ ys:Array Value,dh E vs ys.toList/\(do let d <- Deferred.ofValue fx xs;invoke d.target d.args:Sem Next).run P w=(callFunc g ys).run P w:=by
 unfold du at h;split at h;·simp only [aD,dK] at h;obtain⟨rfl,rfl⟩:=h;obtain rfl:=fL hf;(rename_i first cap);have K3:∀ zs:Array Value,dh E (zs.toList.map V.sc) zs.toList:=fun zs=>⟨by simp,fun i c x hc hx=>mQ E zs i c x hc (by simpa using hx)⟩;refine⟨first++xs++cap,by simp only [AE];exact ((K3 first).append ha).append (K3 cap),?_⟩;simp [Deferred.ofValue,invoke]
 ·simp only [aD,dK] at h;obtain⟨rfl,rfl⟩:=h;cases hf with|jh _ _ first cap ys zs h1 h2 h3 h4 =>refine⟨ys++xs++zs,?_,?_⟩;(·simp only [AE];exact (dh.append (dh.append ⟨by simpa using h1,fun i c x hc hx=>h3 i c x hc (by simpa using hx)⟩ ha) ⟨by simpa using h2,fun i c x hc hx=>h4 i c x hc (by simpa using hx)⟩));simp [Deferred.ofValue,invoke]
 cases h
theorem Ii {P:g7} {tt:Table} {E:Env} {bT:List (Nat×Nat)} {ev:Operand->V} {av:Operand->Value} (kV:∀ o,df E (ev o) (av o)):∀ (parts:List (Nat×Operand)) (cs:List V) (xs:Array Value) (out:List V),
  dh E cs xs.toList->wP bT ev parts cs=some out->∃ ys,Instr.fill (bT[·]?) xs (parts.map fun p=>(p.1,av p.2))=some ys/\dh E out ys.toList:=by intro parts;induction parts with|nil=>intro cs xs out hr h;simp only [wP,aD] at h;subst h;exact⟨xs,rfl,hr⟩|cons p r ih =>intro cs xs out hr h;obtain⟨i,x⟩:=p;simp only [wP] at h;split at h;(·rename_i p hp;split at h;(·rename_i new qc;split at h;(·rename_i hc;obtain⟨h1,h2⟩:=rj (kV x) qc;(have ly:(av x).cells.size=p.2:=by have:=h1.1;simp at this;omega);(have sA:xs.size=cs.length:=by have:=hr.1;simp at this;omega);obtain⟨ys,h3,h4⟩:=ih _ _ out (zj new _ cs xs p.1 h1 hr) h;refine⟨ys,?_,h4⟩;simp only [bo,Instr.fill,hp,ly];rw [g5 (by simp;omega),<- h3];congr 1;rw [<- awa,awG];exact zo p.1 (av x).cells.toList 0 xs);cases h);cases h);cases h
theorem wQ {P:g7} {tt:Table} (ht:TT P tt) {E:Env} {w:World} {a:Act} {st:St} (hs:dt E w a st) {T:g9} {parts:Array (Nat×Operand)} {v:V} (h:nW P tt T parts.toList st.eval=some v) :
  ∃ x,(Instr.build T (parts.map fun (i,x)=>(i,a.eval x))).run P w = .ok x w/\df E v x:=by
 unfold nW at h;split at h
 ·rename_i i hi;split at h
  ·rename_i dI;split at h
   ·rename_i cs nj;simp only [aD] at h;subst h;obtain⟨info,u9,-,-,z,hz,AL⟩:=ht.size T i hi;obtain⟨d,hd,-,-,nX⟩:=ht.desc T i hi;obtain⟨ys,h1,h2⟩:=Ii (P:=P) (tt:=tt) hs.eval parts.toList _ z.cells cs (by rw [AL];exact⟨by simp,fun i c x hc hx=>by simp only [ae,hx,bU,aD] at hc;subst hc;exact .sc _ _⟩) nj;have hfs:∃ fs,d = .struct fs/\fs.size=i.bT.length/\∀ k (hk:k<fs.size),∃ inf,P.info? fs[k].type=some inf/\i.bT[k]?=some (fs[k].offset,inf.size):=by have Bp:0<i.bT.length:=List.length_pos_iff.2 dI;obtain⟨fs,fd,inf,rfl,hlen,-⟩:=nX 0 (i.bT[0]).1 (i.bT[0]).2 (bf Bp);refine⟨fs,rfl,hlen,fun k hk=>?_⟩;obtain⟨fs',fd,inf,he,-,BC,Dv,hf3,F3,-⟩:=nX k (i.bT[k]'(by omega)).1 (i.bT[k]'(by omega)).2 (bf (by omega));cases he;rw [cb hk] at BC;cases BC;exact⟨inf,hf3,by rw [bf (by omega),Dv,F3]⟩
    obtain⟨fs,rfl,hlen,cZ⟩:=hfs
    have K3:(fs.mapM fun f=>do pure (f.offset,<- sizeOf f.type):Sem (Array (Nat×Nat))).run P w = .ok i.bT.toArray w:=by
     have gen:∀ (l:List Field) (fl:List (Nat×Nat)),l.length=fl.length->(∀ k (hk:k<l.length),∃ inf,P.info? l[k].type=some inf/\fl[k]?=some (l[k].offset,inf.size)) ->
       (l.mapM fun f=>do pure (f.offset,<- sizeOf f.type):Sem (List (Nat×Nat))).run P w = .ok fl w:=by
      intro l
      induction l with
      | nil=>intro fl hl _;have:fl=[]:=b9.1 hl.symm;subst this;rfl
      | cons f r ih =>
       intro fl hl hk
       cases fl with
       | nil=>simp at hl
       | cons p fl =>
        obtain⟨inf,h1,h2⟩:=hk 0 (by simp)
        simp only [List.getElem_cons_zero,aI,aD] at h1 h2
        subst h2
        have:=ih fl (by simpa using hl) fun k ga=>hk (k+1) (Nat.succ_lt_succ ga)
        simp only [av0,Sem.run_bind,gJ h1,Result.andThen_ok,Sem.run_pure,this]
     have:=gen fs.toList i.bT hlen fun k hk=>cZ k hk;rw [awl];simp only [Sem.run_map,this,Result.andThen_ok]
    have vI:(parts.map fun (i,x)=>(i,a.eval x)).toList=parts.toList.map fun p=>(p.1,a.eval p.2):=by simp
    refine⟨.agg ys,?_,.agg _ _ _ (by simpa using h2.1) fun i c x hc hx=>h2.2 i c x hc (by simpa using hx)⟩;unfold Instr.build;have hzv:(zeroValue T).run P w = .ok z w:=by simp [zeroValue,fJ u9,hz]
    simp only [Sem.run_bind,hzv,Result.andThen_ok,bu hd,K3,vI];have afV:(fun (k:Nat)=>i.bT.toArray[k]?)=(fun (k:Nat)=>i.bT[k]?):=by funext k;simp
    simp only [afV,h1];simp
   cases h
  split at h;·rename_i l hl;have hp:=sT hs.eval hl;unfold yz at h;split at h;(·rename_i cs nj;cases h;refine⟨.agg cs,?_,.agg _ _ _ (by simp) (mQ E cs)⟩;(have vI:(parts.map fun (i,x)=>(i,a.eval x))=l.toArray:=by rw [<- hp];apply ake.1;simp);rw [vI];exact ia _ nj w);cases h
  cases h
 cases h
end Go.Eng
end
