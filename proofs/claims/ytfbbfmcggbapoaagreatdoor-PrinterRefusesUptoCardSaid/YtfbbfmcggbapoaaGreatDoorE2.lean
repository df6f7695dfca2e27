import Derived.Test.YtfbbfmcggbapoaaGreatDoorE1
import Derived.LoopNIn
import Derived.RangeFuncLeaves
import Derived.RangeFuncCalls
open Array renaming foldl_toList→arN,getElem?_eq_getElem→cd,mapM_eq_mapM_toList→ar0,toList_append→zp,toList_inj→ahi,toList_zipIdx→asp
open List renaming all_eq_true→aZ,any_eq_true→tV,append_nil→ah,flatMap_cons→ae,flatMap_nil→ag,foldl_nil→rn,getElem?_cons_zero→aJ,getElem?_eq_getElem→aw,getElem?_eq_some_iff→az,getElem?_map→ak,getElem?_set→bX,length_eq_zero_iff→cj,mapM_cons→arC,map_cons→bT,mem_append→ib,mem_cons→cI,mem_of_getElem?→aE,mem_singleton→dq,not_mem_nil→iM
open Nat renaming add_mul→jl,le_refl→aB,lt_of_lt_of_le→rm
open Option renaming map_some→cx
open Option.some renaming injEq→aF
open Prod.mk renaming injEq→dy
set_option linter.all false
section
namespace Go.Eng
variable [bB]
open Go.RowKit (Below)
def ej (mem:List bx):V→Option V
  | .undef=>some .undef
  | .sc v=>some (pZ (.sc v))
  | .slice rows=>some (.slice rows)
  | .full rows=>some (.slice rows)
  | .fq cs=>some (.fq cs)
  | .gn=>some .gn
  | .ms b v s l=>match mem[b]? with
    | some (.rows v' _ rs)=>if v'=v∧s+l≤rs.length then some (.slice ((rs.drop s).take l)) else none
    | some (.rP v' _ rs)=>if v'=v∧s+l≤rs.length then some (.slice ((rs.drop s).take l)) else none
    | _=>none
  | .iU f [] []=>some (.sc (.func f #[] #[]))
  | _=>none
def iD (mem:List bx):List V→Option (List V)
  | []=>some []
  | c :: r=>match ej mem c with
    | some c'=>match iD mem r with|some r'=>some (c' :: r')|none=>none
    | none=>none
def ke (mem:List bx):V→Option V
  | .agg cs=>match iD mem cs with|some l=>some (.agg l)|none=>none
  | v=>ej mem v
def iE (mem:List bx):List V→Option (List V)
  | []=>some []
  | c :: r=>match ke mem c with
    | some c'=>match iE mem r with|some r'=>some (c' :: r')|none=>none
    | none=>none
def CA (mem:List bx):V→Option V
  | .eg vs=>match iE mem vs with|some l=>some (.eg l)|none=>none
  | v=>ke mem v
def iF:V→List (Nat×Nat)
  | .ms b v _ _=>[(b,v)]
  | _=>[]
def fP:V→List (Nat×Nat)
  | .agg cs=>cs.flatMap iF
  | v=>iF v
def refs:V→List (Nat×Nat)
  | .eg vs=>vs.flatMap fP
  | v=>fP v
def Env.qx (E:Env) (w:World) (keys:List (Nat×Nat)):Env :=
  { F:=fun ad=>match E.F ad with
      | some x=>some x
      | none=>if keys.any (fun k=>match E.cC k.1 k.2 with|some (g,_,_)=>g==ad.block|none=>false) then w.cell? ad else none
    cC:=E.cC
    gl:=E.gl.mono fun ad x h=>by simp only [h] }
theorem Env.xp (E:Env) (w:World) (keys:List (Nat×Nat)):E.le (E.qx w keys):=⟨fun ad x h=>by simp [Env.qx,h],fun _ _ _ h=>h⟩
theorem Env.K8 {E:Env} {w:World} {keys:List (Nat×Nat)} (hF:∀ ad x,E.F ad=some x→w.cell? ad=some x) {ad:Addr} {x:Value} (h:(E.qx w keys).F ad=some x):w.cell? ad=some x:=by
  unfold Env.qx at h;dsimp only at h;split at h;·rename_i y hy;cases h;exact hF _ _ hy
  ·split at h;(·exact h);·cases h
theorem Env.Er {E:Env} {w:World} {keys:List (Nat×Nat)} {ad:Addr} {x:Value} (h:(E.qx w keys).F ad=some x):E.F ad=some x∨∃ k∈keys,∃ e c,E.cC k.1 k.2=some (ad.block,e,c):=by
  unfold Env.qx at h;dsimp only at h;split at h;·rename_i y hy;cases h;exact .inl hy
  ·split at h;(·rename_i As;obtain⟨k,hk,hm⟩:=tV.1 As;split at hm;(·rename_i g e c hb;simp only [beq_iff_eq] at hm;subst hm;exact .inr ⟨k,hk,e,c,hb⟩);·cases hm);·cases h
theorem Env.Yf {E:Env} {w:World} {keys:List (Nat×Nat)} {k v g e c:Nat} (hk:(k,v)∈keys) (hb:E.cC k v=some (g,e,c)) {o:Nat} {x:Value} (hn:E.F ⟨g,o,none⟩=none) (hx:w.cell? ⟨g,o,none⟩=some x):(E.qx w keys).F ⟨g,o,none⟩=some x:=by have:keys.any (fun k=>match E.cC k.1 k.2 with|some (g',_,_)=>g'==g|none=>false)=true:=tV.2 ⟨(k,v),hk,by simp [hb]⟩;unfold Env.qx;dsimp only;rw [hn];dsimp only;rw [if_pos this];exact hx
theorem Gn {E:Env} {w:World} {a:Act} {st:St} (hs:de E w a st) {keys:List (Nat×Nat)} {k v g e c:Nat} (hk:(k,v)∈keys) (hb:E.cC k v=some (g,e,c)) {B:bx} (hm:st.mem[k]?=some B) {rs:List V} {e':Nat}
    (hB:B = .rows v e' rs∨B = .rP v e' rs):e'=e∧rs.length≤c∧mE E.pure e rs (fun o=>(E.qx w keys).F ⟨g,o,none⟩):=by
  rcases hB with rfl|rfl
  ·(rcases hs.mem k _ hm with ⟨-,hn⟩|⟨g',T,xs,c',gD,hh,kO,hl,hr,hf⟩);(·rw [hb] at hn;cases hn);·rw [hb] at gD;cases gD;refine⟨rfl,hl,fun i row hi=>?_⟩;obtain⟨h1,h2⟩:=hr i row hi;exact⟨h1,fun j cc hj=>let ⟨x,hx,h⟩:=h2 j cc hj;⟨x,Env.Yf hk hb (hf _) (by rw [nQ hh];exact hx),h⟩⟩
  ·(rcases hs.mem k _ hm with ⟨-,hn⟩|⟨g',c',gD,hl,hr⟩);(·rw [hb] at hn;cases hn);rw [hb] at gD;cases gD;refine⟨rfl,hl,fun i row hi=>?_⟩;obtain⟨h1,h2⟩:=hr i row hi;exact⟨h1,fun j cc hj=>let ⟨x,hx,h⟩:=h2 j cc hj;⟨x,(Env.xp E w keys).F _ _ hx,h⟩⟩
theorem pE {E:Env} {w:World} {a:Act} {st:St} (hs:de E w a st) {keys:List (Nat×Nat)} {v v':V} {x:Value} (hr:cY E v x) (h:ej st.mem v=some v') (hk:∀ k∈iF v,k∈keys):cY (E.qx w keys).pure v' x:=by
  have hle:=Env.lq (Env.xp E w keys)
  have V1:∀ {b v s l:Nat} {B:bx} {rs:List V} {e':Nat},cY E (.ms b v s l) x→(b,v)∈keys→st.mem[b]?=some B→(B = .rows v e' rs∨B = .rP v e' rs)→s+l≤rs.length→cY (E.qx w keys).pure (.slice ((rs.drop s).take l)) x:=by
    intro b v s l B rs e' hr fK hm hB hl;have hlen:((rs.drop s).take l).length=l:=by simp;omega
    rcases El hr with ⟨rfl,rfl⟩|⟨g,e,c,aa,cap,rfl,hb,om,-,hlc⟩
    ·rw [show (rs.drop s).take 0=[] from by simp];exact .slice _ [] none 0 0 default (fun _ _=>default) (by simp) (by simp) (by simp) (by simp) (by simp) (by simp)
    · obtain⟨rfl,K5,hrk⟩:=Gn hs fK hb hm hB
      have kX:∀ (i:Nat) (row:V) (j:Nat) (cc:V),((rs.drop s).take l)[i]?=some row→row.cells[j]?=some cc→∃ y,(E.qx w keys).F ⟨g,(s+i)*e'+j,none⟩=some y∧y.oneCell'=true∧cY E.pure cc y:=fun i row j cc hi hj =>
        (hrk _ _ (zv hi)).2 j cc hj
      let xf:Nat→Nat→Value:=fun i j=>((E.qx w keys).F ⟨g,(s+i)*e'+j,none⟩).getD default;have F3:cY (E.qx w keys).pure (.slice ((rs.drop s).take l)) (.slice aa ((rs.drop s).take l).length cap):=by refine .slice _ _ _ _ e' ⟨g,s*e',none⟩ xf (fun dL=>om ?_) (by rw [hlen];exact hlc.1) (fun i row hi=>(hrk _ _ (zv hi)).1) (fun i row j cc hi hj=>?_) (fun i row j cc hi hj=>?_) fun i row j cc hi hj=>?_;(·have:((rs.drop s).take l).length≠0:=fun h0=>dL (cj.1 h0);omega);(·obtain⟨y,hy,-⟩:=kX i row j cc hi hj;(have Ya:s*e'+(i*e'+j)=(s+i)*e'+j:=by rw [jl];omega);rw [add_lit,Ya];show (E.qx w keys).F _=some (xf i j);simp [xf,hy]);(·obtain⟨y,hy,h1,-⟩:=kX i row j cc hi hj;simp [xf,hy,h1]);·obtain⟨y,hy,-,h2⟩:=kX i row j cc hi hj;(have:xf i j=y:=by simp [xf,hy]);rw [this];exact h2.mono hle
      rw [hlen] at F3;exact F3
  unfold ej at h;split at h;·simp only [aF] at h;subst h;exact .undef _ _
  ·simp only [aF] at h;subst h;exact vz (by rw [fu hr];exact .sc _ _)
  ·simp only [aF] at h;subst h;cases hr with|slice _ _ a cap ux ad xf ha mh hz hF h1 hR=>exact (cY.slice E.pure _ a cap ux ad xf ha mh hz hF h1 hR).mono hle
  ·simp only [aF] at h;subst h;cases hr with|full _ _ a h =>cases h with|slice _ _ a cap ux ad xf ha mh hz hF h1 hR=>exact (cY.slice E.pure _ a _ ux ad xf ha (aB _) hz hF h1 hR).mono hle
  ·simp only [aF] at h;subst h;cases hr with|fq _ _ ad xf hF hR=>exact (cY.fq E.pure _ ad xf hF hR).mono hle
  ·simp only [aF] at h;subst h;cases hr with|gn=>exact .gn _
  ·rename_i b v s l;have fK:(b,v)∈keys:=hk (b,v) (by simp [iF]);split at h;(·rename_i v' e rs hm;split at h;(·rename_i hl;obtain⟨rfl,hl⟩:=hl;simp only [aF] at h;subst h;exact V1 hr fK hm (.inl rfl) hl);·cases h);(·rename_i v' e rs hm;split at h;(·rename_i hl;obtain⟨rfl,hl⟩:=hl;simp only [aF] at h;subst h;exact V1 hr fK hm (.inr rfl) hl);·cases h);·cases h
  ·simp only [aF] at h;subst h;cases hr with|iU _ f _ _ xs ys hx hy h1 h2 =>(have e1:xs = #[]:=by simpa using hx.symm);(have e2:ys = #[]:=by simpa using hy.symm);subst e1;subst e2;exact .sc _ _
  ·cases h
theorem r6 {E:Env} {w:World} {a:Act} {st:St} (hs:de E w a st) {keys:List (Nat×Nat)}:∀ {vs vs':List V} {xs:List Value},cU E vs xs→iD st.mem vs=some vs'→(∀ k∈vs.flatMap iF,k∈keys) →
    cU (E.qx w keys).pure vs' xs
  | [],vs',xs,hr,h,_=>by simp [iD] at h;subst h;rw [hr.of_nil];exact .nil _
  | v :: vs,vs',xs,hr,h,hk=>by
    obtain⟨x,ys,rfl,h1,h2⟩:=hr.of_cons
    simp only [iD] at h
    split at h
    · rename_i c' hc
      split at h
      · rename_i r' FW
        simp only [aF] at h;subst h
        exact .cons (pE hs h1 hc fun k lY=>hk k (by simp [lY])) (r6 hs h2 FW fun k lY=>hk k (by simp at lY ⊢;exact .inr lY))
      · cases h
    · cases h
theorem At {E:Env} {w:World} {a:Act} {st:St} (hs:de E w a st) {keys:List (Nat×Nat)} {v v':V} {x:Value} (hr:cY E v x) (h:ke st.mem v=some v') (hk:∀ k∈fP v,k∈keys):cY (E.qx w keys).pure v' x:=by
  unfold ke at h;split at h;·split at h;(·rename_i cs l hl;simp only [aF] at h;subst h;cases hr with|agg _ _ xs hlen hh =>have:=r6 hs (xs:=xs.toList) ⟨by simpa using hlen,fun i c x hc hx=>hh i c x hc (by simpa using hx)⟩ hl (by simpa [fP] using hk);exact .agg _ _ _ (by simpa using this.1) fun i c x hc hx=>this.2 i c x hc (by simpa using hx));·cases h
  ·rename_i dL;refine pE hs hr h fun k lY=>hk k ?_;cases v <;> first|exact lY|exact absurd rfl (dL _)
theorem mG {E:Env} {w:World} {a:Act} {st:St} (hs:de E w a st) {keys:List (Nat×Nat)}:∀ {vs vs':List V} {xs:List Value},cU E vs xs→iE st.mem vs=some vs'→(∀ k∈vs.flatMap fP,k∈keys) →
    cU (E.qx w keys).pure vs' xs
  | [],vs',xs,hr,h,_=>by simp [iE] at h;subst h;rw [hr.of_nil];exact .nil _
  | v :: vs,vs',xs,hr,h,hk=>by
    obtain⟨x,ys,rfl,h1,h2⟩:=hr.of_cons
    simp only [iE] at h
    split at h
    · rename_i c' hc
      split at h
      · rename_i r' FW
        simp only [aF] at h;subst h
        exact .cons (At hs h1 hc fun k lY=>hk k (by simp [lY])) (mG hs h2 FW fun k lY=>hk k (by simp at lY ⊢;exact .inr lY))
      · cases h
    · cases h
theorem C4 {E:Env} {w:World} {a:Act} {st:St} (hs:de E w a st) {keys:List (Nat×Nat)} {v v':V} {x:Value} (hr:cY E v x) (h:CA st.mem v=some v') (hk:∀ k∈refs v,k∈keys):cY (E.qx w keys).pure v' x:=by
  unfold CA at h;split at h;·split at h;(·rename_i vs l hl;simp only [aF] at h;subst h;cases hr with|eg _ _ xs hlen hh =>have:=mG hs (xs:=xs.toList) ⟨by simpa using hlen,fun i c x hc hx=>hh i c x hc (by simpa using hx)⟩ hl (by simpa [refs] using hk);exact .eg _ _ _ (by simpa using this.1) fun i c x hc hx=>this.2 i c x hc (by simpa using hx));·cases h
  ·rename_i dL;refine At hs hr h fun k lY=>hk k ?_;cases v <;> first|exact lY|exact absurd rfl (dL _)
def b8 (P:Program) (f:FuncId) (args:List V) (r:V):Prop :=
  (∀ (xs:Array Value) (w:World),(callFunc f xs).run P w = .ok (.enter f xs) w) ∧
  ∀ (F:Addr→Option Value) (hg:Gl F) (w:World) (xs:Array Value),(∀ ad x,F ad=some x→w.cell? ad=some x)→cU ⟨F,fun _ _=>none,hg⟩ args xs.toList →
    Calls P f xs w fun e w'=>∃ F' x,e = .returned x∧(∀ ad y,F ad=some y→F' ad=some y)∧(∀ ad y,F' ad=some y→w'.cell? ad=some y)∧(∀ ad y,F' ad=some y→F ad=some y∨w.heap.size≤ad.block) ∧
      (∃ Gp,cY ⟨F',fun _ _=>none,Gp⟩ r x)∧Below w.heap.size w w'
def Gq:V→Bool
  | .undef=>true
  | .sc _=>true
  | .agg cs=>cs.all (fun c=>match c with|.sc _=>true|_=>false)
  | _=>false
def Pc:V→Bool
  | .eg vs=>vs.all Gq
  | v=>Gq v
theorem C5 {E E':Env} {v:V} {x:Value} (h:cY E v x) (hf:Gq v=true):cY E' v x:=by cases h with|undef=>exact .undef _ _|sc=>exact .sc _ _|agg _ cs xs hl hh =>refine .agg _ _ _ hl fun i c x hc hx=>?_;have h1:=hh i c x hc hx;simp only [Gq,aZ] at hf;have:=hf c (aE hc);cases c <;> simp at this;rw [fu h1];exact .sc _ _|_=>simp [Gq] at hf
theorem My {E E':Env} {v:V} {x:Value} (h:cY E v x) (hf:Pc v=true):cY E' v x:=by
  unfold Pc at hf;split at hf;·cases h with|eg _ vs xs hl hh =>refine .eg _ _ _ hl fun i c x hc hx=>C5 (hh i c x hc hx) ?_;simp only [aZ] at hf;exact hf c (aE hc)
  ·exact C5 h hf
def y1 (mem:List bx) (k:Nat×Nat):List bx:=match mem[k.1]? with|some (.rows v e rs)=>if v=k.2 then mem.set k.1 (.rP v e rs) else mem|_=>mem
def fw (mem:List bx) (keys:List (Nat×Nat)):List bx:=keys.foldl y1 mem
def rz (keys:List (Nat×Nat)) (q:Nat):Option bx→Option bx
  | some (.rows v e rs)=>if (q,v)∈keys then some (.rP v e rs) else some (.rows v e rs)
  | B=>B
theorem Pe (mem:List bx) (k:Nat×Nat) (q:Nat):(y1 mem k)[q]?=rz [k] q mem[q]?:=by
  obtain⟨k,kv⟩:=k;unfold y1;dsimp only;split;·rename_i v e rs hk;split;(·rename_i hv;subst hv;rw [bX];by_cases hq:k=q;(·subst hq;rw [hk];simp [rz,(az.1 hk).1]);·rw [if_neg hq];have Tl:¬ q=k:=fun e=>hq e.symm;cases hB:mem[q]? with|none=>rfl|some B=>cases B <;> simp [rz,Tl]);·rename_i hv;cases hB:mem[q]? with|none=>rfl|some B =>(cases B <;> first|rfl|skip);rename_i v' e' mZ;simp only [rz,dq,dy];rw [if_neg];rintro⟨rfl,rfl⟩;rw [hk] at hB;cases hB;exact hv rfl
  ·rename_i hk;cases hB:mem[q]? with|none=>rfl|some B =>(cases B <;> first|rfl|skip);rename_i v e rs;simp only [rz,dq,dy];rw [if_neg];rintro⟨rfl,rfl⟩;exact hk _ _ _ hB
theorem uF (keys:List (Nat×Nat)):∀ (mem:List bx) (q:Nat),(fw mem keys)[q]?=rz keys q mem[q]?:=by induction keys with|nil=>(intro mem q;simp only [fw,rn];cases hB:mem[q]? with|none=>rfl|some B=>cases B <;> simp [rz])|cons k r ih =>intro mem q;show (fw (y1 mem k) r)[q]?=_;rw [ih,Pe];cases hB:mem[q]? with|none=>rfl|some B =>(cases B <;> first|rfl|skip);rename_i v e rs;simp only [rz,cI,iM,or_false];by_cases hq:(q,v)=k;(·rw [if_pos hq,if_pos (.inl hq)]);·rw [if_neg hq];by_cases hr:(q,v)∈r;(·rw [if_pos (.inr hr)];simp [hr]);·rw [if_neg (fun h=>h.elim hq hr)];simp [hr]
theorem uf (keys:List (Nat×Nat)):∀ (mem:List bx),(fw mem keys).length=mem.length:=by induction keys with|nil=>intro mem;rfl|cons k r ih =>intro mem;show (fw (y1 mem k) r).length=_;rw [ih];unfold y1;split;(·split <;> simp);·rfl
def iG (mem:List bx) (keys:List (Nat×Nat)) (r:V):List bx:=if Pc r=true then mem else fw mem keys
theorem Mz {mem:List bx} {k:Nat×Nat}:∀ {us Pf:List V},iE mem us=some Pf→k∈us.flatMap fP→∃ B,mem[k.1]?=some B∧B.dZ=k.2∧∃ e rs,B = .rows k.2 e rs∨B = .rP k.2 e rs:=by
  have V6:∀ (cs uc:List V),iD mem cs=some uc→k∈cs.flatMap iF→∃ B,mem[k.1]?=some B∧B.dZ=k.2∧∃ e rs,B = .rows k.2 e rs∨B = .rP k.2 e rs:=by intro cs;induction cs with|nil=>intro uc _ hm;simp at hm|cons c r ih =>intro uc hp hm;simp only [iD] at hp;split at hp;(·rename_i c' hc;split at hp;(·rename_i r' hr;simp only [ae,ib] at hm;(rcases hm with hm|hm);(·cases c <;> simp only [iF,dq,iM] at hm;subst hm;simp only [ej] at hc;split at hc;(·rename_i h;split at hc;(·rename_i hv;obtain⟨rfl,-⟩:=hv;exact⟨_,h,rfl,_,_,.inl rfl⟩);·cases hc);(·rename_i h;split at hc;(·rename_i hv;obtain⟨rfl,-⟩:=hv;exact⟨_,h,rfl,_,_,.inr rfl⟩);·cases hc);·cases hc);·exact ih _ hr hm);·cases hp);·cases hp
  intro us;induction us with|nil=>intro Pf _ hm;simp at hm|cons c r ih =>intro Pf hp hm;simp only [iE] at hp;split at hp;(·rename_i c' hc;split at hp;(·rename_i r' hr;simp only [ae,ib] at hm;(rcases hm with hm|hm);(·unfold ke at hc;split at hc;(·split at hc;(·rename_i l hl;exact V6 _ _ hl hm);·cases hc);·rename_i dL;refine V6 [c] [c'] (by simp [iD,hc]) ?_;simp only [ae,ag,ah];cases c <;> first|exact hm|exact absurd rfl (dL _));·exact ih hr hm);·cases hp);·cases hp
theorem Au {E:Env} {w w':World} {a:Act} {st:St} (hs:de E w a st) {vs vs':List V} (hp:iE st.mem vs=some vs') {F':Addr→Option Value} (Gr:∀ ad y,(E.qx w (vs.flatMap fP)).F ad=some y→F' ad=some y)
    (jV:∀ ad y,F' ad=some y→w'.cell? ad=some y) (hF3:∀ ad y,F' ad=some y→(E.qx w (vs.flatMap fP)).F ad=some y∨w.heap.size≤ad.block) (hb:Below w.heap.size w w') :
    ∃ hg,ic E w ⟨F',E.cC,hg⟩ w'∧de ⟨F',E.cC,hg⟩ w' a { st with mem:=fw st.mem (vs.flatMap fP) }:=by
  have hg:Gl F':=E.gl.mono fun ad x h=>Gr _ _ ((Env.xp E w _).F _ _ h);refine⟨hg,?_⟩;have hle:E.le ⟨F',E.cC,hg⟩:=⟨fun ad y hy=>Gr _ _ ((Env.xp E w _).F _ _ hy),fun _ _ _ h=>h⟩;have aiu:(E.qx w (vs.flatMap fP)).le ⟨F',E.cC,hg⟩:=⟨Gr,fun _ _ _ h=>h⟩;have clean:∀ k B,st.mem[k]?=some B→B.held=true→(∀ v e rs,B ≠ .rP v e rs)→(∀ v e rs,B = .rows v e rs→(k,v) ∉ vs.flatMap fP)→∀ g e c o,E.cC k B.dZ=some (g,e,c)→E.F ⟨g,o,none⟩=none→F' ⟨g,o,none⟩=none:=by intro k B hB hh Oo Av g e c o fK hn;cases hy:F' ⟨g,o,none⟩ with|none=>rfl|some y =>exfalso;(rcases hF3 _ y hy with h|h);(·(rcases Env.Er h with h|⟨k',lY,e',c',h⟩);(·rw [hn] at h;cases h);·obtain⟨B',ub,Ab,e1,rs1,Om⟩:=Mz hp lY;(have IJ:B'.held=true:=by rcases Om with rfl|rfl <;> rfl);rw [← Ab] at h;have fJ:=hs.apart _ _ _ _ _ _ _ _ _ fK h;subst fJ;rw [hB] at ub;cases ub;(rcases Om with rfl|rfl);(·exact Av _ _ _ rfl (by rw [show (k'.1,k'.2)=k' from rfl];exact lY));·exact Oo _ _ _ rfl);·have:=hs.lt _ _ _ _ _ fK;simp at h;omega
  refine⟨⟨hle,fun k v g e c h=>.inl ⟨k,v,e,c,h⟩,fun ad y hy=>?_,hb.os,hb.tape,hb.output,hb.size,fun b bL _=>hb.block b bL⟩,?_⟩;·(rcases hF3 ad y hy with h|h);(·(rcases Env.Er h with h|⟨k,-,e,c,h⟩);(·exact .inl h);·exact .inr (.inr ⟨k.1,k.2,e,c,h⟩));·exact .inr (.inl h)
  ·(have rY:∀ (q:Nat) (B:bx),(fw st.mem (vs.flatMap fP))[q]?=some B→∃ B',st.mem[q]?=some B'∧B.dZ=B'.dZ∧B.held=B'.held∧(B=B'∧(∀ v e rs,B = .rows v e rs→(q,v) ∉ vs.flatMap fP)∨∃ v e rs,B' = .rows v e rs∧B = .rP v e rs∧(q,v)∈vs.flatMap fP):=fun q B hq=>by rw [uF] at hq;cases K9:st.mem[q]? with|none=>rw [K9] at hq;simp [rz] at hq|some B0 =>rw [K9] at hq;refine⟨B0,rfl,?_⟩;cases B0 with|rows v e rs =>(simp only [rz] at hq;split at hq;(·rename_i pw;cases hq;exact⟨rfl,rfl,.inr ⟨v,e,rs,rfl,rfl,pw⟩⟩);·rename_i pw;cases hq;exact⟨rfl,rfl,.inl ⟨rfl,fun v' e' mZ h=>by cases h;exact pw⟩⟩)|_=>cases hq;exact⟨rfl,rfl,.inl ⟨rfl,fun v' e' mZ h=>by cases h⟩⟩);refine⟨jV,fun k v g e c h=>rm (hs.lt _ _ _ _ _ h) hb.size,fun k B hk=>?_,fun k hk v=>hs.top k (by simpa [uf] using hk) v,fun k B hk v hv=>?_,hs.apart,hs.fr.mono hle⟩;(·obtain⟨B',ub,-,-,Aq⟩:=rY k B hk;(rcases Aq with ⟨rfl,Av⟩|⟨v,e,rs,rfl,rfl,pw⟩);(·have vI:=(hs.mem k B ub).mono (E':=⟨F',E.cC,hg⟩) (w':=w') hle (fun _ h=>h) (fun g e c h=>hb.block _ (hs.lt _ _ _ _ _ h));cases Pg:B with|rP v e rs =>(subst Pg;(rcases hs.mem k _ ub with h9|⟨g,c,nN,hl,hr⟩);(·exact .inl h9);refine .inr ⟨g,c,nN,hl,fun i row hi=>?_⟩;obtain⟨h5,h6⟩:=hr i row hi;exact⟨h5,fun j cc hj=>let ⟨x,hx,h7,h8⟩:=h6 j cc hj;⟨x,hle.F _ _ hx,h7,h8.mono (Env.lq hle)⟩⟩)|hole=>subst Pg;exact hs.mem k _ ub|dead=>trivial|loop s nP fr params assign body=>subst Pg;exact vI (clean k _ ub rfl (fun _ _ _ h=>by cases h) (fun _ _ _ h=>by cases h))|box cs=>subst Pg;exact vI (clean k _ ub rfl (fun _ _ _ h=>by cases h) (fun _ _ _ h=>by cases h))|map dP clock=>subst Pg;exact vI (clean k _ ub rfl (fun _ _ _ h=>by cases h) (fun _ _ _ h=>by cases h))|jJ m since seen last=>subst Pg;exact vI (clean k _ ub rfl (fun _ _ _ h=>by cases h) (fun _ _ _ h=>by cases h))|n5 T kb v l=>subst Pg;exact vI (clean k _ ub rfl (fun _ _ _ h=>by cases h) (fun _ _ _ h=>by cases h))|oW T v O=>subst Pg;exact vI (clean k _ ub rfl (fun _ _ _ h=>by cases h) (fun _ _ _ h=>by cases h))|nL s pos=>subst Pg;exact vI (clean k _ ub rfl (fun _ _ _ h=>by cases h) (fun _ _ _ h=>by cases h))|og=>subst Pg;exact vI (clean k _ ub rfl (fun _ _ _ h=>by cases h) (fun _ _ _ h=>by cases h))|rows v e rs=>subst Pg;exact vI (clean k _ ub rfl (fun _ _ _ h=>by cases h) Av));·(rcases hs.mem k _ ub with h9|⟨g,T,cur,c,nN,-⟩);(·exact .inl h9);·obtain⟨-,hl,hr⟩:=Gn hs pw nN ub (.inl rfl);refine .inr ⟨g,c,nN,hl,fun i row hi=>?_⟩;obtain⟨h5,h6⟩:=hr i row hi;exact⟨h5,fun j cc hj=>let ⟨x,hx,h7,h8⟩:=h6 j cc hj;⟨x,aiu.F _ _ hx,h7,h8.mono (Env.lq hle)⟩⟩);·obtain⟨B',ub,IK,-,-⟩:=rY k B hk;exact hs.dZ k B' ub v (by omega)
theorem de.freeze {E:Env} {w:World} {a:Act} {st:St} (hs:de E w a st) {vs vs':List V} (hp:iE st.mem vs=some vs') :
    ∃ E',de E' w a { st with mem:=fw st.mem (vs.flatMap fP) }∧ic E w E' w∧∀ xs,cU E vs xs→cU E' vs' xs:=by obtain⟨hg,h1,h2⟩:=Au hs hp (F':=(E.qx w (vs.flatMap fP)).F) (fun _ _ h=>h) (fun ad y h=>Env.K8 hs.F h) (fun _ _ h=>.inl h) (Below.refl _ w);exact⟨_,h2,h1,fun xs hx=>(mG hs (keys:=vs.flatMap fP) hx hp fun k hk=>hk).mono ⟨fun _ _ h=>h,fun _ _ _ h=>by cases h⟩⟩
theorem MA {P:Program} {f:FuncId} {E:Env} {w:World} {a:Act} {st:St} (hs:de E w a st) {vs vs':List V} {r:V} {xs:Array Value} (hx:cU E vs xs.toList) (hp:iE st.mem vs=some vs') (hf:b8 P f vs' r) :
    Calls P f xs w fun e w'=>∃ E' x,e = .returned x∧ic E w E' w'∧de E' w' a { st with mem:=iG st.mem (vs.flatMap fP) r }∧cY E' r x:=by
  have h1:=mG hs (keys:=vs.flatMap fP) hx hp fun k hk=>hk;refine (hf.2 (E.qx w (vs.flatMap fP)).F (E.qx w (vs.flatMap fP)).gl w xs (fun ad x h=>Env.K8 hs.F h) h1).mono ?_;rintro e w' ⟨F',x,rfl,Gr,jV,hF3,⟨Gp,kF⟩,hb⟩;unfold iG;split;·rename_i acX;refine⟨E,x,rfl,⟨E.le_refl,fun k v g e c h=>.inl ⟨k,v,e,c,h⟩,fun _ _ h=>.inl h,hb.os,hb.tape,hb.output,hb.size,fun b bL _=>hb.block b bL⟩,?_,My kF acX⟩;refine⟨fun ad y hy=>?_,fun k v g e c h=>rm (hs.lt _ _ _ _ _ h) hb.size,fun k B hk=>?_,hs.top,hs.dZ,hs.apart,hs.fr⟩;(·rw [hb.cell (World.block_lt_of_cell? w ad (hs.F ad y hy))];exact hs.F ad y hy);·exact (hs.mem k B hk).mono E.le_refl (fun _ h=>h) (fun g e c h=>hb.block _ (hs.lt _ _ _ _ _ h)) fun _ _ _ _ _ h=>h
  ·obtain⟨hg,e1,s1⟩:=Au hs hp Gr jV hF3 hb;exact⟨_,x,rfl,e1,s1,kF.mono ⟨fun _ _ h=>h,fun _ _ _ h=>by simp at h⟩⟩
end Go.Eng
end
section
namespace Go.Eng
variable [bB]
open Go.RowKit (Below)
def bI (P:Program) (f:FuncId) (args:List V) (mem:List bx) (r:V) (bS:List bx):Prop :=
 (∀ (xs:Array Value) (w:World),(callFunc f xs).run P w = .ok (.enter f xs) w) ∧
 ∀ (E:Env) (w:World) (xs:Array Value),de E w { tmps := #[],defers:=[] } { fr:=[],mem:=mem }→cU E args xs.toList →
  Calls P f xs w fun e w'=>∃ E' x,e = .returned x∧ic E w E' w'∧de E' w' { tmps := #[],defers:=[] } { fr:=[],mem:=bS }∧cY E' r x
def jK (P:Program) (f:FuncId) (args:List V) (mem:List bx) (R:V→List bx→Prop):Prop :=
 (∀ (xs:Array Value) (w:World),(callFunc f xs).run P w = .ok (.enter f xs) w) ∧
 ∀ (E:Env) (w:World) (xs:Array Value),de E w { tmps := #[],defers:=[] } { fr:=[],mem:=mem }→cU E args xs.toList →
  Calls P f xs w fun e w'=>∃ E' x r bS,e = .returned x∧R r bS∧ic E w E' w'∧de E' w' { tmps := #[],defers:=[] } { fr:=[],mem:=bS }∧cY E' r x
theorem jK.det {P:Program} {f:FuncId} {args:List V} {mem:List bx} {r:V} {bS:List bx} (h:jK P f args mem fun r' m'=>r'=r∧m'=bS):bI P f args mem r bS :=
 ⟨h.1,fun E w xs hs hx=>(h.2 E w xs hs hx).mono fun e w' ⟨E',x,r',m',h1,⟨h2,h3⟩,h4,h5,h6⟩=>by subst h2;subst h3;exact⟨E',x,h1,h4,h5,h6⟩⟩
theorem bI.rel {P:Program} {f:FuncId} {args:List V} {mem:List bx} {r:V} {bS:List bx} (h:bI P f args mem r bS):jK P f args mem fun r' m'=>r'=r∧m'=bS :=
 ⟨h.1,fun E w xs hs hx=>(h.2 E w xs hs hx).mono fun e w' ⟨E',x,h1,h4,h5,h6⟩=>⟨E',x,_,_,h1,⟨rfl,rfl⟩,h4,h5,h6⟩⟩
theorem jK.mono {P:Program} {f:FuncId} {args:List V} {mem:List bx} {R R':V→List bx→Prop} (h:jK P f args mem R) (hR:∀ r m,R r m→R' r m):jK P f args mem R' :=
 ⟨h.1,fun E w xs hs hx=>(h.2 E w xs hs hx).mono fun e w' ⟨E',x,r',m',h1,h2,h4⟩=>⟨E',x,r',m',h1,hR _ _ h2,h4⟩⟩
theorem de.bare {E:Env} {w:World} {a:Act} {st:St} (hs:de E w a st):de E w { tmps := #[],defers:=[] } { fr:=[],mem:=st.mem } :=
 ⟨hs.F,hs.lt,hs.mem,hs.top,hs.dZ,hs.apart,.nil _⟩
theorem de.Gs {E E':Env} {w w':World} {a:Act} {st:St} {bS:List bx} (hs:de E w a st) (h:de E' w' { tmps := #[],defers:=[] } { fr:=[],mem:=bS }) (hle:E.le E'):de E' w' a { st with mem:=bS } :=
 ⟨h.F,h.lt,h.mem,h.top,h.dZ,h.apart,hs.fr.mono hle⟩
def di (fv:V) (args:List V):Option (FuncId×List V) :=
 match fv with
 | .sc (.func (.func g) first cap)=>some (g,first.toList.map V.sc++args++cap.toList.map V.sc)
 | .iU (.func g) first cap=>some (g,first++args++cap)
 | _=>none
def r7 (P:Program) (f:FuncId) (vs:List V) (r:V):Prop :=
 ∀ (E:Env) (w:World) (xs:Array Value),(∀ ad x,E.F ad=some x→w.cell? ad=some x)→cU E vs xs.toList→∃ x,(callFunc f xs).run P w = .ok (.value x) w∧cY E r x
def Yg (P:Program) (f:FuncId) (vs:List V):Option V :=
 match pB vs with
 | some l=>match dc P (callFunc f l.toArray) with|some (.value v)=>some (ka v)|_=>none
 | none=>none
theorem TS {P:Program} {f:FuncId} {vs:List V} {r:V} (h:Yg P f vs=some r):r7 P f vs r:=fun E w xs hF hx=>by
 unfold Yg at h;split at h;·rename_i l hl;have:=qE hx hl;split at h;(·rename_i v hv;cases h;exact⟨v,gM _ (by rw [← this] at hv;simpa using hv) w,kW E v⟩);cases h
 cases h
def ym (P:Program) (f:FuncId) (vs:List V) (st:St) (dst:Option Tmp) (Q:St→Prop):Prop :=
 (∃ vs' r,iE st.mem vs=some vs'∧b8 P f vs' r∧Q ({ st with mem:=iG st.mem (vs.flatMap fP) r }.put dst r)) ∨
 (∃ r bS,bI P f vs st.mem r bS∧Q ({ st with mem:=bS }.put dst r)) ∨
 (∃ R,jK P f vs st.mem R∧∀ r bS,R r bS→Q ({ st with mem:=bS }.put dst r)) ∨
 (∃ r,r7 P f vs r∧Q (st.put dst r))
def IS (P:Program) (k:Nat) (vs:List V) (mem:List bx) (b:Bool) (bS:List bx):Prop :=
 ∀ (E:Env) (w:World) (xs:Array Value) (l e c:Nat),de E w { tmps := #[],defers:=[] } { fr:=[],mem:=mem }→cU E vs xs.toList→E.cC k 0=some (l,e,c) →
  ∃ fn tmps assign body,(Instr.yield l xs).run P w = .ok (.round l fn tmps assign body) w∧RoundIn Fence.wide 0 P l fn tmps assign body w fun e w'=>∃ E',e = .returned (.bool b)∧ic E w E' w' ∧
   de E' w' { tmps := #[],defers:=[] } { fr:=[],mem:=bS }
def MB (P:Program) (k:Nat) (vs:List V) (mem:List bx) (R:Bool→List bx→Prop):Prop :=
 ∀ (E:Env) (w:World) (xs:Array Value) (l e c:Nat),de E w { tmps := #[],defers:=[] } { fr:=[],mem:=mem }→cU E vs xs.toList→E.cC k 0=some (l,e,c) →
  ∃ fn tmps assign body,(Instr.yield l xs).run P w = .ok (.round l fn tmps assign body) w∧RoundIn Fence.wide 0 P l fn tmps assign body w fun e w'=>∃ E' b bS,e = .returned (.bool b)∧R b bS∧ic E w E' w' ∧
   de E' w' { tmps := #[],defers:=[] } { fr:=[],mem:=bS }
theorem MB.det {P:Program} {k:Nat} {vs:List V} {mem bS:List bx} {b:Bool} (h:MB P k vs mem fun b' m'=>b'=b∧m'=bS):IS P k vs mem b bS:=fun E w xs l e c hs hx hb=>by obtain⟨fn,tmps,assign,body,h1,h2⟩:=h E w xs l e c hs hx hb;exact⟨fn,tmps,assign,body,h1,h2.mono fun e w' ⟨E',b',m',h3,⟨h4,h5⟩,h6,h7⟩=>by subst h4;subst h5;exact⟨E',h3,h6,h7⟩⟩
def vJ (bD:List (Nat×Nat)) (ev:Operand→V):List (Nat×Operand)→List V→Option (List V)
 | [],cs=>some cs
 | (i,x) :: r,cs=>match bD[i]? with
  | some p=>match l4 (ev x) with
   | some new=>if new.length=p.2∧p.1+p.2≤cs.length then vJ bD ev r (kC cs p.1 new) else none
   | none=>none
  | none=>none
def nc (ev:Operand→V):List (Nat×Operand)→Option (List (Nat×Value))
 | []=>some []
 | (i,x) :: r=>match ev x with
  | .sc v=>match nc ev r with|some l=>some ((i,v) :: l)|none=>none
  | _=>none
def xq (P:Program) (T:TypeId) (l:List (Nat×Value)):Option V:=match dc P (Instr.build T l.toArray) with
 | some (.agg cs)=>some (.agg (cs.toList.map V.sc))
 | _=>none
def nB (P:Program) (tt:Table) (T:TypeId) (parts:List (Nat×Operand)) (ev:Operand→V):Option V :=
 match tt T with
 | some i=>if i.bD≠[] then (match vJ i.bD ev parts (i.zero.map V.sc) with|some cs=>some (.agg cs)|none=>none) else
  match nc ev parts with|some l=>xq P T l|none=>none
 | none=>none
theorem r8 {E:Env} {st:St} {a:Act} (gE:∀ x,cY E (st.eval x) (a.eval x)):∀ {ps:List (Nat×Operand)} {l:List (Nat×Value)},nc st.eval ps=some l→(ps.map fun p=>(p.1,a.eval p.2))=l
 | [],l,h=>by cases h;rfl
 | (i,x) :: r,l,h=>by
  simp only [nc] at h
  split at h
  ·rename_i v hv
   split at h
   ·rename_i l' hl
    cases h
    have hx:=gE x
    rw [hv] at hx
    have:a.eval x=v:=by cases hx;rfl
    simp only [bT,this,r8 gE hl]
   cases h
  cases h
def r9 (tt:Table) (T:TypeId):V→Option Nat
 | .slice rows=>match j2 tt T with|some _=>some rows.length|none=>none
 | .ms _ _ _ l=>match j2 tt T with|some _=>some l|none=>none
 | _=>none
def pF (tt:Table) (op:BinOp) (T:TypeId) (x y:V):Option Nat :=
 match op,y with
 | .eql,.sc (.slice none 0 0)=>r9 tt T x
 | .neq,.sc (.slice none 0 0)=>r9 tt T x
 | _,_=>none
def qK (op:BinOp) (b:Bool):Bool:=match op with|.neq=>!b|_=>b
theorem uG {P:Program} {tt:Table} (ht:TT P tt) {T e:TypeId} (he:j2 tt T=some e) (w:World) (xo yo:Operand) {op:BinOp} (kf:op = .eql∨op = .neq) (a:Option Addr) (l c:Nat) :
  (do eqGuard op T xo yo (.slice a l c) (.slice none 0 0);binOp op T (.slice a l c) (.slice none 0 0):Sem Value).run P w = .ok (.bool (qK op a.isNone)) w:=by
 unfold j2 at he;split at he;·rename_i i hi;obtain⟨d,hd,-,ve,-⟩:=ht.desc T i hi;obtain rfl:=ve e he;(have heq:(Op.equal T (.slice a l c) (.slice none 0 0)).run P w = .ok a.isNone w:=by show (Op.equalIn (9999+1) T (.slice a l c) (.slice none 0 0)).run P w=_;rw [Op.equalIn];simp only [Sem.run_bind,bp hd,Result.andThen_ok];cases a <;> rfl);(have hg:(eqGuard op T xo yo (.slice a l c) (.slice none 0 0)).run P w = .ok () w:=by rcases kf with rfl|rfl <;> rfl);rw [Sem.run_bind,hg,Result.andThen_ok];(rcases kf with rfl|rfl);(·show (do pure (Value.bool (← Op.equal T (.slice a l c) (.slice none 0 0))):Sem Value).run P w=_;rw [Sem.run_bind,heq];rfl);show (do pure (Value.bool (!(← Op.equal T (.slice a l c) (.slice none 0 0)))):Sem Value).run P w=_;rw [Sem.run_bind,heq];rfl
 cases he
theorem Es {P:Program} {tt:Table} (ht:TT P tt) {E:Env} {w:World} {T:TypeId} {op:BinOp} {vx vy:V} {x y:Value} (xo yo:Operand) (hx:cY E vx x) (hy:cY E vy y) {n:Nat} (h:pF tt op T vx vy=some n) :
  ∃ b:Bool,(n≠0→b=false)∧(do eqGuard op T xo yo x y;binOp op T x y:Sem Value).run P w = .ok (.bool (qK op b)) w:=by
 have gen:(op = .eql∨op = .neq)→y = .slice none 0 0→r9 tt T vx=some n→∃ b:Bool,(n≠0→b=false)∧(do eqGuard op T xo yo x y;binOp op T x y:Sem Value).run P w = .ok (.bool (qK op b)) w:=by intro kf hyy h;subst hyy;unfold r9 at h;split at h;(·split at h;(·rename_i e he;cases h;cases hx with|slice _ _ a cap ux ad xf ha mh hs hF h1 h2 =>refine⟨a.isNone,fun hn=>?_,uG ht he w xo yo kf _ _ _⟩;rw [ha (fun e=>hn (by rw [e];rfl))];rfl);cases h);(·split at h;(·rename_i e he;cases h;cases hx with|ms _ b v s l g e c a cap hb hl h0 hc =>refine⟨a.isNone,fun hn=>?_,uG ht he w xo yo kf _ _ _⟩;rw [hl (by omega)];rfl|ja=>exact⟨true,fun hn=>absurd rfl hn,uG ht he w xo yo kf _ _ _⟩);cases h);cases h
 unfold pF at h;split at h;·exact gen (.inl rfl) (fu hy) h
 ·exact gen (.inr rfl) (fu hy) h
 cases h
def evP (mem:List bx) (ev:Operand→V) (x:Operand):V:=match ke mem (ev x) with|some v=>v|none=>ev x
def Et (ev:Operand→V) (parts:List (Nat×Operand)):List (Nat×Nat):=(parts.map fun p=>ev p.2).flatMap fP
def TU (tt:Table) (T:TypeId) (len:Nat) (parts:List (Nat×Operand)) (st:St):Option (Nat×List V) :=
 match iE st.mem (parts.map fun p=>st.eval p.2) with
 | some _=>xk tt T len parts (evP st.mem st.eval)
 | none=>none
def Eu (tt:Table) (mem:List bx) (T:TypeId) (p v:V):Option (List bx) :=
 match ke mem v with
 | some v'=>nz tt (fw mem (fP v)) T p v'
 | none=>none
def yn (tt:Table) (st:St) (ts:List TypeId) (s x:V) (dst:Option Tmp) (Q:St→Prop):Prop :=
 match o5 tt st.mem ts s x with
 | some (size,b,v,l,rs,xs)=>∀ (o:Nat) (mZ:List V),mZ.drop o=rs++xs→o+(l+xs.length)=mZ.length→Q ({ st with mem:=st.mem.set b (.rows (v+1) size mZ) }.put dst (.ms b (v+1) o (l+xs.length)))
 | none=>False
def dn (P:Program) (tt:Table) (key:Nat) (o:Oper) (st:St) (Q:St→Prop):Prop :=
 match o.op with
 | .alloc T=>match tt T with
  | some i=>Q ({ st with mem:=dm st.mem key (.box (i.zero.map V.sc)) }.put o.dst (.ptr key 0))
  | none=>False
 | .box _ x=>match l4 (st.eval x) with
  | some cs=>Q ({ st with mem:=dm st.mem key (.box cs) }.put o.dst (.ptr key 0))
  | none=>False
 | .build T parts=>match nB P tt T parts.toList st.eval with
  | some v=>Q (st.put o.dst v)
  | none=>False
 | .buildSlice T len parts=>match xk tt T len parts.toList st.eval with
  | some (size,rs)=>Q ({ st with mem:=dm st.mem key (.rows 0 size rs) }.put o.dst (.ms key 0 0 len))
  | none=>match TU tt T len parts.toList st with
   | some (size,rs)=>Q ({ st with mem:=dm (fw st.mem (Et st.eval parts.toList)) key (.rows 0 size rs) }.put o.dst (.ms key 0 0 len))
   | none=>False
 | .store T p x=>match nz tt st.mem T (st.eval p) (st.eval x) with
  | some bS=>Q ({ st with mem:=bS }.put o.dst (.sc undef))
  | none=>match Eu tt st.mem T (st.eval p) (st.eval x) with
   | some bS=>Q ({ st with mem:=bS }.put o.dst (.sc undef))
   | none=>False
 | .call { callee:=.builtin .append,args:=xs,argTypes:=ts }=>match xs.toList.map st.eval with
  | [s,x]=>match fh tt st.mem ts.toList s x with
   | some (size,rY,rows)=>Q ({ st with mem:=(eM st.mem key size rows rY).1 }.put o.dst (eM st.mem key size rows rY).2)
   | none=>yn tt st ts.toList s x o.dst Q
  | _=>False
 | .call { callee:=.value f,args:=xs,.. }=>match st.eval f with
  | .j9 k=>(∃ b bS,IS P k (xs.toList.map st.eval) st.mem b bS∧Q ({ st with mem:=bS }.put o.dst (.sc (.bool b)))) ∨
    (∃ R,MB P k (xs.toList.map st.eval) st.mem R∧∀ b bS,R b bS→Q ({ st with mem:=bS }.put o.dst (.sc (.bool b))))
  | fv=>match di fv (xs.toList.map st.eval) with
   | some (g,vs)=>ym P g vs st o.dst Q
   | none=>False
 | .makeSlice T l c=>match yl tt T (st.eval l) (st.eval c) with
  | some (size,rs,_)=>Q ({ st with mem:=dm st.mem key (.rows 0 size rs) }.put o.dst (.ms key 0 0 rs.length))
  | none=>False
 | .makeMap _ none=>Q ({ st with mem:=dm st.mem key (.map [] 0) }.put o.dst (.mp key))
 | .mapUpdate T m k x=>match dU P st.mem T (st.eval m) (st.eval k) (st.eval x) with
  | some bS=>Q ({ st with mem:=bS }.put o.dst (.sc undef))
  | none=>False
 | .insert T m k x=>match dU P st.mem T (st.eval m) (st.eval k) (st.eval x) with
  | some bS=>Q ({ st with mem:=bS }.put o.dst (.sc undef))
  | none=>False
 | .mapEntry T m k=>match xm P st.mem T (st.eval m) (st.eval k) with
  | some (bS,v)=>Q ({ st with mem:=bS }.put o.dst v)
  | none=>False
 | .entryStore _ m s x=>match xn st.mem (st.eval m) (st.eval s) (st.eval x) with
  | some bS=>Q ({ st with mem:=bS }.put o.dst (.sc undef))
  | none=>False
 | .call { callee:=.builtin .delete,args:=xs,argTypes:=ts }=>match te P st.mem ts (xs.toList.map st.eval) with
  | some bS=>Q ({ st with mem:=bS }.put o.dst (.sc (.tuple #[])))
  | none=>False
 | .range T x=>match p9 P st.mem T (st.eval x) with
  | some B=>Q ({ st with mem:=dm st.mem key B }.put o.dst (.ptr key 0))
  | none=>False
 | .next it str=>vG st o.dst (st.eval it) str Q
 | .binOp op T x y _=>match pF tt op T (st.eval x) (st.eval y) with
  | some n=>∀ b:Bool,(n≠0→b=false)→Q (st.put o.dst (.sc (.bool (qK op b))))
  | none=>match iY P tt st o with
   | some v=>Q (st.put o.dst v)
   | none=>False
 | _=>match iY P tt st o with
  | some v=>Q (st.put o.dst v)
  | none=>False
theorem Aw {P:Program} {E:Env} {w:World} {fv:V} {fx:Value} {args:List V} {xs:Array Value} {g:FuncId} {vs:List V} (hf:cY E fv fx) (ha:cU E args xs.toList) (h:di fv args=some (g,vs)) :
  ∃ d,∃ ys:Array Value,cU E vs ys.toList∧(Deferred.ofValue fx xs).run P w = .ok d w∧(invoke d.target d.args).run P w=(callFunc g ys).run P w:=by
 unfold di at h;split at h;·simp only [aF,dy] at h;obtain⟨rfl,rfl⟩:=h;obtain rfl:=fu hf;(rename_i g first cap);have I7:∀ zs:Array Value,cU E (zs.toList.map V.sc) zs.toList:=fun zs=>⟨by simp,fun i c x hc hx=>mD E zs i c x hc (by simpa using hx)⟩;exact⟨{ target:=.fn (.func g) cap,args:=first++xs },first++xs++cap,by simp only [zp];exact ((I7 first).append ha).append (I7 cap),rfl,by simp [invoke]⟩
 ·simp only [aF,dy] at h;obtain⟨rfl,rfl⟩:=h;rename_i g _ _;cases hf with|iU _ _ first cap ys zs h1 h2 h3 h4 =>refine⟨{ target:=.fn (.func g) zs,args:=ys++xs },ys++xs++zs,?_,rfl,by simp [invoke]⟩;simp only [zp];exact (cU.append (cU.append ⟨by simpa using h1,fun i c x hc hx=>h3 i c x hc (by simpa using hx)⟩ ha) ⟨by simpa using h2,fun i c x hc hx=>h4 i c x hc (by simpa using hx)⟩)
 cases h
theorem sd {P:Program} {E:Env} {w:World} {fv:V} {fx:Value} {args:List V} {xs:Array Value} {g:FuncId} {vs:List V} (hf:cY E fv fx) (ha:cU E args xs.toList) (h:di fv args=some (g,vs)) :
  ∃ ys:Array Value,cU E vs ys.toList∧(do let d ← Deferred.ofValue fx xs;invoke d.target d.args:Sem Next).run P w=(callFunc g ys).run P w:=by
 unfold di at h;split at h;·simp only [aF,dy] at h;obtain⟨rfl,rfl⟩:=h;obtain rfl:=fu hf;(rename_i first cap);have I7:∀ zs:Array Value,cU E (zs.toList.map V.sc) zs.toList:=fun zs=>⟨by simp,fun i c x hc hx=>mD E zs i c x hc (by simpa using hx)⟩;refine⟨first++xs++cap,by simp only [zp];exact ((I7 first).append ha).append (I7 cap),?_⟩;simp [Deferred.ofValue,invoke]
 ·simp only [aF,dy] at h;obtain⟨rfl,rfl⟩:=h;cases hf with|iU _ _ first cap ys zs h1 h2 h3 h4 =>refine⟨ys++xs++zs,?_,?_⟩;(·simp only [zp];exact (cU.append (cU.append ⟨by simpa using h1,fun i c x hc hx=>h3 i c x hc (by simpa using hx)⟩ ha) ⟨by simpa using h2,fun i c x hc hx=>h4 i c x hc (by simpa using hx)⟩));simp [Deferred.ofValue,invoke]
 cases h
theorem Gt {P:Program} {tt:Table} {E:Env} {bD:List (Nat×Nat)} {ev:Operand→V} {av:Operand→Value} (kF:∀ o,cY E (ev o) (av o)):∀ (parts:List (Nat×Operand)) (cs:List V) (xs:Array Value) (out:List V),
  cU E cs xs.toList→vJ bD ev parts cs=some out→∃ ys,Instr.fill (bD[·]?) xs (parts.map fun p=>(p.1,av p.2))=some ys∧cU E out ys.toList:=by intro parts;induction parts with|nil=>intro cs xs out hr h;simp only [vJ,aF] at h;subst h;exact⟨xs,rfl,hr⟩|cons p r ih =>intro cs xs out hr h;obtain⟨i,x⟩:=p;simp only [vJ] at h;split at h;(·rename_i p hp;split at h;(·rename_i new pC;split at h;(·rename_i hc;obtain⟨h1,h2⟩:=qI (kF x) pC;(have kO:(av x).cells.size=p.2:=by have:=h1.1;simp at this;omega);(have n7:xs.size=cs.length:=by have:=hr.1;simp at this;omega);obtain⟨ys,h3,h4⟩:=ih _ _ out (yf new _ cs xs p.1 h1 hr) h;refine⟨ys,?_,h4⟩;simp only [bT,Instr.fill,hp,kO];rw [if_neg (by simp;omega),← h3];congr 1;rw [← arN,asp];exact yg p.1 (av x).cells.toList 0 xs);cases h);cases h);cases h
theorem vK {P:Program} {tt:Table} (ht:TT P tt) {E:Env} {w:World} {a:Act} {st:St} (hs:de E w a st) {T:TypeId} {parts:Array (Nat×Operand)} {v:V} (h:nB P tt T parts.toList st.eval=some v) :
  ∃ x,(Instr.build T (parts.map fun (i,x)=>(i,a.eval x))).run P w = .ok x w∧cY E v x:=by
 unfold nB at h;split at h
 ·rename_i i hi;split at h
  ·rename_i dL;split at h
   ·rename_i cs mO;simp only [aF] at h;subst h;obtain⟨info,ud,-,-,z,hz,C0⟩:=ht.size T i hi;obtain⟨d,hd,-,-,C6⟩:=ht.desc T i hi;obtain⟨ys,h1,h2⟩:=Gt (P:=P) (tt:=tt) hs.eval parts.toList _ z.cells cs (by rw [C0];exact⟨by simp,fun i c x hc hx=>by simp only [ak,hx,cx,aF] at hc;subst hc;exact .sc _ _⟩) mO;have hfs:∃ fs,d = .struct fs∧fs.size=i.bD.length∧∀ k (hk:k<fs.size),∃ inf,P.info? fs[k].type=some inf∧i.bD[k]?=some (fs[k].offset,inf.size):=by have nS:0<i.bD.length:=List.length_pos_iff.2 dL;obtain⟨fs,fd,inf,rfl,hlen,-⟩:=C6 0 (i.bD[0]).1 (i.bD[0]).2 (aw nS);refine⟨fs,rfl,hlen,fun k hk=>?_⟩;obtain⟨fs',fd,inf,he,-,CB,C7,hf3,hf4,-⟩:=C6 k (i.bD[k]'(by omega)).1 (i.bD[k]'(by omega)).2 (aw (by omega));cases he;rw [cd hk] at CB;cases CB;exact⟨inf,hf3,by rw [aw (by omega),C7,hf4]⟩
    obtain⟨fs,rfl,hlen,dN⟩:=hfs
    have I7:(fs.mapM fun f=>do pure (f.offset,← sizeOf f.type):Sem (Array (Nat×Nat))).run P w = .ok i.bD.toArray w:=by
     have gen:∀ (l:List Field) (fl:List (Nat×Nat)),l.length=fl.length→(∀ k (hk:k<l.length),∃ inf,P.info? l[k].type=some inf∧fl[k]?=some (l[k].offset,inf.size)) →
       (l.mapM fun f=>do pure (f.offset,← sizeOf f.type):Sem (List (Nat×Nat))).run P w = .ok fl w:=by
      intro l
      induction l with
      | nil=>intro fl hl _;have:fl=[]:=cj.1 hl.symm;subst this;rfl
      | cons f r ih =>
       intro fl hl hk
       cases fl with
       | nil=>simp at hl
       | cons p fl =>
        obtain⟨inf,h1,h2⟩:=hk 0 (by simp)
        simp only [List.getElem_cons_zero,aJ,aF] at h1 h2
        subst h2
        have:=ih fl (by simpa using hl) fun k fJ=>hk (k+1) (Nat.succ_lt_succ fJ)
        simp only [arC,Sem.run_bind,gw h1,Result.andThen_ok,Sem.run_pure,this]
     have:=gen fs.toList i.bD hlen fun k hk=>dN k hk;rw [ar0];simp only [Sem.run_map,this,Result.andThen_ok]
    have uC:(parts.map fun (i,x)=>(i,a.eval x)).toList=parts.toList.map fun p=>(p.1,a.eval p.2):=by simp
    refine⟨.agg ys,?_,.agg _ _ _ (by simpa using h2.1) fun i c x hc hx=>h2.2 i c x hc (by simpa using hx)⟩;unfold Instr.build;have Ye:(zeroValue T).run P w = .ok z w:=by simp [zeroValue,fp ud,hz]
    simp only [Sem.run_bind,Ye,Result.andThen_ok,bp hd,I7,uC];have acZ:(fun (k:Nat)=>i.bD.toArray[k]?)=(fun (k:Nat)=>i.bD[k]?):=by funext k;simp
    simp only [acZ,h1];simp
   cases h
  split at h;·rename_i l hl;have hp:=r8 hs.eval hl;unfold xq at h;split at h;(·rename_i cs mO;cases h;refine⟨.agg cs,?_,.agg _ _ _ (by simp) (mD E cs)⟩;(have uC:(parts.map fun (i,x)=>(i,a.eval x))=l.toArray:=by rw [← hp];apply ahi.1;simp);rw [uC];exact gM _ mO w);cases h
  cases h
 cases h
end Go.Eng
end
