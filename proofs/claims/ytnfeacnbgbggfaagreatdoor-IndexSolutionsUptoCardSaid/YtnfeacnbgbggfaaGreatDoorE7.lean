/-
  THE ENGINE, TM: the walk without a settled outcome: calls of which only a relation is told, and append behind a block's beginning.
  THE ENGINE, GS: the facts for carrying code out, in the library's own simp set.
  THE ENGINE, RN: a contract at a small store holds at every store that has the small one's blocks under other keys.
  THE ENGINE, AD: a block that a call has made is taken into the store.
  THE ENGINE, RP: live rows whose cells a call of the library's has turned.
  THE ENGINE, FZ: a slot whose rows nobody will write any more.
  THE ENGINE, SW: two blocks of a call's own change keys; the values of a map are frozen.
  THE ENGINE, FC: the rows that a struct's cells name are frozen.
-/
import Derived.Test.YtnfeacnbgbggfaaGreatDoorE6
set_option linter.all false
section
namespace Go.Eng
variable [Glob]
section
variable {P : Program} {tt : Table} {ρ : Option Nat} {n0 : Nat} {st : St} {Q : Exit → St → Prop}
theorem t_skip (h : Q .normal st) : Tri P ρ n0 .skip st Q := tri_skip h
theorem t_ret (h : Q .ret st) : Tri P ρ n0 .ret st Q := tri_ret h
theorem t_exit {id : Nat} (h : Q (.exit id) st) : Tri P ρ n0 (.exit id) st Q := tri_exit h
theorem t_seq {x y : Code} (h : Tri P ρ n0 x st (thenQ (fun st' => Tri P ρ n0 y st' Q) Q)) : Tri P ρ n0 (.seq x y) st Q := tri_seq h
theorem t_cond {c : Operand} {x y : Code} {b : Bool} (hc : st.eval c = .sc (.bool b)) (h : Tri P ρ n0 (if b = true then x else y) st Q) : Tri P ρ n0 (.cond c x y) st Q := tri_cond hc h
theorem t_if {c : Operand} {x y : Code} {b : Bool} (hc : st.eval c = .sc (.bool b)) (h1 : b = true → Tri P ρ n0 x st Q) (h2 : b = false → Tri P ρ n0 y st Q) : Tri P ρ n0 (.cond c x y) st Q := by
  refine tri_cond hc ?_
  cases b with
  | true => exact h1 rfl
  | false => exact h2 rfl
theorem t_block {id : Nat} {c : Code} (h : Tri P ρ n0 c st (blockQ id Q)) : Tri P ρ n0 (.block id c) st Q := tri_block h
def callRel (P : Program) (f : FuncId) (vs : List V) (st : St) (dst : Option Tmp) (Q : St → Prop) : Prop :=
  ∃ R, FnOkR P f vs st.mem R ∧ ∀ v m', R v m' → Q ({ st with mem := m' }.put dst v)
@[congr] theorem callRel_congr {f f' : FuncId} {vs vs' : List V} {st st' : St} {dst : Option Tmp} {Q : St → Prop} (hf : f = f') (hv : vs = vs') (h : st = st') : callRel P f vs st dst Q = callRel P f' vs' st' dst Q := by rw [hf, hv, h]
theorem callRel_of {R : V → List Blk → Prop} {f : FuncId} {vs : List V} {dst : Option Tmp} {Q : St → Prop} (hr : FnOkR P f vs st.mem R) (h : ∀ v m', R v m' → Q ({ st with mem := m' }.put dst v)) : callRel P f vs st dst Q := ⟨R, hr, h⟩
def callTm (P : Program) (f : FuncId) (vs : List V) (st : St) (dst : Option Tmp) (Q : St → Prop) : Prop := callT P f vs st dst Q ∨ callRel P f vs st dst Q
def stepTm (P : Program) (tt : Table) (key : Nat) (o : Oper) (st : St) (Q : St → Prop) : Prop :=
  match o.op with
  | .call c => match c.callee with
    | .value f => match calleeOf (st.eval f) (c.args.toList.map st.eval) with
      | some (g, vs) => callTm P g vs st o.dst Q
      | none => False
    | .builtin .append => match c.args.toList.map st.eval with
      | [s, x] => match appendV tt st.mem c.argTypes.toList s x with
        | some (size, old, rows) => Q ({ st with mem := (appOut st.mem key size rows old).1 }.put o.dst (appOut st.mem key size rows old).2)
        | none => appSQ tt st c.argTypes.toList s x o.dst Q
      | _ => False
    | _ => stepD P tt key o st Q
  | _ => stepD P tt key o st Q
@[congr] theorem stepTm_congr {key key' : Nat} {o : Oper} {st st' : St} {Q : St → Prop} (hk : key = key') (h : st = st') : stepTm P tt key o st Q = stepTm P tt key' o st' Q := by rw [hk, h]
theorem stepTm_op {key : Nat} {o : Oper} {K : St → Prop} (h : stepTm P tt key o st K) : stepOp P tt key o st K := by
  have dflt : stepD P tt key o st K → stepOp P tt key o st K := fun h => by
    obtain ⟨s, h1, h2⟩ := stepD_op h
    exact h2 K h1
  obtain ⟨dst, op, type, pos, after, guard⟩ := o
  cases op
  case call c =>
    obtain ⟨callee, args, ats⟩ := c
    cases callee
    case value f =>
      simp only [stepTm] at h
      split at h
      · rename_i g vs hg
        rcases h with h | ⟨R, h1, h2⟩
        · refine dflt ?_
          simp only [stepD,hg]
          exact h
        · simp only [stepOp]
          split
          · rename_i k hy; rw [hy] at hg; simp [calleeOf] at hg
          · rw [hg]; exact .inr (.inr (.inl ⟨R, h1, h2⟩))
      · exact h.elim
    case builtin b =>
      cases b
      case append =>
        simp only [stepTm] at h
        simp only [stepOp]
        split at h
        · rename_i s x hsx
          rw [hsx]
          split at h
          · rename_i size old rows ha
            simp only [ha]; exact h
          · rename_i ha
            simp only [ha]; exact h
        · exact h.elim
      all_goals exact dflt h
    all_goals exact dflt h
  all_goals exact dflt h
def runTm (P : Program) (tt : Table) (gl : List (Nat × Nat)) (all : Array Oper) : List Oper → St → (St → Prop) → Prop
  | [], st, Q => Q st
  | o :: r, st, Q => match wantedW gl all st.fr o with
    | some true => stepTm P tt st.mem.length o st fun st' => runTm P tt gl all r st' Q
    | some false => runTm P tt gl all r (st.put o.dst (.sc undef)) Q
    | none => False
@[congr] theorem runTm_congr {gl : List (Nat × Nat)} {all : Array Oper} {l l' : List Oper} {st st' : St} {Q : St → Prop} (hl : l = l') (h : st = st') : runTm P tt gl all l st Q = runTm P tt gl all l' st' Q := by rw [hl, h]
theorem appSQ_mono {ts : List TypeId} {s x : V} {dst : Option Tmp} {A B : St → Prop} (h : appSQ tt st ts s x dst A) (hab : ∀ s, A s → B s) : appSQ tt st ts s x dst B := by
  unfold appSQ at h ⊢
  split at h
  · exact fun o rs' h1 h2 => hab _ (h o rs' h1 h2)
  · exact h
theorem stepD_mono {key : Nat} {o : Oper} {A B : St → Prop} (h : stepD P tt key o st A) (hab : ∀ s, A s → B s) : stepD P tt key o st B := by
  obtain ⟨dst, op, type, pos, after, guard⟩ := o
  cases op
  case call c =>
    obtain ⟨callee, args, ats⟩ := c
    cases callee
    case value f =>
      simp only [stepD] at h ⊢
      split at h
      · rename_i g vs hg
        unfold callT at h ⊢
        split at h
        · rename_i vs' hp
          obtain ⟨v, ⟨h1, h2⟩ | ⟨h1, h2⟩ | ⟨m', h1, h2⟩⟩ := h
          · exact ⟨v, .inl ⟨h1, hab _ h2⟩⟩
          · exact ⟨v, .inr (.inl ⟨h1, hab _ h2⟩)⟩
          · exact ⟨v, .inr (.inr ⟨m', h1, hab _ h2⟩)⟩
        · obtain ⟨v, m', h1, h2⟩ := h
          exact ⟨v, m', h1, hab _ h2⟩
      · exact h.elim
    case builtin b =>
      cases b
      all_goals first
        | exact h.elim
        | (simp only [stepD] at h ⊢
           split at h
           · first
             | exact hab _ h
             | (split at h
                · exact hab _ h
                · exact h.elim)
           · exact h.elim)
    all_goals exact h.elim
  case makeMap T l =>
    cases l with
    | none => exact hab _ h
    | some l => exact h.elim
  case binOp =>
    simp only [stepD] at h ⊢
    split at h
    · exact h.elim
    · split at h
      · exact hab _ h
      · exact h.elim
  all_goals first
    | exact h.elim
    | (simp only [stepD] at h ⊢
       split at h
       · exact hab _ h
       · exact h.elim)
theorem stepTm_mono {key : Nat} {o : Oper} {A B : St → Prop} (h : stepTm P tt key o st A) (hab : ∀ s, A s → B s) : stepTm P tt key o st B := by
  have dflt : stepD P tt key o st A → stepD P tt key o st B := fun h => stepD_mono h hab
  obtain ⟨dst, op, type, pos, after, guard⟩ := o
  cases op
  case call c =>
    obtain ⟨callee, args, ats⟩ := c
    cases callee
    case value f =>
      simp only [stepTm] at h ⊢
      split at h
      · rename_i g vs hg
        rcases h with h | ⟨R, h1, h2⟩
        · refine .inl ?_
          unfold callT at h ⊢
          split at h
          · rename_i vs' hp
            obtain ⟨v, ⟨h1, h2⟩ | ⟨h1, h2⟩ | ⟨m', h1, h2⟩⟩ := h
            · exact ⟨v, .inl ⟨h1, hab _ h2⟩⟩
            · exact ⟨v, .inr (.inl ⟨h1, hab _ h2⟩)⟩
            · exact ⟨v, .inr (.inr ⟨m', h1, hab _ h2⟩)⟩
          · obtain ⟨v, m', h1, h2⟩ := h
            exact ⟨v, m', h1, hab _ h2⟩
        · exact .inr ⟨R, h1, fun v m' h => hab _ (h2 v m' h)⟩
      · exact h.elim
    case builtin b =>
      cases b
      case append =>
        simp only [stepTm] at h ⊢
        split at h
        · rename_i s x hsx
          split at h
          · exact hab _ h
          · exact appSQ_mono h hab
        · exact h.elim
      all_goals exact dflt h
    all_goals exact dflt h
  all_goals exact dflt h
theorem runTm_op {gl : List (Nat × Nat)} {all : Array Oper} {K : St → Prop} : ∀ (l : List Oper) (st : St), runTm P tt gl all l st K → runOpsW P tt gl all l st K
  | [], st, h => by rw [runOpsW]; exact h
  | o :: r, st, h => by
    rw [runTm] at h
    rw [runOpsW]
    split at h
    · rename_i hw
      rw [hw]
      exact stepTm_op (stepTm_mono h fun s hs => runTm_op r s hs)
    · rename_i hw
      rw [hw]
      exact runTm_op r _ h
    · exact h.elim
theorem runTm_split {gl : List (Nat × Nat)} {all : Array Oper} {K : St → Prop} : ∀ (k : Nat) (l : List Oper) (st : St), runTm P tt gl all (l.take k) st (fun s => runTm P tt gl all (l.drop k) s K) = runTm P tt gl all l st K
  | 0, l, st => rfl
  | k + 1, [], st => rfl
  | k + 1, o :: r, st => by
    have ih := fun s => runTm_split (gl := gl) (all := all) (K := K) k r s
    simp only [List.take_succ_cons,List.drop_succ_cons,runTm,ih]
theorem runTm_cut {gl : List (Nat × Nat)} {all : Array Oper} (k : Nat) {l : List Oper} {st : St} {K : St → Prop}
    (h : ∀ K1 : St → Prop, (∀ s, runTm P tt gl all (l.drop k) s K → K1 s) → runTm P tt gl all (l.take k) st K1) : runTm P tt gl all l st K := by
  rw [← runTm_split k]
  exact h _ fun _ h => h
theorem t_region_w (ht : TT P tt) (n : Nat) (cs : List Nat) (gl : List (Nat × Nat)) {l : List V} {mem : List Blk} (hn : l.length = n) {id : Nat} {ops : Array Oper} {y : Code} (hg : gOk ops gl = true)
    (h : ∀ K : St → Prop, (∀ ws mem', keysW cs ws = true → Tri P ρ n0 y { fr := mkW ws 0 cs l, mem := mem' } Q → K { fr := wr n l ws, mem := mem' }) → runTm P tt gl ops ops.toList { fr := wr n l [], mem := mem } K) :
    Tri P ρ n0 (.seq (.region id ops false) y) { fr := l, mem := mem } Q := tri_seq_region_w ht n cs gl hn hg fun K hK => runTm_op _ _ (h K hK)
theorem t_last_region_w (ht : TT P tt) (n : Nat) (cs : List Nat) (gl : List (Nat × Nat)) {l : List V} {mem : List Blk} (hn : l.length = n) (h1 : cs.all (· != 1) = true) {id : Nat} {ops : Array Oper} (hg : gOk ops gl = true)
    (h : ∀ K : St → Prop, (∀ ws mem', keysW cs ws = true → Q .normal { fr := mkW ws 0 cs l, mem := mem' } → K { fr := wr n l ws, mem := mem' }) → runTm P tt gl ops ops.toList { fr := wr n l [], mem := mem } K) :
    Tri P ρ n0 (.region id ops false) { fr := l, mem := mem } Q := tri_last_region_w ht n cs gl hn h1 hg fun K hK => runTm_op _ _ (h K hK)
theorem t_mixed_w (ht : TT P tt) (hm : P.follows .mixedOrders = true) (n : Nat) (cs : List Nat) {l : List V} {mem : List Blk} (hn : l.length = n) (plan : List Pl) (m : Nat) {id : Nat} {ops : Array Oper} {y : Code} (hok : mixOk ops plan = true)
    (h : ∀ K : St → Prop, (∀ ws mem', keysW cs ws = true → Tri P ρ n0 y { fr := mkW ws 0 cs l, mem := mem' } Q → K { fr := wr n l ws, mem := mem' }) → runM P tt ops mem.length ops.toList plan { fr := wr n l [], mem := mem ++ List.replicate m .hole } K) :
    Tri P ρ n0 (.seq (.region id ops true) y) { fr := l, mem := mem } Q := tri_seq_mixed_w ht hm n cs hn plan m hok h
theorem t_last_mixed_w (ht : TT P tt) (hm : P.follows .mixedOrders = true) (n : Nat) (cs : List Nat) {l : List V} {mem : List Blk} (hn : l.length = n) (h1 : cs.all (· != 1) = true) (plan : List Pl) (m : Nat) {id : Nat} {ops : Array Oper} (hok : mixOk ops plan = true)
    (h : ∀ K : St → Prop, (∀ ws mem', keysW cs ws = true → Q .normal { fr := mkW ws 0 cs l, mem := mem' } → K { fr := wr n l ws, mem := mem' }) → runM P tt ops mem.length ops.toList plan { fr := wr n l [], mem := mem ++ List.replicate m .hole } K) :
    Tri P ρ n0 (.region id ops true) { fr := l, mem := mem } Q := tri_last_mixed_w ht hm n cs hn h1 plan m hok h
attribute [irreducible] runTm

theorem t_loopF {α : Type} {c : Code} {l : List V} {mem : List Blk} (F : α → St) (μ : α → Nat) (Inv : α → Prop) (a0 : α) (n : Nat) (m : List Bool)
    (hn : n0 ≤ n) (hf : (maskFr m l).all (belowV n) = true) (hm : (mem.take n).all (belowB n) = true)
    (h0 : { fr := maskFr m l, mem := mem.take n } = F a0) (hi : Inv a0)
    (step : ∀ a, Inv a → Tri P ρ n0 c (F a) (thenQ (fun st' => ∃ a', Inv a' ∧ μ a' < μ a ∧ Trims n0 st' (fun s => s = F a')) Q)) : Tri P ρ n0 (.loop c) { fr := l, mem := mem } Q := by
  refine tri_loop_inv (fun k s => ∃ a, Inv a ∧ k = μ a ∧ s = F a) (μ a0) ⟨n, m, hn, hf, hm, a0, hi, rfl, h0⟩ ?_
  rintro k s ⟨a, hv, rfl, rfl⟩
  refine (step a hv).mono fun e s' h => ?_
  cases e with
  | normal =>
    obtain ⟨a', h4, h5, n1, m1, h6, h7, h8, h9⟩ := h
    exact ⟨μ a', h5, n1, m1, h6, h7, h8, a', h4, rfl, h9⟩
  | _ => exact h
end
theorem fn_t {P : Program} {tt : Table} (ht : TT P tt) {r : V} {f : FuncId} {fn : Func} {body : Code} {args : List V} (hf : P.funcs[f]? = some fn) (hb : fn.body = some body)
    (hcall : ∀ (xs : Array Value) (w : World), (callFunc f xs).run P w = .ok (.enter f xs) w)
    (h : Tri P none 0 body (startSt fn args []) fun ex st' => (ex = .ret ∨ ex = .normal) ∧ retV tt fn.results st' = some r) : FnOk P f args r := fn_ok ht hf hb hcall h
end Go.Eng
end

section
namespace Go.Proofs.YtnfeacnbgbggfaaGreatDoor
open Go.Eng
attribute [go_sem] runOps stepOp wantedV opV St.eval St.put absV cellsV oneV List.all_cons List.all_nil Bool.and_true Bool.true_and Bool.and_self Value.oneCell' if_true if_false setMem List.length_cons List.length_nil Nat.lt_irrefl List.nil_append List.cons_append List.append_nil List.set_cons_zero List.set_cons_succ List.getD_cons_zero List.getD_cons_succ litV tElem tSize seqParts litRows List.map_nil List.map_cons Nat.zero_mul fieldV tOff fieldAt loadV pickCells List.drop_zero List.drop_succ_cons List.take_succ_cons List.take_zero List.getElem?_cons_zero List.getElem?_cons_succ List.head?_cons Nat.zero_add Nat.add_zero Nat.zero_le Nat.le_refl true_and and_true and_self appendV liveRows rowsOf appOut Bool.false_eq_true lenV ev_add ev_sub ev_mul ev_lss ev_leq ev_gtr ev_geq ev_eql ev_neq ev_max ev_min ev_not convV_sc ev_seql ev_sneq ev_slss ev_sgtr Int.natCast_nonneg indexV indexAt arrAt cut3V ptrCmp ptrNil Int.toNat_natCast V.cells intV cutV nilV calleeOf Option.map_some Option.map_none Option.bind_some List.size_toArray List.getElem?_toArray beq_self_eq_true decide_true decide_false Bool.not_true Bool.not_false nilLen sliceLen nilAns storeV spliceL pureCell rowV nilS rowOf sizeOfBlk ne_eq not_true_eq_false not_false_eq_true buildV partVals fillL V.sc.injEq Value.bool.injEq memAfter_nil List.flatMap_cons List.flatMap_nil ref1 refCell ev_ft ev_tf ev_len1 ev_len2 ev_len3 gnCmp tt1 tt2 tt3 tt4 tt5 tt6 tt7 tt8 tt9 tt10 tt11 tt12 tt13 tt14 tt15 tt16 tt17 tt18 tt19 tt20 tt21 tt22 tt23 tt24 tt25 tt26 tt27 tt28 tt29 tt30 tt31 tt32 tt33 tt34 tt35 tt36 tt37 tt38 tt39 tt40 tt42 tt44 tt45 tt46 tt47 tt48 tt49 tt50 tt51 tt52 tt53 tt54 tt56 tt58 tt59 tt60 tt61 tt62 tt63 tt64 tt65 tt66 tt67 tt68 tt69 tt70 tt71 tt72 tt73 tt74 tt75 tt76 tt77 tt78 tt79 tt80 tt81 tt82 tt84 tt85 tt86 tt87 tt88 tt89 tt91 tt92 tt93 tt94 tt95 tt96 tt97 tt98 tt99 tt100 tt101 tt102 tt103 tt104 tt105 tt106 tt108 tt109 tt110 tt111 tt113 tt115 tt117 tt118 tt119 tt120 tt121 tt122 tt123 tt124 tt125 tt126 tt127 tt128 tt129 tt130 tt131 tt132 tt133 tt134 tt135 tt136 tt137 tt138 tt139 tt140 tt141 tt142 tt143 tt144 tt145 tt146 tt148 tt149 tt150 tt151 tt152 tt153 tt154 tt155 tt156 tt157 tt158 tt159 tt160 tt161 tt163 tt164 tt165 tt166 tt167 tt168 tt169 tt170 tt171 tt172 tt174 tt175 tt176 tt177 tt178 tt179 tt180 tt181 tt182 tt183 tt185 tt187 tt188 tt189 tt190 tt191 tt192 tt193 tt194 tt195 tt196 tt197 tt198 tt199 tt200 tt201 tt203 tt204 tt205 tt207 tt208 tt209 tt210 tt212 tt213 tt214 tt215 tt216 tt217 tt218 tt219 tt220 tt221 tt222 tt223 tt224 tt225 tt226 tt227 tt228 tt229 tt230 tt231 tt232 tt233 tt234 tt235 tt236 tt237 tt238 tt239 tt240 tt241 tt242 tt243 tt244 tt245 tt246 tt247 tt248 tt249 tt250 tt251 loadB keepBox callZ callE runTm stepTm callTm appSQ appendS runX stepD callT runOpsW wantedW gT gRead wr_set wr_getD wr_get wr_length lkF purL pur1 purCells purCell runM stepM valD val1 newBlk wOut sOut isHole maskB mask1 Blk.ver callLD
end Go.Proofs.YtnfeacnbgbggfaaGreatDoor
end

section
namespace Go.Eng
variable [Glob]
open Go.RowKit (Below)

mutual
def renV (σ : Nat → Nat) : V → V
 | .undef => .undef
 | .sc v => .sc v
 | .agg cs => .agg (renL σ cs)
 | .slice rows => .slice rows
 | .ms b v s l => .ms (σ b) v s l
 | .ptr b o => .ptr (σ b) o
 | .rptr b v i o => .rptr (σ b) v i o
 | .eptr cs => .eptr cs
 | .clo f first cap => .clo f (renL σ first) (renL σ cap)
 | .tup vs => .tup (renL σ vs)
 | .yld b => .yld (σ b)
 | .mp b => .mp (σ b)
 | .gn => .gn
def renL (σ : Nat → Nat) : List V → List V
 | [] => []
 | c :: r => renV σ c :: renL σ r
end
theorem renL_map (σ : Nat → Nat) : ∀ l : List V, renL σ l = l.map (renV σ)
 | [] => rfl
 | c :: r => by rw [renL, renL_map σ r]; rfl
def renB (σ : Nat → Nat) : Blk → Blk
 | .box cs => .box (renL σ cs)
 | .loop s p fr ps a b => .loop s p (renL σ fr) ps a b
 | .map kvs c => .map (kvs.map fun e => (e.1, e.2.1, renV σ e.2.2)) c
 | .miter m since seen last => .miter (σ m) since seen last
 | B => B
theorem renB_ver (σ : Nat → Nat) (B : Blk) : (renB σ B).ver = B.ver := by cases B <;> rfl
theorem Rep.ren {E : Env} {v : V} {x : Value} (h : Rep E v x) : ∀ {n : Nat} {σ : Nat → Nat} {E2 : Env}, belowV n v = true → (∀ ad y, E.F ad = some y → E2.F ad = some y) → (∀ k v t, k < n → E.blk k v = some t → E2.blk (σ k) v = some t) → Rep E2 (renV σ v) x := by
 induction h with
 | undef => intros; exact .undef _ _
 | sc => intros; exact .sc _ _
 | slice E rows a cap esz ad xf ha hcap hz hF h1 hR ih =>
  intro n σ E2 hb hF2 hk
  exact .slice _ _ _ _ esz ad xf ha hcap hz (fun i row j c hi hj => hF2 _ _ (hF i row j c hi hj)) h1 fun i row j c hi hj => (hR i row j c hi hj).mono ⟨hF2, fun _ _ _ h => by cases h⟩
 | ms E b v s l g e c a cap hbk hl h0 hcc =>
  intro n σ E2 hb hF2 hk
  exact .ms _ _ _ _ _ g e c _ _ (hk _ _ _ (by simpa [belowV] using hb) hbk) hl h0 hcc
 | msnil => intros; exact .msnil _ _ _ _
 | ptr E b o g e c hbk =>
  intro n σ E2 hb hF2 hk
  exact .ptr _ _ _ g e c (hk _ _ _ (by simpa [belowV] using hb) hbk)
 | yld E b l e c hbk =>
  intro n σ E2 hb hF2 hk
  exact .yld _ _ l e c (hk _ _ _ (by simpa [belowV] using hb) hbk)
 | mp E b l e c hbk =>
  intro n σ E2 hb hF2 hk
  exact .mp _ _ l e c (hk _ _ _ (by simpa [belowV] using hb) hbk)
 | rptr E b v i o g e c hbk =>
  intro n σ E2 hb hF2 hk
  exact .rptr _ _ _ _ _ g e c (hk _ _ _ (by simpa [belowV] using hb) hbk)
 | eptr E cs ad xf hF hR ih =>
  intro n σ E2 hb hF2 hk
  exact .eptr _ _ _ xf (fun j c hj => hF2 _ _ (hF j c hj)) fun j c hj => (hR j c hj).mono ⟨hF2, fun _ _ _ h => by cases h⟩
 | gn => intros; exact .gn _
 | agg E cs xs hl hh ih =>
  intro n σ E2 hb hF2 hk
  rw [belowV, belowL_all] at hb
  rw [renV, renL_map]
  refine .agg _ _ _ (by rw [List.length_map]; exact hl) fun i c x hc hx => ?_
  rw [List.getElem?_map, Option.map_eq_some_iff] at hc
  obtain ⟨c0, hc0, rfl⟩ := hc
  exact ih i c0 x hc0 hx (List.all_eq_true.1 hb c0 (List.mem_of_getElem? hc0)) hF2 hk
 | tup E cs xs hl hh ih =>
  intro n σ E2 hb hF2 hk
  rw [belowV, belowL_all] at hb
  rw [renV, renL_map]
  refine .tup _ _ _ (by rw [List.length_map]; exact hl) fun i c x hc hx => ?_
  rw [List.getElem?_map, Option.map_eq_some_iff] at hc
  obtain ⟨c0, hc0, rfl⟩ := hc
  exact ih i c0 x hc0 hx (List.all_eq_true.1 hb c0 (List.mem_of_getElem? hc0)) hF2 hk
 | clo E f first cap xs ys hx hy h1 h2 ih1 ih2 =>
  intro n σ E2 hb hF2 hk
  rw [belowV, belowL_all, belowL_all, Bool.and_eq_true] at hb
  rw [renV, renL_map, renL_map]
  refine .clo _ _ _ _ _ _ (by rw [List.length_map]; exact hx) (by rw [List.length_map]; exact hy) (fun i c x hc hx => ?_) fun i c x hc hx => ?_
  ·rw [List.getElem?_map, Option.map_eq_some_iff] at hc
   obtain ⟨c0, hc0, rfl⟩ := hc
   exact ih1 i c0 x hc0 hx (List.all_eq_true.1 hb.1 c0 (List.mem_of_getElem? hc0)) hF2 hk
  ·rw [List.getElem?_map, Option.map_eq_some_iff] at hc
   obtain ⟨c0, hc0, rfl⟩ := hc
   exact ih2 i c0 x hc0 hx (List.all_eq_true.1 hb.2 c0 (List.mem_of_getElem? hc0)) hF2 hk
theorem Rep.unren {E : Env} {u : V} {x : Value} (h : Rep E u x) : ∀ {v : V} {n : Nat} {σ : Nat → Nat} {E2 : Env}, u = renV σ v → belowV n v = true → (∀ ad y, E.F ad = some y → E2.F ad = some y) → (∀ k v t, k < n → E.blk (σ k) v = some t → E2.blk k v = some t) → Rep E2 v x := by
 induction h with
 | undef =>
  intro v n σ E2 he hb hF2 hk
  cases v <;> simp only [renV,reduceCtorEq] at he
  exact .undef _ _
 | sc =>
  intro v n σ E2 he hb hF2 hk
  cases v <;> simp only [renV,reduceCtorEq,V.sc.injEq] at he
  subst he; exact .sc _ _
 | slice E rows a cap esz ad xf ha hcap hz hF h1 hR ih =>
  intro v n σ E2 he hb hF2 hk
  cases v <;> simp only [renV,reduceCtorEq,V.slice.injEq] at he
  subst he
  exact .slice _ _ _ _ esz ad xf ha hcap hz (fun i row j c hi hj => hF2 _ _ (hF i row j c hi hj)) h1 fun i row j c hi hj => (hR i row j c hi hj).mono ⟨hF2, fun _ _ _ h => by cases h⟩
 | ms E b v s l g e c a cap hbk hl h0 hcc =>
  intro v n σ E2 he hb hF2 hk
  cases v <;> simp only [renV,reduceCtorEq,V.ms.injEq] at he
  obtain ⟨rfl, rfl, rfl, rfl⟩ := he
  exact .ms _ _ _ _ _ g e c _ _ (hk _ _ _ (by simpa [belowV] using hb) hbk) hl h0 hcc
 | msnil =>
  intro v n σ E2 he hb hF2 hk
  cases v <;> simp only [renV,reduceCtorEq,V.ms.injEq] at he
  obtain ⟨rfl, rfl, rfl, rfl⟩ := he
  exact .msnil _ _ _ _
 | ptr E b o g e c hbk =>
  intro v n σ E2 he hb hF2 hk
  cases v <;> simp only [renV,reduceCtorEq,V.ptr.injEq] at he
  obtain ⟨rfl, rfl⟩ := he
  exact .ptr _ _ _ g e c (hk _ _ _ (by simpa [belowV] using hb) hbk)
 | yld E b l e c hbk =>
  intro v n σ E2 he hb hF2 hk
  cases v <;> simp only [renV,reduceCtorEq,V.yld.injEq] at he
  subst he
  exact .yld _ _ l e c (hk _ _ _ (by simpa [belowV] using hb) hbk)
 | mp E b l e c hbk =>
  intro v n σ E2 he hb hF2 hk
  cases v <;> simp only [renV,reduceCtorEq,V.mp.injEq] at he
  subst he
  exact .mp _ _ l e c (hk _ _ _ (by simpa [belowV] using hb) hbk)
 | rptr E b v i o g e c hbk =>
  intro v n σ E2 he hb hF2 hk
  cases v <;> simp only [renV,reduceCtorEq,V.rptr.injEq] at he
  obtain ⟨rfl, rfl, rfl, rfl⟩ := he
  exact .rptr _ _ _ _ _ g e c (hk _ _ _ (by simpa [belowV] using hb) hbk)
 | eptr E cs ad xf hF hR ih =>
  intro v n σ E2 he hb hF2 hk
  cases v <;> simp only [renV,reduceCtorEq,V.eptr.injEq] at he
  subst he
  exact .eptr _ _ _ xf (fun j c hj => hF2 _ _ (hF j c hj)) fun j c hj => (hR j c hj).mono ⟨hF2, fun _ _ _ h => by cases h⟩
 | gn =>
  intro v n σ E2 he hb hF2 hk
  cases v <;> simp only [renV,reduceCtorEq] at he
  exact .gn _
 | agg E cs xs hl hh ih =>
  intro v n σ E2 he hb hF2 hk
  cases v <;> simp only [renV,reduceCtorEq,V.agg.injEq] at he
  subst he
  rw [belowV, belowL_all] at hb
  rw [renL_map, List.length_map] at hl
  refine .agg _ _ _ hl fun i c x hc hx => ?_
  exact ih i (renV σ c) x (by rw [renL_map, List.getElem?_map, hc]; rfl) hx rfl (List.all_eq_true.1 hb c (List.mem_of_getElem? hc)) hF2 hk
 | tup E cs xs hl hh ih =>
  intro v n σ E2 he hb hF2 hk
  cases v <;> simp only [renV,reduceCtorEq,V.tup.injEq] at he
  subst he
  rw [belowV, belowL_all] at hb
  rw [renL_map, List.length_map] at hl
  refine .tup _ _ _ hl fun i c x hc hx => ?_
  exact ih i (renV σ c) x (by rw [renL_map, List.getElem?_map, hc]; rfl) hx rfl (List.all_eq_true.1 hb c (List.mem_of_getElem? hc)) hF2 hk
 | clo E f first cap xs ys hx hy h1 h2 ih1 ih2 =>
  intro v n σ E2 he hb hF2 hk
  cases v <;> simp only [renV,reduceCtorEq,V.clo.injEq] at he
  obtain ⟨rfl, rfl, rfl⟩ := he
  rw [belowV, belowL_all, belowL_all, Bool.and_eq_true] at hb
  rw [renL_map, List.length_map] at hx hy
  refine .clo _ _ _ _ _ _ hx hy (fun i c x hc hx => ?_) fun i c x hc hx => ?_
  ·exact ih1 i (renV σ c) x (by rw [renL_map, List.getElem?_map, hc]; rfl) hx rfl (List.all_eq_true.1 hb.1 c (List.mem_of_getElem? hc)) hF2 hk
  ·exact ih2 i (renV σ c) x (by rw [renL_map, List.getElem?_map, hc]; rfl) hx rfl (List.all_eq_true.1 hb.2 c (List.mem_of_getElem? hc)) hF2 hk
theorem RepL.ren {E E2 : Env} {vs : List V} {xs : List Value} {n : Nat} {σ : Nat → Nat} (h : RepL E vs xs) (hb : vs.all (belowV n) = true) (hF : ∀ ad y, E.F ad = some y → E2.F ad = some y) (hk : ∀ k v t, k < n → E.blk k v = some t → E2.blk (σ k) v = some t) : RepL E2 (renL σ vs) xs := by
 rw [renL_map]
 refine ⟨by rw [List.length_map]; exact h.1, fun i v x hv hx => ?_⟩
 rw [List.getElem?_map, Option.map_eq_some_iff] at hv
 obtain ⟨c, hc, rfl⟩ := hv
 exact (h.2 i c x hc hx).ren (List.all_eq_true.1 hb c (List.mem_of_getElem? hc)) hF hk
theorem RepL.unren {E E2 : Env} {vs : List V} {xs : List Value} {n : Nat} {σ : Nat → Nat} (h : RepL E (renL σ vs) xs) (hb : vs.all (belowV n) = true) (hF : ∀ ad y, E.F ad = some y → E2.F ad = some y) (hk : ∀ k v t, k < n → E.blk (σ k) v = some t → E2.blk k v = some t) : RepL E2 vs xs := by
 rw [renL_map] at h
 refine ⟨by have := h.1; rwa [List.length_map] at this, fun i v x hv hx => ?_⟩
 exact (h.2 i (renV σ v) x (by rw [List.getElem?_map, hv]; rfl) hx).unren rfl (List.all_eq_true.1 hb v (List.mem_of_getElem? hv)) hF hk
theorem BlkOk.ren {E E2 : Env} {w w2 : World} {k : Nat} {B : Blk} {n : Nat} {σ : Nat → Nat} (h : BlkOk E w k B) (hkn : k < n) (hb : belowB n B = true) (hF : E2.F = E.F) (hk : ∀ k v, k < n → E2.blk (σ k) v = E.blk k v) (hw : w2.heap = w.heap) : BlkOk E2 w2 (σ k) (renB σ B) := by
 have hF1 : ∀ ad y, E.F ad = some y → E2.F ad = some y := fun ad y h => by rw [hF]; exact h
 have hk1 : ∀ k v t, k < n → E.blk k v = some t → E2.blk (σ k) v = some t := fun k v t hn h => by rw [hk k v hn]; exact h
 have hp : E2.pure = E.pure := Env.ext2 hF rfl
 cases B with
 | hole => exact fun v => by rw [hk k v hkn]; exact h v
 | dead => trivial
 | box cs =>
  obtain ⟨g, T, xs, h1, h2, h3, h4⟩ := h
  exact ⟨g, T, xs, hk1 _ _ _ hkn h1, by rw [hw]; exact h2, h3.ren hb hF1 hk1, fun o => by rw [hF]; exact h4 o⟩
 | rows v e rs =>
  rcases h with ⟨h1, h2⟩ | ⟨g, T, xs, c, h1, h2, h3, h4, h5, h6⟩
  ·exact .inl ⟨h1, by rw [hk k v hkn]; exact h2⟩
  ·exact .inr ⟨g, T, xs, c, hk1 _ _ _ hkn h1, by rw [hw]; exact h2, h3, h4, by rw [hp]; exact h5, fun o => by rw [hF]; exact h6 o⟩
 | frz v e rs =>
  rcases h with ⟨h1, h2⟩ | ⟨g, c, h1, h2, h3⟩
  ·exact .inl ⟨h1, by rw [hk k v hkn]; exact h2⟩
  ·exact .inr ⟨g, c, hk1 _ _ _ hkn h1, h2, by rw [hp, hF]; exact h3⟩
 | loop s pend fr params assign body =>
  obtain ⟨l, fn, tmps, db, h1, h2, h3, h4⟩ := h
  exact ⟨l, fn, tmps, db, hk1 _ _ _ hkn h1, by rw [hw]; exact h2, h3.ren hb hF1 hk1, fun o => by rw [hF]; exact h4 o⟩
 | map kvs clock =>
  obtain ⟨g, es, h1, h2, h3, h4⟩ := h
  refine ⟨g, es, hk1 _ _ _ hkn h1, by rw [hw]; exact h2, ⟨by rw [List.length_map]; exact h3.1, fun i kb e hkb he => ?_⟩, fun o => by rw [hF]; exact h4 o⟩
  rw [List.getElem?_map, Option.map_eq_some_iff] at hkb
  obtain ⟨q, hq, rfl⟩ := hkb
  obtain ⟨p1, p2, p3⟩ := h3.2 i q e hq he
  exact ⟨p1, p2, p3.ren (List.all_eq_true.1 hb q (List.mem_of_getElem? hq)) hF1 hk1⟩
 | miter m since seen last =>
  obtain ⟨g, gm, e, c, h1, h2, h3, h4⟩ := h
  exact ⟨g, gm, e, c, hk1 _ _ _ hkn h1, hk1 _ _ _ (by simpa [belowB] using hb) h2, by rw [hw]; exact h3, fun o => by rw [hF]; exact h4 o⟩
 | siter s pos =>
  obtain ⟨g, h1, h2, h3⟩ := h
  exact ⟨g, hk1 _ _ _ hkn h1, by rw [hw]; exact h2, fun o => by rw [hF]; exact h3 o⟩
 | niter =>
  obtain ⟨g, h1, h2, h3⟩ := h
  exact ⟨g, hk1 _ _ _ hkn h1, by rw [hw]; exact h2, fun o => by rw [hF]; exact h3 o⟩
theorem BlkOk.unren {E E2 : Env} {w : World} {k : Nat} {B : Blk} {n : Nat} {σ : Nat → Nat} (h : BlkOk E w (σ k) (renB σ B)) (hkn : k < n) (hb : belowB n B = true) (hF : E2.F = E.F) (hk : ∀ k v, k < n → E2.blk k v = E.blk (σ k) v) : BlkOk E2 w k B := by
 have hF1 : ∀ ad y, E.F ad = some y → E2.F ad = some y := fun ad y h => by rw [hF]; exact h
 have hk1 : ∀ k v t, k < n → E.blk (σ k) v = some t → E2.blk k v = some t := fun k v t hn h => by rw [hk k v hn]; exact h
 have hp : E2.pure = E.pure := Env.ext2 hF rfl
 cases B with
 | hole => exact fun v => by rw [hk k v hkn]; exact h v
 | dead => trivial
 | box cs =>
  obtain ⟨g, T, xs, h1, h2, h3, h4⟩ := h
  exact ⟨g, T, xs, hk1 _ _ _ hkn h1, h2, h3.unren hb hF1 hk1, fun o => by rw [hF]; exact h4 o⟩
 | rows v e rs =>
  rcases h with ⟨h1, h2⟩ | ⟨g, T, xs, c, h1, h2, h3, h4, h5, h6⟩
  ·exact .inl ⟨h1, by rw [hk k v hkn]; exact h2⟩
  ·exact .inr ⟨g, T, xs, c, hk1 _ _ _ hkn h1, h2, h3, h4, by rw [hp]; exact h5, fun o => by rw [hF]; exact h6 o⟩
 | frz v e rs =>
  rcases h with ⟨h1, h2⟩ | ⟨g, c, h1, h2, h3⟩
  ·exact .inl ⟨h1, by rw [hk k v hkn]; exact h2⟩
  ·exact .inr ⟨g, c, hk1 _ _ _ hkn h1, h2, by rw [hp, hF]; exact h3⟩
 | loop s pend fr params assign body =>
  obtain ⟨l, fn, tmps, db, h1, h2, h3, h4⟩ := h
  exact ⟨l, fn, tmps, db, hk1 _ _ _ hkn h1, h2, h3.unren hb hF1 hk1, fun o => by rw [hF]; exact h4 o⟩
 | map kvs clock =>
  obtain ⟨g, es, h1, h2, h3, h4⟩ := h
  refine ⟨g, es, hk1 _ _ _ hkn h1, h2, ⟨by have := h3.1; rwa [List.length_map] at this, fun i q e hq he => ?_⟩, fun o => by rw [hF]; exact h4 o⟩
  obtain ⟨p1, p2, p3⟩ := h3.2 i _ e (by rw [List.getElem?_map, hq]; rfl) he
  exact ⟨p1, p2, p3.unren rfl (List.all_eq_true.1 hb q (List.mem_of_getElem? hq)) hF1 hk1⟩
 | miter m since seen last =>
  obtain ⟨g, gm, e, c, h1, h2, h3, h4⟩ := h
  exact ⟨g, gm, e, c, hk1 _ _ _ hkn h1, hk1 _ _ _ (by simpa [belowB] using hb) h2, h3, fun o => by rw [hF]; exact h4 o⟩
 | siter s pos =>
  obtain ⟨g, h1, h2, h3⟩ := h
  exact ⟨g, hk1 _ _ _ hkn h1, h2, fun o => by rw [hF]; exact h3 o⟩
 | niter =>
  obtain ⟨g, h1, h2, h3⟩ := h
  exact ⟨g, hk1 _ _ _ hkn h1, h2, fun o => by rw [hF]; exact h3 o⟩

def setAll (σ : Nat → Nat) : Nat → List Blk → List Blk → List Blk
 | _, [], M => M
 | i, B :: r, M => setAll σ (i + 1) r (M.set (σ i) (renB σ B))
def putR (σ : Nat → Nat) (n : Nat) (mem' M : List Blk) : List Blk := setAll σ 0 (mem'.take n) M ++ (mem'.drop n).map (renB σ)
theorem setAll_length (σ : Nat → Nat) : ∀ (l : List Blk) (i : Nat) (M : List Blk), (setAll σ i l M).length = M.length
 | [], _, _ => rfl
 | B :: r, i, M => by rw [setAll, setAll_length σ r]; simp
theorem setAll_ne (σ : Nat → Nat) : ∀ (l : List Blk) (i : Nat) (M : List Blk) (k : Nat), (∀ j, i ≤ j → j < i + l.length → σ j ≠ k) → (setAll σ i l M)[k]? = M[k]?
 | [], _, _, _, _ => rfl
 | B :: r, i, M, k, h => by
  rw [setAll, setAll_ne σ r (i + 1) _ k fun j h1 h2 => h j (by omega) (by simp; omega), List.getElem?_set_ne (h i (Nat.le_refl _) (by simp))]
theorem setAll_at (σ : Nat → Nat) : ∀ (l : List Blk) (i : Nat) (M : List Blk) (j : Nat) (B : Blk), (∀ a b, i ≤ a → a < i + l.length → i ≤ b → b < i + l.length → σ a = σ b → a = b) → i ≤ j → l[j - i]? = some B → σ j < M.length → (setAll σ i l M)[σ j]? = some (renB σ B)
 | [], _, _, _, _, _, _, h, _ => by simp at h
 | C :: r, i, M, j, B, hinj, hij, h, hlt => by
  rw [setAll]
  by_cases hj : j = i
  ·subst hj
   rw [Nat.sub_self] at h; cases h
   rw [setAll_ne σ r (j + 1) _ (σ j) fun a h1 h2 e => by have := hinj a j (by omega) (by simp; omega) (Nat.le_refl _) (by simp) e; omega]
   rw [List.getElem?_set]; simp [hlt]
  ·refine setAll_at σ r (i + 1) _ j B (fun a b h1 h2 h3 h4 => hinj a b (by omega) (by simp; omega) (by omega) (by simp; omega)) (by omega) ?_ (by simpa using hlt)
   rw [show j - i = (j - (i + 1)) + 1 by omega] at h
   simpa using h
theorem FnOkS.ren {P : Program} {f : FuncId} {vs : List V} {r : V} {mem mem' : List Blk} (h : FnOkS P f vs mem r mem') (M : List Blk) (σ : Nat → Nat) (n : Nat) (hn : n = mem.length) (hv : vs.all (belowV n) = true) (hm : mem.all (belowB n) = true) (hr : belowV mem'.length r = true)
  (hm' : mem'.all (belowB mem'.length) = true) (hlen : n ≤ mem'.length) (hσ : ∀ i B, mem[i]? = some B → M[σ i]? = some (renB σ B)) (hinj : ∀ i j, i < n → j < n → σ i = σ j → i = j) (hnew : ∀ j, n ≤ j → σ j = M.length + (j - n)) :
  FnOkS P f (renL σ vs) M (renV σ r) (putR σ n mem' M) := by
 subst hn
 have hold : ∀ i, i < mem.length → σ i < M.length := fun i hi => (List.getElem?_eq_some_iff.1 (hσ i _ (List.getElem?_eq_getElem hi))).1
 have hL : (putR σ mem.length mem' M).length = M.length + (mem'.length - mem.length) := by
  unfold putR
  rw [List.length_append, setAll_length, List.length_map, List.length_drop]
 have hat : ∀ i B, mem'[i]? = some B → (putR σ mem.length mem' M)[σ i]? = some (renB σ B) := fun i B hi => by
  unfold putR
  rcases Nat.lt_or_ge i mem.length with hlt | hge
  ·rw [List.getElem?_append_left (by rw [setAll_length]; exact hold i hlt)]
   refine setAll_at σ _ 0 M i B (fun a b _ h2 _ h4 he => ?_) (Nat.zero_le _) (by rw [Nat.sub_zero, List.getElem?_take_of_lt hlt]; exact hi) (hold i hlt)
   rw [List.length_take] at h2 h4
   exact hinj a b (by omega) (by omega) he
  ·rw [hnew i hge, List.getElem?_append_right (by rw [setAll_length]; omega), setAll_length, Nat.add_sub_cancel_left, List.getElem?_map, List.getElem?_drop, show mem.length + (i - mem.length) = i by omega, hi]; rfl
 have hne : ∀ k, k < M.length → (∀ i, i < mem.length → σ i ≠ k) → (putR σ mem.length mem' M)[k]? = M[k]? := fun k hk h => by
  unfold putR
  rw [List.getElem?_append_left (by rw [setAll_length]; exact hk)]
  exact setAll_ne σ _ 0 M k fun j _ h2 => h j (by rw [List.length_take] at h2; omega)
 generalize putR σ mem.length mem' M = M' at hL hat hne
 refine ⟨h.1, fun E w xs hs hx => ?_⟩
 have hE0 : ∀ k v, k < mem.length → (⟨E.F, fun k v => if k < mem.length then E.blk (σ k) v else none, E.gl⟩ : Env).blk k v = E.blk (σ k) v := fun k v hk => if_pos hk
 have hE0' : ∀ k v, mem.length ≤ k → (⟨E.F, fun k v => if k < mem.length then E.blk (σ k) v else none, E.gl⟩ : Env).blk k v = none := fun k v hk => if_neg (by omega)
 have hE0F : (⟨E.F, fun k v => if k < mem.length then E.blk (σ k) v else none, E.gl⟩ : Env).F = E.F := rfl
 generalize (⟨E.F, fun k v => if k < mem.length then E.blk (σ k) v else none, E.gl⟩ : Env) = E0 at hE0 hE0' hE0F
 have hin : ∀ k v t, E0.blk k v = some t → k < mem.length ∧ E.blk (σ k) v = some t := fun k v t h => by
  rcases Nat.lt_or_ge k mem.length with hk | hk
  ·exact ⟨hk, by rw [← hE0 k v hk]; exact h⟩
  ·rw [hE0' k v hk] at h; cases h
 have hs0 : Sim E0 w { tmps := #[], defers := [] } { fr := [], mem := mem } :=
  ⟨fun ad y hy => hs.F ad y (by rw [← hE0F]; exact hy), fun k v g e c hk => hs.lt _ _ _ _ _ (hin _ _ _ hk).2,
   fun k B hk => (hs.mem _ _ (hσ k B hk)).unren (List.getElem?_eq_some_iff.1 hk).1 (List.all_eq_true.1 hm B (List.mem_of_getElem? hk)) hE0F hE0,
   fun k hk v => hE0' k v hk, fun k B hk v hv => by
    rw [hE0 k v (List.getElem?_eq_some_iff.1 hk).1]
    exact hs.ver _ _ (hσ k B hk) v (by rw [renB_ver]; exact hv),
   fun k k' v v' g e c e' c' h1 h2 => by
    obtain ⟨p1, p2⟩ := hin _ _ _ h1
    obtain ⟨q1, q2⟩ := hin _ _ _ h2
    exact hinj k k' p1 q1 (hs.apart _ _ _ _ _ _ _ _ _ p2 q2), .nil _⟩
 have hx0 : RepL E0 vs xs.toList := hx.unren hv (fun ad y hy => by rw [hE0F]; exact hy) fun k v t hk h => by rw [hE0 k v hk]; exact h
 refine (h.2 E0 w xs hs0 hx0).mono ?_
 rintro en w1 ⟨E1, x, rfl, hev, hs', hr'⟩
 have hA0 : ∀ i v, i < mem.length → (⟨E1.F, fun K v => match (List.range mem.length).find? (fun i => σ i == K) with | some i => E1.blk i v | none => if K < M.length then E.blk K v else E1.blk (K - M.length + mem.length) v, E1.gl⟩ : Env).blk (σ i) v = E1.blk i v := fun i v hi => by
  show (match (List.range mem.length).find? (fun j => σ j == σ i) with | some i => E1.blk i v | none => _) = _
  have : (List.range mem.length).find? (fun j => σ j == σ i) = some i := by
   cases hf : (List.range mem.length).find? (fun j => σ j == σ i) with
   | none =>
    have := List.find?_eq_none.1 hf i (List.mem_range.2 hi)
    simp at this
   | some j =>
    have h1 := List.find?_some hf
    have h2 := List.mem_range.1 (List.mem_of_find?_eq_some hf)
    rw [hinj j i h2 hi (by simpa using h1)]
  rw [this]
 have hno : ∀ K, (∀ i, i < mem.length → σ i ≠ K) → (List.range mem.length).find? (fun i => σ i == K) = none := fun K h => List.find?_eq_none.2 fun i hi => by
  have := h i (List.mem_range.1 hi)
  simpa using this
 have hB : ∀ K v, K < M.length → (∀ i, i < mem.length → σ i ≠ K) → (⟨E1.F, fun K v => match (List.range mem.length).find? (fun i => σ i == K) with | some i => E1.blk i v | none => if K < M.length then E.blk K v else E1.blk (K - M.length + mem.length) v, E1.gl⟩ : Env).blk K v = E.blk K v := fun K v hK h => by
  show (match (List.range mem.length).find? (fun j => σ j == K) with | some i => E1.blk i v | none => _) = _
  rw [hno K h]
  exact if_pos hK
 have hA1 : ∀ i v, mem.length ≤ i → (⟨E1.F, fun K v => match (List.range mem.length).find? (fun i => σ i == K) with | some i => E1.blk i v | none => if K < M.length then E.blk K v else E1.blk (K - M.length + mem.length) v, E1.gl⟩ : Env).blk (σ i) v = E1.blk i v := fun i v hi => by
  show (match (List.range mem.length).find? (fun j => σ j == σ i) with | some i => E1.blk i v | none => _) = _
  have hs1 := hnew i hi
  rw [hno (σ i) fun j hj e => by have := hold j hj; omega]
  show (if σ i < M.length then E.blk (σ i) v else E1.blk (σ i - M.length + mem.length) v) = _
  rw [if_neg (by omega), hs1, show M.length + (i - mem.length) - M.length + mem.length = i by omega]
 have hE2F : (⟨E1.F, fun K v => match (List.range mem.length).find? (fun i => σ i == K) with | some i => E1.blk i v | none => if K < M.length then E.blk K v else E1.blk (K - M.length + mem.length) v, E1.gl⟩ : Env).F = E1.F := rfl
 generalize (⟨E1.F, fun K v => match (List.range mem.length).find? (fun i => σ i == K) with | some i => E1.blk i v | none => if K < M.length then E.blk K v else E1.blk (K - M.length + mem.length) v, E1.gl⟩ : Env) = E2 at hA0 hB hA1 hE2F
 have hA : ∀ i v, E2.blk (σ i) v = E1.blk i v := fun i v => by
  rcases Nat.lt_or_ge i mem.length with hi | hi
  ·exact hA0 i v hi
  ·exact hA1 i v hi
 have cl : ∀ K, (∃ i, K = σ i) ∨ (K < M.length ∧ ∀ i, i < mem.length → σ i ≠ K) := fun K => by
  rcases Nat.lt_or_ge K M.length with hK | hK
  ·by_cases h : ∃ i, i < mem.length ∧ σ i = K
   ·obtain ⟨i, -, hi⟩ := h
    exact .inl ⟨i, hi.symm⟩
   ·exact .inr ⟨hK, fun i hi e => h ⟨i, hi, e⟩⟩
  ·exact .inl ⟨K - M.length + mem.length, by rw [hnew _ (by omega)]; omega⟩
 have hnot : ∀ K v g e c, (∀ i, i < mem.length → σ i ≠ K) → E.blk K v = some (g, e, c) → ∀ k0 v0 e0 c0, E0.blk k0 v0 ≠ some (g, e0, c0) := fun K v g e c hK hb k0 v0 e0 c0 h => by
  obtain ⟨h1, h2⟩ := hin _ _ _ h
  exact hK k0 h1 (hs.apart _ _ _ _ _ _ _ _ _ h2 hb)
 have hle : E.le E2 := ⟨fun ad y hy => by rw [hE2F]; exact hev.le.F _ _ (by rw [hE0F]; exact hy), fun K v t hk => by
  rcases cl K with ⟨i, rfl⟩ | ⟨hK, hno'⟩
  ·rw [hA i v]
   rcases Nat.lt_or_ge i mem.length with hi | hi
   ·exact hev.le.blk _ _ _ (by rw [hE0 i v hi]; exact hk)
   ·rw [hs.top (σ i) (by rw [hnew i hi]; dsimp only; omega) v] at hk; cases hk
  ·rw [hB K v hK hno']; exact hk⟩
 refine ⟨E2, x, rfl, ⟨hle, fun K v g e c hk => ?_, fun ad y hy => ?_, hev.os, hev.tape, hev.output, hev.size, fun b hb hne => hev.heap b hb fun k v e c h => hne _ _ _ _ (hin _ _ _ h).2⟩,
  ⟨fun ad y hy => hs'.F _ _ (by rw [← hE2F]; exact hy), fun K v g e c hk => ?_, fun K B hk => ?_, fun K hk v => ?_, fun K B hk v hv => ?_, fun K K' v v' g e1 c1 e2 c2 h5 h6 => ?_, .nil _⟩, hr'.ren hr (fun ad y hy => by rw [hE2F]; exact hy) fun k v t _ hk => by rw [hA]; exact hk⟩
 ·rcases cl K with ⟨i, rfl⟩ | ⟨hK, hno'⟩
  ·rw [hA i v] at hk
   rcases hev.blk _ _ _ _ _ hk with ⟨k0, v0, e0, c0, h⟩ | h
   ·exact .inl ⟨_, _, _, _, (hin _ _ _ h).2⟩
   ·exact .inr h
  ·rw [hB K v hK hno'] at hk; exact .inl ⟨_, _, _, _, hk⟩
 ·rw [hE2F] at hy
  rcases hev.F _ _ hy with h | h | ⟨k0, v0, e0, c0, h⟩
  ·exact .inl (by rw [← hE0F]; exact h)
  ·exact .inr (.inl h)
  ·exact .inr (.inr ⟨_, _, _, _, (hin _ _ _ h).2⟩)
 ·rcases cl K with ⟨i, rfl⟩ | ⟨hK, hno'⟩
  ·rw [hA i v] at hk; exact hs'.lt _ _ _ _ _ hk
  ·rw [hB K v hK hno'] at hk; exact Nat.lt_of_lt_of_le (hs.lt _ _ _ _ _ hk) hev.size
 ·rcases cl K with ⟨i, rfl⟩ | ⟨hK, hno'⟩
  ·have hi : i < mem'.length := by
    have h1 := (List.getElem?_eq_some_iff.1 hk).1
    rcases Nat.lt_or_ge i mem.length with h2 | h2
    ·omega
    ·have h3 := hnew i h2
     dsimp only at h1; omega
   have hk' := hat i _ (List.getElem?_eq_getElem hi)
   rw [hk] at hk'
   cases hk'
   exact (hs'.mem i _ (List.getElem?_eq_getElem hi)).ren hi (List.all_eq_true.1 hm' _ (List.getElem_mem hi)) hE2F (fun k v _ => hA k v) rfl
  ·dsimp only at hk
   rw [hne K hK hno'] at hk
   refine (hs.mem K B hk).mono hle (fun v hv => by rw [hB K v hK hno']; exact hv) (fun g e c hb => hev.heap g (hs.lt _ _ _ _ _ hb) fun k0 v0 e0 c0 h => hnot _ _ _ _ _ hno' hb _ _ _ _ h) fun g e c o hb hn => ?_
   rw [hE2F]
   cases hy : E1.F ⟨g, o, none⟩ with
   | none => rfl
   | some y =>
    rcases hev.F _ _ hy with h | h | ⟨k0, v0, e0, c0, h⟩
    ·rw [hE0F, hn] at h; cases h
    ·have := hs.lt _ _ _ _ _ hb; simp at h; omega
    ·exact absurd h (hnot _ _ _ _ _ hno' hb _ _ _ _)
 ·rcases cl K with ⟨i, rfl⟩ | ⟨hK, hno'⟩
  ·rw [hA i v]
   refine hs'.top i ?_ v
   dsimp only at hk ⊢
   rcases Nat.lt_or_ge i mem.length with h2 | h2
   ·have := hold i h2; omega
   ·have h3 := hnew i h2; omega
  ·dsimp only at hk; omega
 ·rcases cl K with ⟨i, rfl⟩ | ⟨hK, hno'⟩
  ·rw [hA i v]
   have hi : i < mem'.length := by
    have h1 := (List.getElem?_eq_some_iff.1 hk).1
    rcases Nat.lt_or_ge i mem.length with h2 | h2
    ·omega
    ·have h3 := hnew i h2
     dsimp only at h1; omega
   have hk' := hat i _ (List.getElem?_eq_getElem hi)
   rw [hk] at hk'
   cases hk'
   rw [renB_ver] at hv
   exact hs'.ver i _ (List.getElem?_eq_getElem hi) v hv
  ·rw [hB K v hK hno']
   dsimp only at hk
   rw [hne K hK hno'] at hk
   exact hs.ver K B hk v hv
 ·have mixed : ∀ i K' v v' g e1 c1 e2 c2, (∀ i, i < mem.length → σ i ≠ K') → E1.blk i v = some (g, e1, c1) → E.blk K' v' = some (g, e2, c2) → False := fun i K' v v' g e1 c1 e2 c2 hK' h h' => by
   rcases hev.blk _ _ _ _ _ h with ⟨k0, v0, e0, c0, h0⟩ | h0
   ·exact absurd h0 (hnot _ _ _ _ _ hK' h' _ _ _ _)
   ·have := hs.lt _ _ _ _ _ h'; omega
  rcases cl K with ⟨i, rfl⟩ | ⟨hK, hno1⟩ <;> rcases cl K' with ⟨j, rfl⟩ | ⟨hK', hno2⟩
  ·rw [hA] at h5 h6
   rw [hs'.apart _ _ _ _ _ _ _ _ _ h5 h6]
  ·rw [hA] at h5; rw [hB K' _ hK' hno2] at h6
   exact (mixed _ _ _ _ _ _ _ _ _ hno2 h5 h6).elim
  ·rw [hB K _ hK hno1] at h5; rw [hA] at h6
   exact (mixed _ _ _ _ _ _ _ _ _ hno1 h6 h5).elim
  ·rw [hB K _ hK hno1] at h5; rw [hB K' _ hK' hno2] at h6
   exact hs.apart _ _ _ _ _ _ _ _ _ h5 h6
theorem renV_pure (σ : Nat → Nat) : ∀ {v : V}, belowV 0 v = true → renV σ v = v := fun {v} => by
 exact V.rec (motive_1 := fun v => belowV 0 v = true → renV σ v = v) (motive_2 := fun l => belowL 0 l = true → renL σ l = l)
  (fun _ => rfl) (fun _ _ => rfl) (fun cs ih h => by rw [renV, ih (by simpa [belowV] using h)]) (fun _ _ _ => rfl) (fun b v s l h => by simp [belowV] at h) (fun b o h => by simp [belowV] at h)
  (fun b v i o h => by simp [belowV] at h) (fun _ _ _ => rfl) (fun f a c i1 i2 h => by simp only [belowV,Bool.and_eq_true] at h; rw [renV, i1 h.1, i2 h.2]) (fun vs ih h => by rw [renV, ih (by simpa [belowV] using h)])
  (fun b h => by simp [belowV] at h) (fun b h => by simp [belowV] at h) (fun _ => rfl) (fun _ => rfl) (fun c r i1 i2 h => by simp only [belowL,Bool.and_eq_true] at h; rw [renL, i1 h.1, i2 h.2]) v
end Go.Eng
end

section
namespace Go.Eng
variable [Glob]
open Go.RowKit (Below)
theorem Sim.below {E : Env} {w w' : World} {a : Act} {st : St} (hs : Sim E w a st) (hb : Below w.heap.size w w') : Sim E w' a st ∧ Evo E w E w' := by
 refine ⟨⟨fun ad y hy => ?_, fun k v g e c h => Nat.lt_of_lt_of_le (hs.lt _ _ _ _ _ h) hb.size, fun k B hk => ?_, hs.top, hs.ver, hs.apart, hs.fr⟩,
  ⟨E.le_refl, fun k v g e c h => .inl ⟨k, v, e, c, h⟩, fun _ _ h => .inl h, hb.os, hb.tape, hb.output, hb.size, fun b hlt _ => hb.block b hlt⟩⟩
 ·rw [hb.cell (World.block_lt_of_cell? w ad (hs.F ad y hy))]; exact hs.F ad y hy
 ·exact (hs.mem k B hk).mono E.le_refl (fun _ h => h) (fun g e c h => hb.block _ (hs.lt _ _ _ _ _ h)) fun _ _ _ _ _ h => h
end Go.Eng
end

section
namespace Go.Eng
variable [Glob]
theorem Sim.repl {E : Env} {w w' : World} {a : Act} {st : St} (hs : Sim E w a st) {b v e g c : Nat} {rs rs' : List V} {T : TypeId} {ys : Array Value} (hm : st.mem[b]? = some (.rows v e rs)) (hb : E.blk b v = some (g, e, c)) (hF : ∀ o, E.F ⟨g, o, none⟩ = none)
  (hos : w'.os = w.os) (htape : w'.tape = w.tape) (hout : w'.output = w.output) (hsz : w.heap.size ≤ w'.heap.size) (hh : w'.heap[g]? = some (.cells ys T (0, 0))) (hother : ∀ k, k < w.heap.size → k ≠ g → w'.heap[k]? = w.heap[k]?)
  (hy1 : ys.size = c * e) (hy2 : rs'.length ≤ c) (hy3 : RowsOk E.pure e rs' (fun o => ys[o]?)) : Sim E w' a { st with mem := st.mem.set b (.rows v e rs') } ∧ Evo E w E w' := by
 have hlt := (List.getElem?_eq_some_iff.1 hm).1
 have hFg : ∀ ad x, E.F ad = some x → ad.block ≠ g := fun ad x h e => by
  have hc := hs.F ad x h
  obtain ⟨blk, off, spot⟩ := ad
  obtain rfl : blk = g := e
  have hsp : spot = none := by
   unfold World.cell? at hc
   split at hc
   ·dsimp only at hc
    cases spot with
    | none => rfl
    | some s => simp at hc
   ·cases hc
  subst hsp
  rw [hF] at h; cases h
 refine ⟨⟨fun ad x h => ?_, fun k v g e c h => Nat.lt_of_lt_of_le (hs.lt _ _ _ _ _ h) hsz, fun k B hk => ?_, fun k hk => hs.top k (by simpa using hk), fun k B hk v hv => ?_, hs.apart, hs.fr⟩,
  ⟨E.le_refl, fun k v g e c h => .inl ⟨k, v, e, c, h⟩, fun _ _ h => .inl h, hos, htape, hout, hsz, fun k hk hne => hother k hk fun e => by subst e; exact hne _ _ _ _ hb⟩⟩
 ·have h1 := hs.F ad x h
  have h2 := World.block_lt_of_cell? w ad h1
  rw [← h1]
  unfold World.cell?
  rw [hother _ h2 (hFg ad x h)]
 ·rw [List.getElem?_set] at hk
  split at hk
  ·rename_i he; subst he
   cases hk
   exact .inr ⟨g, T, ys, c, hb, hh, hy1, hy2, hy3, hF⟩
  ·rename_i hne
   refine (hs.mem k B hk).mono E.le_refl (fun _ h => h) (fun g' e' c' h => hother g' (hs.lt _ _ _ _ _ h) fun e => ?_) fun _ _ _ _ _ h => h
   subst e
   exact hne (hs.apart _ _ _ _ _ _ _ _ _ hb h)
 ·rw [List.getElem?_set] at hk
  split at hk
  ·rename_i he; subst he
   cases hk
   exact hs.ver b _ hm v hv
  ·exact hs.ver k B hk v hv
theorem FnOk.none_rows {P : Program} {f : FuncId} {args : List V} {m : List Blk} {b v : Nat} (h : FnOk P f (.slice [] :: args) (.tup [])) (hp : ∀ E xs, RepL E args xs → RepL E.pure args xs) : FnOkS P f (.ms b v 0 0 :: args) m (.sc (.tuple #[])) m := by
 refine ⟨h.1, fun E w xs hs hx => ?_⟩
 obtain ⟨x, ys, hxs, hr, hrest⟩ := hx.of_cons
 have hr' : Rep E.pure (.slice []) x := by
  cases hr with
  | ms _ _ _ _ _ g e c a cap hb hl h0 hc => exact .slice _ [] a cap 0 ⟨0, 0, none⟩ (fun _ _ => undef) (fun h => absurd rfl h) (Nat.zero_le _) (fun i row h => by simp at h) (fun i row j c h => by simp at h) (fun i row j c h => by simp at h) (fun i row j c h => by simp at h)
  | msnil => exact .slice _ [] none 0 0 ⟨0, 0, none⟩ (fun _ _ => undef) (fun h => absurd rfl h) (Nat.le_refl _) (fun i row h => by simp at h) (fun i row j c h => by simp at h) (fun i row j c h => by simp at h) (fun i row j c h => by simp at h)
 have hx' : RepL E.pure (.slice [] :: args) xs.toList := by rw [hxs]; exact RepL.cons hr' (hp E _ hrest)
 refine (h.2 E.F E.gl w xs hs.F hx').mono ?_
 rintro e w' ⟨F', y, rfl, -, -, -, ⟨hg', hy⟩, hbel⟩
 have hy : y = .tuple #[] := by
  cases hy with
  | tup _ _ zs hl hh => exact congrArg Value.tuple (Array.eq_empty_of_size_eq_zero (xs := zs) (by simpa using hl.symm))
 obtain ⟨h1, h2⟩ := hs.below hbel
 exact ⟨E, y, rfl, h2, h1, by rw [hy]; exact .sc _ _⟩
end Go.Eng
end

section
namespace Go.Eng
variable [Glob]
section
variable {P : Program} {ρ : Option Nat} {n0 : Nat} {c : Code} {st : St} {Q : Exit → St → Prop}
theorem tri_frz {v v' : V} (t : Nat) (h0 : st.fr[t]? = some v) (hp : pur1 st.mem v = some v') (h : Tri P ρ n0 c { fr := st.fr.set t v', mem := frzAll st.mem (ref1 v) } Q) : Tri P ρ n0 c st Q := fun E0 w0 he0 E w a he hs hmk => by
 obtain ⟨E', h1, h2, h3⟩ := hs.freeze (vs := [v]) (vs' := [v']) (by simp only [purL,hp])
 obtain ⟨x, hx, hr⟩ := hs.fr.get h0
 have hr' := (h3 [x] (RepL.cons hr (.nil _))).2 0 v' x rfl rfl
 have e1 : [v].flatMap ref1 = ref1 v := by simp
 rw [e1] at h1
 have e2 : a.tmps.toList.set t x = a.tmps.toList := by
  apply List.ext_getElem?
  intro i
  rw [List.getElem?_set]
  split
  ·rename_i hi; subst hi
   rw [if_pos (List.getElem?_eq_some_iff.1 hx).1, hx]
  ·rfl
 have h4 : RepL E' (st.fr.set t v') a.tmps.toList := by
  have := (RepL.set (n := t) h1.fr hr')
  rwa [e2] at this
 exact h E0 w0 he0 E' w a (he.trans h2) ⟨h1.F, h1.lt, h1.mem, h1.top, h1.ver, h1.apart, h4⟩ (hmk.evo h2)
theorem ex_frz {v v' : V} (t : Nat) (h0 : st.fr[t]? = some v) (hp : pur1 st.mem v = some v') (h : Ex P ρ n0 c { fr := st.fr.set t v', mem := frzAll st.mem (ref1 v) } Q) : Ex P ρ n0 c st Q := by
 obtain ⟨e, s2, hq, h2⟩ := h
 exact ⟨e, s2, hq, fun Q' h' => tri_frz t h0 hp (h2 Q' h')⟩
theorem set_same {α : Type} {l : List α} {t : Nat} {x : α} (h : l[t]? = some x) : l.set t x = l := by
 apply List.ext_getElem?
 intro i
 rw [List.getElem?_set]
 split
 ·rename_i hi; subst hi
  rw [if_pos (List.getElem?_eq_some_iff.1 h).1, h]
 ·rfl
theorem Sim.boxNil {E : Env} {w : World} {a : Act} (hs : Sim E w a st) {k j : Nat} {cs : List V} (hk : st.mem[k]? = some (.box cs)) (hj : cs[j]? = some (.sc (.slice none 0 0))) (b v : Nat) : Sim E w a { st with mem := st.mem.set k (.box (cs.set j (.ms b v 0 0))) } := by
 have hlt := (List.getElem?_eq_some_iff.1 hk).1
 refine ⟨hs.F, hs.lt, fun k' B hB => ?_, fun k' hk' => hs.top k' (by simpa using hk'), fun k' B hB v hv => ?_, hs.apart, hs.fr⟩
 ·rw [List.getElem?_set] at hB
  split at hB
  ·rename_i he; subst he
   cases hB
   obtain ⟨g, T, xs, hb, hh, hr, hf⟩ := hs.mem k _ hk
   refine ⟨g, T, xs, hb, hh, ?_, hf⟩
   obtain ⟨x, hx, hrx⟩ := hr.get hj
   have hxv := rep_sc hrx
   subst hxv
   have := RepL.set (n := j) hr (Rep.msnil E b v 0)
   rwa [set_same hx] at this
  ·exact hs.mem k' B hB
 ·rw [List.getElem?_set] at hB
  split at hB
  ·rename_i he; subst he
   cases hB
   exact hs.ver k _ hk v hv
  ·exact hs.ver k' B hB v hv
theorem tri_nilBox {cs : List V} (k j v e : Nat) (hk : st.mem[k]? = some (.box cs)) (hj : cs[j]? = some (.sc (.slice none 0 0))) (h : Tri P ρ n0 c { fr := st.fr, mem := st.mem.set k (.box (cs.set j (.ms st.mem.length v 0 0))) ++ [.rows v e []] } Q) : Tri P ρ n0 c st Q :=
 tri_weak (fun E w a hs => (hs.boxNil hk hj st.mem.length v).nilRowsV v e) h
theorem ex_nilBox {cs : List V} (k j v e : Nat) (hk : st.mem[k]? = some (.box cs)) (hj : cs[j]? = some (.sc (.slice none 0 0))) (h : Ex P ρ n0 c { fr := st.fr, mem := st.mem.set k (.box (cs.set j (.ms st.mem.length v 0 0))) ++ [.rows v e []] } Q) : Ex P ρ n0 c st Q := by
 obtain ⟨ee, s2, hq, h2⟩ := h
 exact ⟨ee, s2, hq, fun Q' h' => tri_nilBox k j v e hk hj (h2 Q' h')⟩
end
end Go.Eng
end

section
namespace Go.Eng
variable [Glob]
def swp (A B k : Nat) : Nat := if k = A then B else if k = B then A else k
theorem swp_swp (A B k : Nat) : swp A B (swp A B k) = k := by
 unfold swp
 by_cases h1 : k = A
 ·subst h1
  by_cases h2 : B = k
  ·simp [h2]
  ·simp [h2]
 ·by_cases h2 : k = B
  ·subst h2; simp [h1]
  ·simp [h1, h2]
def swapM (A B : Nat) (mem : List Blk) : List Blk := ((mem.set A (mem.getD B .dead)).set B (mem.getD A .dead)).map (renB (swp A B))
section
variable {P : Program} {ρ : Option Nat} {n0 : Nat} {c : Code} {st : St} {Q : Exit → St → Prop}
theorem swapM_length (A B : Nat) (mem : List Blk) : (swapM A B mem).length = mem.length := by simp [swapM]
theorem swapM_get {A B : Nat} {mem : List Blk} (hA : A < mem.length) (hB : B < mem.length) (k : Nat) : (swapM A B mem)[k]? = (mem[swp A B k]?).map (renB (swp A B)) := by
 unfold swapM
 rw [List.getElem?_map]
 congr 1
 rw [List.getElem?_set, List.getElem?_set, List.length_set]
 unfold swp
 by_cases h1 : B = k
 ·subst h1
  rw [if_pos rfl, if_pos hB]
  by_cases h2 : B = A
  ·subst h2; rw [if_pos rfl, List.getD_eq_getElem?_getD, List.getElem?_eq_getElem hB]; rfl
  ·rw [if_neg h2, if_pos rfl, List.getD_eq_getElem?_getD, List.getElem?_eq_getElem hA]; rfl
 ·rw [if_neg h1]
  by_cases h2 : A = k
  ·subst h2; rw [if_pos rfl, if_pos hA, if_pos rfl, List.getD_eq_getElem?_getD, List.getElem?_eq_getElem hB]; rfl
  ·rw [if_neg h2, if_neg (fun e => h2 e.symm), if_neg (fun e => h1 e.symm)]
theorem tri_swap (A B : Nat) (hA0 : n0 ≤ A) (hB0 : n0 ≤ B) (hA : A < st.mem.length) (hB : B < st.mem.length) (hf : st.fr.all (belowV st.mem.length) = true) (hm : st.mem.all (belowB st.mem.length) = true)
  (h : Tri P ρ n0 c { fr := renL (swp A B) st.fr, mem := swapM A B st.mem } Q) : Tri P ρ n0 c st Q := fun E0 w0 he0 E w a he hs hmk => by
 obtain ⟨E', hE⟩ : ∃ E' : Env, E' = { F := E.F, blk := fun k v => E.blk (swp A B k) v, gl := E.gl } := ⟨_, rfl⟩
 have eF : E'.F = E.F := by rw [hE]
 have eb : ∀ k v, E'.blk k v = E.blk (swp A B k) v := fun k v => by rw [hE]
 have eb' : ∀ k v, E'.blk (swp A B k) v = E.blk k v := fun k v => by rw [eb, swp_swp]
 have hlt : ∀ k, k < st.mem.length → swp A B k < st.mem.length := fun k hk => by unfold swp; split <;> (try split) <;> assumption
 have hge : ∀ k, st.mem.length ≤ k → swp A B k = k := fun k hk => by unfold swp; rw [if_neg (by omega), if_neg (by omega)]
 have hev : Evo E0 w0 E' w := by
  refine ⟨⟨fun ad x hx => by rw [eF]; exact he.le.F _ _ hx, fun k v t hk => ?_⟩, fun k v g e c hk => he.blk _ _ _ _ _ (by rw [← eb]; exact hk), fun ad x hx => he.F _ _ (by rw [← eF]; exact hx), he.os, he.tape, he.output, he.size, he.heap⟩
  rcases Nat.lt_or_ge k n0 with hk0 | hk0
  ·rw [eb, show swp A B k = k by unfold swp; rw [if_neg (by omega), if_neg (by omega)]]; exact he.le.blk _ _ _ hk
  ·rw [he0 k hk0] at hk; cases hk
 refine h E0 w0 he0 E' w a hev ⟨fun ad x hx => hs.F _ _ (by rw [← eF]; exact hx), fun k v g e c hk => hs.lt _ _ _ _ _ (by rw [← eb]; exact hk), fun k Bk hk => ?_, fun k hk v => ?_, fun k Bk hk v hv => ?_, fun k k' v v' g e c e' c' q1 q2 => ?_, ?_⟩ ?_
 ·dsimp only at hk
  rw [swapM_get hA hB, Option.map_eq_some_iff] at hk
  obtain ⟨B0, hB0', rfl⟩ := hk
  have h1 := (hs.mem _ _ hB0').ren (σ := swp A B) (E2 := E') (w2 := w) (n := st.mem.length) (List.getElem?_eq_some_iff.1 hB0').1 (List.all_eq_true.1 hm _ (List.mem_of_getElem? hB0')) eF (fun k v _ => eb' k v) rfl
  rwa [swp_swp] at h1
 ·dsimp only at hk
  rw [swapM_length] at hk
  rw [eb, hge k hk]
  exact hs.top k hk v
 ·dsimp only at hk
  rw [swapM_get hA hB, Option.map_eq_some_iff] at hk
  obtain ⟨B0, hB0', rfl⟩ := hk
  rw [eb]
  rw [renB_ver] at hv
  exact hs.ver _ _ hB0' v hv
 ·rw [eb] at q1 q2
  have := hs.apart _ _ _ _ _ _ _ _ _ q1 q2
  rw [← swp_swp A B k, this, swp_swp]
 ·exact hs.fr.ren hf (fun ad y hy => by rw [eF]; exact hy) fun k v t _ hk => by rw [eb']; exact hk
 ·obtain ⟨rs, h1, h2, h3⟩ := hmk
  exact ⟨rs, h1, h2, fun r hr => ⟨(h3 r hr).1, (h3 r hr).2.1, fun k v e c hk => (h3 r hr).2.2 _ _ _ _ (by rw [← eb]; exact hk)⟩⟩
theorem ex_swap (A B : Nat) (hA0 : n0 ≤ A) (hB0 : n0 ≤ B) (hA : A < st.mem.length) (hB : B < st.mem.length) (hf : st.fr.all (belowV st.mem.length) = true) (hm : st.mem.all (belowB st.mem.length) = true)
  (h : Ex P ρ n0 c { fr := renL (swp A B) st.fr, mem := swapM A B st.mem } Q) : Ex P ρ n0 c st Q := by
 obtain ⟨e, s2, hq, h2⟩ := h
 exact ⟨e, s2, hq, fun Q' h' => tri_swap A B hA0 hB0 hA hB hf hm (h2 Q' h')⟩
def frzKv (kvs : List (Value × Nat × V)) (vs : List V) : List (Value × Nat × V) := List.zipWith (fun e v => (e.1, e.2.1, v)) kvs vs
theorem frzAll_ver (mem : List Blk) (keys : List (Nat × Nat)) (k : Nat) {kvs : List (Value × Nat × V)} {cl : Nat} (h : mem[k]? = some (.map kvs cl)) : (frzAll mem keys)[k]? = some (.map kvs cl) := by
 unfold frzAll
 induction keys generalizing mem with
 | nil => exact h
 | cons q r ih =>
  rw [List.foldl_cons]
  refine ih _ ?_
  rw [frz1_get, h]; rfl
theorem Sim.frzMap {E : Env} {w : World} {a : Act} (hs : Sim E w a st) {k : Nat} {kvs : List (Value × Nat × V)} {cl : Nat} {vs' : List V} (hk : st.mem[k]? = some (.map kvs cl)) (hp : purL st.mem (kvs.map fun e => e.2.2) = some vs') :
  ∃ E', Sim E' w a { st with mem := (frzAll st.mem ((kvs.map fun e => e.2.2).flatMap ref1)).set k (.map (frzKv kvs vs') cl) } ∧ Evo E w E' w := by
 obtain ⟨E', h1, h2, h3⟩ := hs.freeze hp
 refine ⟨E', ⟨h1.F, h1.lt, fun k' B hB => ?_, fun k' hk' => h1.top k' (by simpa using hk'), fun k' B hB v hv => ?_, h1.apart, h1.fr⟩, h2⟩
 ·dsimp only at hB
  rw [List.getElem?_set] at hB
  split at hB
  ·rename_i he; subst he
   split at hB
   ·cases hB
    obtain ⟨g, es, q1, q2, q3, q4⟩ := hs.mem k _ hk
    obtain ⟨g', es', p1, p2, p3, p4⟩ := h1.mem k _ (frzAll_ver _ _ _ hk)
    rw [h2.le.blk _ _ _ q1] at p1
    cases p1
    rw [q2] at p2
    cases p2
    refine ⟨g, es, h2.le.blk _ _ _ q1, q2, ?_, p4⟩
    have hR : RepL E (kvs.map fun e => e.2.2) (es.toList.map fun e => e.val) := by
     refine ⟨by simpa using q3.1, fun i v x hv hx => ?_⟩
     rw [List.getElem?_map, Option.map_eq_some_iff] at hv hx
     obtain ⟨e1, he1, rfl⟩ := hv
     obtain ⟨e2, he2, rfl⟩ := hx
     exact (q3.2 i _ _ he1 he2).2.2
    have hR' := h3 _ hR
    have hl : vs'.length = kvs.length := by have h5 := hR'.1; have h6 := hR.1; simp only [List.length_map] at h5 h6; omega
    refine ⟨by unfold frzKv; rw [List.length_zipWith, hl, Nat.min_self]; exact q3.1, fun i kb e hkb he => ?_⟩
    unfold frzKv at hkb
    rw [List.getElem?_zipWith] at hkb
    cases h7 : kvs[i]? with
    | none => rw [h7] at hkb; simp at hkb
    | some e1 =>
     cases h8 : vs'[i]? with
     | none => rw [h7, h8] at hkb; simp at hkb
     | some v1 =>
      rw [h7, h8] at hkb
      simp at hkb
      subst hkb
      obtain ⟨r1, r2, r3⟩ := q3.2 i _ _ h7 he
      exact ⟨r1, r2, hR'.2 i _ _ h8 (by rw [List.getElem?_map, he]; rfl)⟩
   ·cases hB
  ·exact h1.mem k' B hB
 ·dsimp only at hB
  rw [List.getElem?_set] at hB
  split at hB
  ·rename_i he; subst he
   split at hB
   ·cases hB
    exact h1.ver k _ (frzAll_ver _ _ _ hk) v hv
   ·cases hB
  ·exact h1.ver k' B hB v hv
theorem ex_frzMap {k : Nat} {kvs : List (Value × Nat × V)} {cl : Nat} {vs' : List V} (hk : st.mem[k]? = some (.map kvs cl)) (hp : purL st.mem (kvs.map fun e => e.2.2) = some vs')
  (h : Ex P ρ n0 c { fr := st.fr, mem := (frzAll st.mem ((kvs.map fun e => e.2.2).flatMap ref1)).set k (.map (frzKv kvs vs') cl) } Q) : Ex P ρ n0 c st Q := by
 obtain ⟨e, s2, hq, h2⟩ := h
 refine ⟨e, s2, hq, fun Q' h' E0 w0 he0 E w a he hs hmk => ?_⟩
 obtain ⟨E', h3, h4⟩ := hs.frzMap hk hp
 exact h2 Q' h' E0 w0 he0 E' w a (he.trans h4) h3 (hmk.evo h4)
end
end Go.Eng
end

section
namespace Go.Eng
variable [Glob]
theorem frzAll_box (mem : List Blk) (keys : List (Nat × Nat)) (k : Nat) {cs : List V} (h : mem[k]? = some (.box cs)) : (frzAll mem keys)[k]? = some (.box cs) := by
 rw [frzAll_get, h]
 have : ∀ (ks : List (Nat × Nat)), frzOf ks k (some (.box cs)) = some (.box cs) := fun ks => by
  unfold frzOf; rfl
 exact this keys
section
variable {P : Program} {ρ : Option Nat} {n0 : Nat} {Q : Exit → St → Prop} {c : Code} {st : St}
theorem Sim.frzCells {E : Env} {w : World} {a : Act} (hs : Sim E w a st) {k : Nat} {cs vs' : List V} (hk : st.mem[k]? = some (.box cs)) (hp : purL st.mem cs = some vs') :
  ∃ E', Sim E' w a { st with mem := (frzAll st.mem (cs.flatMap ref1)).set k (.box vs') } ∧ Evo E w E' w := by
 obtain ⟨E', h1, h2, h3⟩ := hs.freeze hp
 have hb := frzAll_box st.mem (cs.flatMap ref1) k hk
 refine ⟨E', ⟨h1.F, h1.lt, fun k' B hB => ?_, fun k' hk' => h1.top k' (by simpa using hk'), fun k' B hB v hv => ?_, h1.apart, h1.fr⟩, h2⟩
 ·dsimp only at hB
  rw [List.getElem?_set] at hB
  split at hB
  ·rename_i he; subst he
   split at hB
   ·cases hB
    obtain ⟨g, T, xs, q1, q2, q3, q4⟩ := hs.mem k _ hk
    obtain ⟨g', T', xs', p1, p2, p3, p4⟩ := h1.mem k _ hb
    rw [h2.le.blk _ _ _ q1] at p1
    cases p1
    rw [q2] at p2
    cases p2
    exact ⟨g, T, xs, h2.le.blk _ _ _ q1, q2, h3 _ q3, p4⟩
   ·cases hB
  ·exact h1.mem k' B hB
 ·dsimp only at hB
  rw [List.getElem?_set] at hB
  split at hB
  ·rename_i he; subst he
   split at hB
   ·cases hB
    exact h1.ver k _ hb v hv
   ·cases hB
  ·exact h1.ver k' B hB v hv
theorem ex_frzCells {k : Nat} {cs vs' : List V} (hk : st.mem[k]? = some (.box cs)) (hp : purL st.mem cs = some vs')
  (h : Ex P ρ n0 c { fr := st.fr, mem := (frzAll st.mem (cs.flatMap ref1)).set k (.box vs') } Q) : Ex P ρ n0 c st Q := by
 obtain ⟨e, s2, hq, h2⟩ := h
 refine ⟨e, s2, hq, fun Q' h' E0 w0 he0 E w a he hs hmk => ?_⟩
 obtain ⟨E', h3, h4⟩ := hs.frzCells hk hp
 exact h2 Q' h' E0 w0 he0 E' w a (he.trans h4) h3 (hmk.evo h4)
theorem ex_nilMs (i v e : Nat) (h0 : st.fr[i]? = some (.sc (.slice none 0 0))) (h : Ex P ρ n0 c { fr := st.fr.set i (.ms st.mem.length v 0 0), mem := st.mem ++ [.rows v e []] } Q) : Ex P ρ n0 c st Q := by
 obtain ⟨ee, s2, hq, h2⟩ := h
 exact ⟨ee, s2, hq, fun Q' h' => tri_nilMs i v e h0 (h2 Q' h')⟩
end
end Go.Eng
end
