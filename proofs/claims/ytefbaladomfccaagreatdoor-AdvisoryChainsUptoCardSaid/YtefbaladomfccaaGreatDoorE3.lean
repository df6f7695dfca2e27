/-
  THE ENGINE, L: the steps are sound; code; functions.
  THE ENGINE, M: a table of types, checked by the kernel.
  THE ENGINE, N: rules and facts for carrying it out by simp.
  THE ENGINE, O: closures' contracts; a range over a function.
  THE ENGINE, P: regions that draw their order.
  THE ENGINE, Q: regions that draw their order are sound.
  THE ENGINE, R: a region that draws its order comes to what it comes to in the order of its text.
  THE ENGINE, S: functions that hand back rows that their caller may write.
  THE ENGINE, U: what a contract does not speak of stays.
-/
import Derived.Test.YtefbaladomfccaaGreatDoorE2
import Derived.RangeFuncRecord
import Derived.OrdersIn
set_option linter.all false
section
namespace Go.Eng
variable [Glob]
open Go.RowKit (Below)

theorem wrap_value' {P : Program} {s : Sem Value} {w w' : World} {x : Value} (h : s.run P w = .ok x w') : (do pure (Next.value (← s)) : Sem Next).run P w = .ok (.value x) w' := by
 simp [h]

def After (E : Env) (w : World) (a : Act) (dst : Option Tmp) (Q : St → Prop) (v : Value) (w' : World) : Prop := ∃ E' st', Sim E' w' (a.put dst v) st' ∧ Evo E w E' w' ∧ Q st'

def WF (ρ : Option Nat) : Fence := { fn := fun _ => True, depth := none, alive := false, round := ρ }
theorem callsIn_WF {ρ : Option Nat} {n : Nat} {P : Program} {f : FuncId} {xs : Array Value} {w : World} {R : Ending → World → Prop} (h : Calls P f xs w R) : CallsIn (WF ρ) n P f xs w R := by
 have h1 : CallsIn Fence.wide n P f xs w R := callsIn_wide.2 h
 cases ρ with
 | none => exact h1
 | some l => exact h1.inRound l
theorem calls_WF {n : Nat} {P : Program} {f : FuncId} {xs : Array Value} {w : World} {R : Ending → World → Prop} (h : CallsIn (WF none) n P f xs w R) : Calls P f xs w R := callsIn_wide.1 h
theorem roundIn_WF {ρ : Option Nat} {n : Nat} {P : Program} {l : Nat} {f : FuncId} {tmps : Array Value} {assign body : Code} {w : World} {R : Ending → World → Prop} (h : RoundIn Fence.wide 0 P l f tmps assign body w R) : RoundIn (WF ρ) n P l f tmps assign body w R := by
 refine ⟨trivial, fun c cs _ => ?_⟩
 exact h.2 c cs (room_wide _)
section
variable {P : Program} {ρ : Option Nat} {n : Nat} {o : Oper} {a : Act} {w w' : World} {next : Act → World → Prop} {Q : Exit → Act → World → Prop} (hnd : ∀ c, o.op ≠ .defer c)
include hnd
theorem upon_value' {v : Value} (h : (execOp a.eval o).run P w = .ok (.value v) w') (hn : next (a.put o.dst v) w') : o.wpIn (WF ρ) n P a w next Q := by
 refine ⟨fun _ _ => trivial, ?_⟩
 rw [Oper.semAt_eq _ _ _ hnd, h]; exact hn
theorem upon_skip' (h : (execOp a.eval o).run P w = .ok .skip w') (hn : next (a.put o.dst undef) w') : o.wpIn (WF ρ) n P a w next Q := by
 refine ⟨fun _ _ => trivial, ?_⟩
 rw [Oper.semAt_eq _ _ _ hnd, h]; exact hn
theorem upon_enter' {f : FuncId} {xs : Array Value} {R : Ending → World → Prop} (h : (execOp a.eval o).run P w = .ok (.enter f xs) w) (hc : Calls P f xs w R) (hR : ∀ e w', R e w' → ∃ v, e = .returned v ∧ next (a.put o.dst v) w') :
  o.wpIn (WF ρ) n P a w next Q := by
 refine ⟨fun _ _ => trivial, ?_⟩
 rw [Oper.semAt_eq _ _ _ hnd, h]
 refine ⟨fun h => by simp [WF] at h, (callsIn_WF hc).mono fun e w' he => ?_⟩
 obtain ⟨v, rfl, hn⟩ := hR e w' he
 exact hn
theorem upon_round' {l : Nat} {f : FuncId} {tmps : Array Value} {assign body : Code} {R : Ending → World → Prop} (h : (execOp a.eval o).run P w = .ok (.round l f tmps assign body) w) (hc : RoundIn Fence.wide 0 P l f tmps assign body w R)
  (hR : ∀ e w', R e w' → ∃ v, e = .returned v ∧ next (a.put o.dst v) w') : o.wpIn (WF ρ) n P a w next Q := by
 refine ⟨fun _ _ => trivial, ?_⟩
 rw [Oper.semAt_eq _ _ _ hnd, h]
 refine ⟨fun h => by simp [WF] at h, (roundIn_WF hc).mono fun e w' he => ?_⟩
 obtain ⟨v, rfl, hn⟩ := hR e w' he
 exact hn
end

theorem callP_sound {P : Program} {E : Env} {w : World} {a : Act} {st : St} (hs : Sim E w a st) {f : FuncId} {vs : List V} {dst : Option Tmp} {Q : St → Prop} (h : callP P f vs st dst Q) {xs : Array Value} (hx : RepL E vs xs.toList) :
  ((callFunc f xs).run P w = .ok (.enter f xs) w ∧ Calls P f xs w fun e w' => ∃ v, e = .returned v ∧ After E w a dst Q v w') ∨ ∃ v, (callFunc f xs).run P w = .ok (.value v) w ∧ After E w a dst Q v w := by
 rcases h with ⟨vs', r, hp, hf, hQ⟩ | ⟨r, mem', hf, hQ⟩ | ⟨R, hf, hQ⟩ | ⟨r, hf, hQ⟩
 ·refine .inl ⟨hf.1 xs w, (call_pure hs hx hp hf).mono ?_⟩
  rintro e w' ⟨E', x, rfl, hev, hs', hr⟩
  exact ⟨x, rfl, E', _, hs'.put dst hr, hev, hQ⟩
 ·refine .inl ⟨hf.1 xs w, (hf.2 E w xs hs.bare hx).mono ?_⟩
  rintro e w' ⟨E', x, rfl, hev, hs', hr⟩
  exact ⟨x, rfl, E', _, (hs.dress hs' hev.le).put dst hr, hev, hQ⟩
 ·refine .inl ⟨hf.1 xs w, (hf.2 E w xs hs.bare hx).mono ?_⟩
  rintro e w' ⟨E', x, r, mem', rfl, hR, hev, hs', hr⟩
  exact ⟨x, rfl, E', _, (hs.dress hs' hev.le).put dst hr, hev, hQ _ _ hR⟩
 ·obtain ⟨x, h1, h2⟩ := hf E w xs hs.F hx
  exact .inr ⟨x, h1, E, _, hs.put dst h2, Evo.refl E w, hQ⟩

theorem stepOp_sound {P : Program} {tt : Table} (ht : TT P tt) {E : Env} {w : World} {a : Act} {st : St} (hs : Sim E w a st) {key : Nat} (hk : freeKey st.mem key) {o : Oper} {Q : St → Prop} (h : stepOp P tt key o st Q)
  {ρ : Option Nat} {n : Nat} {next : Act → World → Prop} {Q' : Exit → Act → World → Prop} (hn : ∀ v w', After E w a o.dst Q v w' → next (a.put o.dst v) w') : o.wpIn (WF ρ) n P a w next Q' := by
 obtain ⟨dst, op, type, pos, after, guard⟩ := o
 have hnd : ∀ c, op ≠ .defer c := by
  rintro c rfl
  simp [stepOp, opV] at h
 unfold stepOp at h
 dsimp only at h
 split at h
 ·-- alloc
  rename_i T
  split at h
  ·rename_i i hi
   obtain ⟨info, hi1, -, -, z, hz, hzl⟩ := ht.size T i hi
   have hr : RepL E (i.zero.map V.sc) z.cells.toList := by
    rw [hzl]; exact ⟨by simp, fun k c x hc hx => by
     simp only [List.getElem?_map,hx,Option.map_some,Option.some.injEq] at hc; subst hc; exact .sc _ _⟩
   obtain ⟨E', h1, h2, h3⟩ := hs.newBox hk hr T
   refine upon_value' hnd (v := .pointer (some ⟨w.heap.size, 0, none⟩)) (w' := w.alloc (.cells z.cells T (0, 0))) ?_ (hn _ _ ⟨E', _, h1.put dst h3, h2, h⟩)
   have hzv : (zeroValue T).run P w = .ok z w := by simp [zeroValue, run_typeInfoP hi1, hz]
   simp [execOp, Instr.alloc, hzv, newVar, newRow]
  ·exact h.elim
 ·-- box
  rename_i T x
  split at h
  ·rename_i cs hcs
   obtain ⟨hr, -⟩ := cellsV_rep (hs.eval x) hcs
   obtain ⟨E', h1, h2, h3⟩ := hs.newBox hk hr T
   refine upon_value' hnd (v := .pointer (some ⟨w.heap.size, 0, none⟩)) (w' := w.alloc (.cells (a.eval x).cells T (0, 0))) ?_ (hn _ _ ⟨E', _, h1.put dst h3, h2, h⟩)
   simp [execOp, Instr.box, newVar, newRow]
  ·exact h.elim
 ·-- build
  split at h
  ·rename_i v hv
   obtain ⟨x, h1, h2⟩ := buildV_sound ht hs hv
   exact upon_value' hnd (wrap_value h1) (hn _ _ ⟨E, _, hs.put dst h2, Evo.refl E w, h⟩)
  ·exact h.elim
 ·-- buildSlice
  rename_i T len parts
  split at h
  ·rename_i size rs hl
   obtain ⟨Z, e, h1, h2, h3, h4⟩ := lit_run ht (fun p _ => hs.eval p.2) hl
   obtain ⟨E', h5, h6, h7⟩ := hs.newRows hk (xs := Z) (rs := rs) (c := len) e h2 (by omega) h4
   rw [h3] at h7
   exact upon_value' hnd (wrap_value' h1) (hn _ _ ⟨E', _, h5.put dst h7, h6, h⟩)
  ·split at h
   ·rename_i size rs hl
    unfold litP at hl
    split at hl
    ·rename_i vs' hvs
     obtain ⟨E1, hs1, hev1, hrep1⟩ := hs.freeze hvs
     have hpa : ∀ (l : List (Nat × Operand)) (us us' : List V), us = l.map (fun p => st.eval p.2) → purL st.mem us = some us' → RepL E1 us' (l.map fun p => a.eval p.2) → ∀ p ∈ l, Rep E1 (evP st.mem st.eval p.2) (a.eval p.2) := by
      intro l
      induction l with
      | nil => intro us us' _ _ _ p hp; simp at hp
      | cons q r ih =>
       intro us us' hu hp hr p hpin
       subst hu
       simp only [List.map_cons,purL] at hp
       split at hp
       ·rename_i c' hc
        split at hp
        ·rename_i r' hr'
         cases hp
         obtain ⟨y, ys, hy, g1, g2⟩ := hr.of_cons
         simp only [List.map_cons,List.cons.injEq] at hy
         obtain ⟨rfl, rfl⟩ := hy
         rcases List.mem_cons.1 hpin with rfl | hpin
         ·unfold evP; rw [hc]; exact g1
         ·exact ih _ _ rfl hr' g2 p hpin
        ·cases hp
       ·cases hp
     have hxs : RepL E (parts.toList.map fun p => st.eval p.2) (parts.toList.map fun p => a.eval p.2) := by
      refine ⟨by simp, fun i v x hv hx => ?_⟩
      simp only [List.getElem?_map,Option.map_eq_some_iff] at hv hx
      obtain ⟨q, hq, rfl⟩ := hv
      obtain ⟨q', hq', rfl⟩ := hx
      rw [hq] at hq'; cases hq'
      exact hs.eval q.2
     have hpa' := hpa parts.toList _ _ rfl hvs (hrep1 _ hxs)
     have hk1 : freeKey ({ st with mem := frzAll st.mem (keysOf st.eval parts.toList) } : St).mem key := by
      unfold freeKey
      dsimp only
      rw [frzAll_get, frzAll_length]
      rcases hk with hk | hk
      ·rw [hk]; exact .inl rfl
      ·exact .inr hk
     obtain ⟨Z, e, h1, h2, h3, h4⟩ := lit_run ht (w := w) hpa' hl
     obtain ⟨E', h5, h6, h7⟩ := hs1.newRows hk1 (xs := Z) (rs := rs) (c := len) e h2 (by omega) h4
     rw [h3] at h7
     exact upon_value' hnd (wrap_value' h1) (hn _ _ ⟨E', _, h5.put dst h7, hev1.trans h6, h⟩)
    ·cases hl
   ·exact h.elim
 ·-- store
  rename_i T p x
  split at h
  ·rename_i mem' hm
   obtain ⟨w', h1, h2, h3⟩ := storeV_sound ht hs (hs.eval _) (hs.eval _) hm
   refine upon_skip' hnd (w' := w') ?_ (hn _ _ ⟨E, _, h2.put dst (.sc _ _), h3, h⟩)
   simp [execOp, h1]
  ·split at h
   ·rename_i mem' hm
    unfold storeP at hm
    split at hm
    ·rename_i v' hv'
     obtain ⟨E1, hs1, hev1, hrep1⟩ := hs.freeze (vs := [st.eval x]) (vs' := [v']) (by simp [purL, hv'])
     simp only [List.flatMap_cons,List.flatMap_nil,List.append_nil] at hs1
     obtain ⟨z, r, hz, h4, -⟩ := (hrep1 [a.eval x] (.cons (hs.eval x) (.nil _))).of_cons
     simp only [List.cons.injEq] at hz
     obtain ⟨rfl, -⟩ := hz
     obtain ⟨w', h1, h2, h3⟩ := storeV_sound ht hs1 ((hs.eval p).mono hev1.le) h4 hm
     refine upon_skip' hnd (w' := w') ?_ (hn _ _ ⟨E1, _, h2.put dst (.sc _ _), hev1.trans h3, h⟩)
     simp [execOp, h1]
    ·cases hm
   ·exact h.elim
 ·-- append
  rename_i xs ts
  split at h
  ·rename_i s x hsx
   split at h
   ·rename_i size old rows ha
    have he := hs.evals xs
    rw [hsx] at he
    obtain ⟨y, r1, hy, hr1, he⟩ := he.of_cons
    obtain ⟨z, r2, hz, hr2, he⟩ := he.of_cons
    have := he.of_nil
    subst this; subst hz
    have hxs : xs.map a.eval = #[y, z] := by rw [← Array.toArray_toList (xs := xs.map a.eval), hy]
    obtain ⟨v, w', E', h1, h2, h3, h4⟩ := appendV_sound ht hs (ty := type) hk hr1 hr2 ha
    refine upon_value' hnd (v := v) (w' := w') ?_ (hn _ _ ⟨E', _, h2.put dst h4, h3, h⟩)
    simp only [execOp,resolve,Sem.run_bind,Sem.run_pure,Result.andThen_ok,invoke,builtin,hxs,h1]
   ·unfold appSQ at h
    split at h
    ·rename_i size b v l rs news ha
     have he := hs.evals xs
     rw [hsx] at he
     obtain ⟨y, r1, hy, hr1, he⟩ := he.of_cons
     obtain ⟨z, r2, hz, hr2, he⟩ := he.of_cons
     have := he.of_nil
     subst this; subst hz
     have hxs : xs.map a.eval = #[y, z] := by rw [← Array.toArray_toList (xs := xs.map a.eval), hy]
     obtain ⟨u, w', E', o', rs', h1, hd1, hd2, h2, h3, h4⟩ := appendS_sound ht hs (ty := type) hr1 hr2 ha
     refine upon_value' hnd (v := u) (w' := w') ?_ (hn _ _ ⟨E', _, h2.put dst h4, h3, h o' rs' hd1 hd2⟩)
     simp only [execOp,resolve,Sem.run_bind,Sem.run_pure,Result.andThen_ok,invoke,builtin,hxs,h1]
    ·exact h.elim
  ·exact h.elim
 ·-- a call
  rename_i f xs ts
  split at h
  ·-- yield
   rename_i k hfv
   have hf := hs.eval f
   rw [hfv] at hf
   generalize hfx : a.eval f = fx at hf
   cases hf with
   | yld _ _ l e c hb =>
    rcases h with ⟨b, mem', hy, hQ⟩ | ⟨R, hy, hQ⟩
    rotate_left
    ·obtain ⟨fn, tmps, assign, body, h1, h2⟩ := hy E w (xs.map a.eval) l e c hs.bare (hs.evals xs) hb
     refine upon_round' hnd (l := l) (f := fn) (tmps := tmps) (assign := assign) (body := body) ?_ h2 fun e w' ⟨E', b, mem', he, hR, hev, hs'⟩ => ⟨_, he, hn _ _ ⟨E', _, (hs.dress hs' hev.le).put dst (.sc _ _), hev, hQ _ _ hR⟩⟩
     rw [← h1]
     simp [execOp, resolve, hfx, Deferred.ofValue, invoke]
    obtain ⟨fn, tmps, assign, body, h1, h2⟩ := hy E w (xs.map a.eval) l e c hs.bare (hs.evals xs) hb
    refine upon_round' hnd (l := l) (f := fn) (tmps := tmps) (assign := assign) (body := body) ?_ h2 fun e w' ⟨E', he, hev, hs'⟩ => ⟨_, he, hn _ _ ⟨E', _, (hs.dress hs' hev.le).put dst (.sc _ _), hev, hQ⟩⟩
    rw [← h1]
    simp [execOp, resolve, hfx, Deferred.ofValue, invoke]
  ·rename_i hfv
   split at h
   ·rename_i g vs hg
    obtain ⟨ys, h1, h2⟩ := calleeOf_sound (P := P) (w := w) (hs.eval f) (hs.evals xs) hg
    rcases callP_sound hs h h1 with ⟨h3, h4⟩ | ⟨v, h3, h4⟩
    ·refine upon_enter' hnd (f := g) (xs := ys) ?_ h4 fun e w' ⟨v, hv, ha⟩ => ⟨v, hv, hn _ _ ha⟩
     rw [← h3, ← h2]
     simp only [execOp,resolve]
    ·refine upon_value' hnd (v := v) ?_ (hn _ _ h4)
     rw [← h3, ← h2]
     simp only [execOp,resolve]
   ·exact h.elim
 ·split at h
  ·rename_i size rs cap hm
   obtain ⟨E', w', h1, h2, h3, h4⟩ := makeV_sound (P := P) ht hs hk (hs.eval _) (hs.eval _) hm
   exact upon_value' hnd (wrap_value' h1) (hn _ _ ⟨E', _, h2.put dst h4, h3, h⟩)
  ·exact h.elim
 ·-- a map
  obtain ⟨E', w', h1, h2, h3, h4⟩ := makeMap_sound (P := P) hs hk _
  exact upon_value' hnd (wrap_value' h1) (hn _ _ ⟨E', _, h2.put dst h4, h3, h⟩)
 ·split at h
  ·rename_i mem' hm
   obtain ⟨w', h1, h2, h3⟩ := insertV_sound (P := P) hs (hs.eval _) (hs.eval _) (hs.eval _) hm
   refine upon_skip' hnd (w' := w') ?_ (hn _ _ ⟨E, _, h2.put dst (.sc _ _), h3, h⟩)
   simp [execOp, h1]
  ·exact h.elim
 ·split at h
  ·rename_i mem' hm
   obtain ⟨w', h1, h2, h3⟩ := insertV_sound (P := P) hs (hs.eval _) (hs.eval _) (hs.eval _) hm
   refine upon_skip' hnd (w' := w') ?_ (hn _ _ ⟨E, _, h2.put dst (.sc _ _), h3, h⟩)
   simp [execOp, h1]
  ·exact h.elim
 ·split at h
  ·rename_i mem' v hm
   obtain ⟨z, w', h1, h2, h3, h4⟩ := entryV_sound (P := P) hs (hs.eval _) (hs.eval _) hm
   exact upon_value' hnd (wrap_value' h1) (hn _ _ ⟨E, _, h2.put dst h4, h3, h⟩)
  ·exact h.elim
 ·rename_i T m s x
  split at h
  ·rename_i mem' hm
   obtain ⟨w', h1, h2, h3⟩ := stampV_sound (P := P) (T := T) hs (hs.eval _) (hs.eval _) (hs.eval _) hm
   refine upon_skip' hnd (w' := w') ?_ (hn _ _ ⟨E, _, h2.put dst (.sc _ _), h3, h⟩)
   simp [execOp, h1]
  ·exact h.elim
 ·rename_i xs ts
  split at h
  ·rename_i mem' hm
   obtain ⟨w', h1, h2, h3⟩ := deleteV_sound (ty := type) hs (hs.evals xs) hm
   refine upon_value' hnd (v := .tuple #[]) (w' := w') ?_ (hn _ _ ⟨E, _, h2.put dst (.sc _ _), h3, h⟩)
   simp only [execOp,resolve,Sem.run_bind,Sem.run_pure,Result.andThen_ok,invoke,builtin,h1]
  ·exact h.elim
 ·split at h
  ·rename_i B hB
   obtain ⟨E', w', h1, h2, h3, h4⟩ := rangeBlk_sound (P := P) hs hk (hs.eval _) hB
   exact upon_value' hnd (wrap_value' h1) (hn _ _ ⟨E', _, h2.put dst h4, h3, h⟩)
  ·exact h.elim
 ·obtain ⟨z, w', st', h1, h2, h3, h4⟩ := nextQ_sound (P := P) (ty := type) hs (hs.eval _) h
  exact upon_value' hnd (wrap_value' h1) (hn _ _ ⟨E, st', h2, h3, h4⟩)
 ·-- a comparison
  rename_i op T x y yT
  split at h
  ·rename_i m hm
   obtain ⟨b, hb, hrun⟩ := nilLen_sound (P := P) (w := w) ht x y (hs.eval x) (hs.eval y) hm
   exact upon_value' hnd (wrap_value hrun) (hn _ _ ⟨E, _, hs.put dst (.sc _ _), Evo.refl E w, h b hb⟩)
  ·split at h
   ·rename_i v hv
    obtain ⟨x, h1, h2⟩ := opV_sound ht hs hv
    exact upon_value' hnd h1 (hn _ _ ⟨E, _, hs.put dst h2, Evo.refl E w, h⟩)
   ·exact h.elim
 ·split at h
  ·rename_i v hv
   obtain ⟨x, h1, h2⟩ := opV_sound ht hs hv
   exact upon_value' hnd h1 (hn _ _ ⟨E, _, hs.put dst h2, Evo.refl E w, h⟩)
  ·exact h.elim

def wantedV (all : Array Oper) (fr : List V) (o : Oper) : Option Bool :=
 match o.guard with
 | none => some true
 | some (j, want) => match (all[j]?).bind (·.dst) with
  | none => some false
  | some d => match fr[d]? with
   | some (.sc (.bool b)) => some (b == want)
   | some (.sc _) => some false
   | some _ => none
   | none => some false

theorem wantedV_sound {E : Env} {w : World} {a : Act} {st : St} (hs : Sim E w a st) {all : Array Oper} {o : Oper} {b : Bool} (h : wantedV all st.fr o = some b) : Region.wanted o (yielded all a.tmps) = b := by
 unfold wantedV at h
 unfold Region.wanted
 split at h
 ·rename_i hg; rw [hg]; simpa using h
 ·rename_i j want hg
  rw [hg]
  dsimp only
  unfold yielded
  split at h
  ·rename_i hd; rw [hd]; simp at h; subst h; rfl
  ·rename_i d hd
   rw [hd]
   split at h
   ·rename_i bb hf
    obtain ⟨x, hx, hr⟩ := hs.fr.get hf
    obtain rfl := rep_sc hr
    simp only [Option.some.injEq] at h; subst h
    have : a.tmps[d]? = some (.bool bb) := by simpa using hx
    simp [this]
   ·rename_i v hne hf
    obtain ⟨x, hx, hr⟩ := hs.fr.get hf
    obtain rfl := rep_sc hr
    simp only [Option.some.injEq] at h; subst h
    have : a.tmps[d]? = some x := by simpa using hx
    simp only [Option.bind_some,this]
    cases x <;> first | rfl | exact absurd rfl (hne _)
   ·cases h
   ·rename_i hf
    simp only [Option.some.injEq] at h; subst h
    have hl : st.fr.length = a.tmps.size := by have := hs.fr.1; simpa using this
    have : a.tmps[d]? = none := by
     rw [List.getElem?_eq_none_iff] at hf
     exact Array.getElem?_eq_none (by omega)
    simp [this]

def runOps (P : Program) (tt : Table) (all : Array Oper) : List Oper → St → (St → Prop) → Prop
 | [], st, Q => Q st
 | o :: r, st, Q => match wantedV all st.fr o with
  | some true => stepOp P tt st.mem.length o st fun st' => runOps P tt all r st' Q
  | some false => runOps P tt all r (st.put o.dst (.sc undef)) Q
  | none => False

@[congr] theorem stepOp_congr {P : Program} {tt : Table} {key key' : Nat} {o : Oper} {st st' : St} {Q : St → Prop} (hk : key = key') (h : st = st') : stepOp P tt key o st Q = stepOp P tt key' o st' Q := by rw [hk, h]
theorem put_defers (a : Act) (dst : Option Tmp) (v : Value) : (a.put dst v).defers = a.defers := by cases dst <;> rfl
theorem runOps_sound {P : Program} {tt : Table} (ht : TT P tt) {ρ : Option Nat} {n : Nat} {all : Array Oper} {Q : St → Prop} {Q' : Exit → Act → World → Prop} : ∀ (suf pre : List Oper), all.toList = pre ++ suf →
  ∀ {E : Env} {w : World} {a : Act} {st : St}, Sim E w a st → runOps P tt all suf st Q → (∀ a' w', a'.defers = a.defers → (∃ E' st', Sim E' w' a' st' ∧ Evo E w E' w' ∧ Q st') → Q' .normal a' w') → wpOpsIn (WF ρ) n P all Q' (List.range' pre.length suf.length) a w := by
 intro suf
 induction suf with
 | nil => intro pre _ E w a st hs h hq; exact hq _ _ rfl ⟨E, st, hs, Evo.refl E w, h⟩
 | cons o r ih =>
  intro pre hall E w a st hs h hq
  have hget : all[pre.length]? = some o := by
   rw [← Array.getElem?_toList, hall, List.getElem?_append_right (Nat.le_refl _)]; simp
  have hall' : all.toList = (pre ++ [o]) ++ r := by rw [hall]; simp
  have ih' := @ih (pre ++ [o]) hall'
  simp only [List.length_append,List.length_cons,List.length_nil,Nat.zero_add] at ih'
  rw [List.length_cons, List.range'_succ, wpOpsIn, hget]
  dsimp only
  simp only [runOps] at h
  split at h
  ·rename_i hw
   rw [if_pos (wantedV_sound hs hw)]
   refine stepOp_sound ht hs (.inr rfl) h ?_
   rintro v w' ⟨E', st', h1, h2, h3⟩
   exact ih' h1 h3 fun a'' w'' hd ⟨E'', st'', h4, h5, h6⟩ => hq _ _ (hd.trans (put_defers _ _ _)) ⟨E'', st'', h4, h2.trans h5, h6⟩
  ·rename_i hw
   rw [if_neg (by rw [wantedV_sound hs hw]; simp)]
   exact ⟨fun _ _ => trivial, ih' (hs.put o.dst (.sc _ _)) h fun a'' w'' hd h => hq _ _ (hd.trans (put_defers _ _ _)) h⟩
  ·exact h.elim

def Marks (E : Env) (w : World) (base : Nat) (ds : List Deferred) : Prop :=
 ∃ rs : List Nat, ds = rs.map (fun r => { target := .collected r, args := #[] }) ∧ rs.Nodup ∧ ∀ r ∈ rs, base ≤ r ∧ w.heap[r]? = some (.deferred (some [])) ∧ ∀ k v e c, E.blk k v ≠ some (r, e, c)
theorem Marks.evo {E E' : Env} {w w' : World} {base : Nat} {ds : List Deferred} (h : Marks E w base ds) (he : Evo E w E' w') : Marks E' w' base ds := by
 obtain ⟨rs, h1, h2, h3⟩ := h
 refine ⟨rs, h1, h2, fun r hr => ?_⟩
 obtain ⟨h6, h4, h5⟩ := h3 r hr
 have hlt : r < w.heap.size := by
  rcases Nat.lt_or_ge r w.heap.size with h | h
  ·exact h
  ·rw [Array.getElem?_eq_none h] at h4; cases h4
 refine ⟨h6, (he.heap r hlt h5).trans h4, fun k v e c hk => ?_⟩
 rcases he.blk _ _ _ _ _ hk with ⟨k0, v0, e0, c0, h⟩ | h
 ·exact h5 _ _ _ _ h
 ·omega
theorem Marks.nil (E : Env) (w : World) (base : Nat) : Marks E w base [] := ⟨[], rfl, .nil, fun r h => by simp at h⟩

def Post (E0 : Env) (w0 : World) (Q : Exit → St → Prop) : Exit → Act → World → Prop := fun ex a' w' => ∃ E' st', Sim E' w' a' st' ∧ Evo E0 w0 E' w' ∧ Marks E' w' w0.heap.size a'.defers ∧ Q ex st'

def Tri (P : Program) (ρ : Option Nat) (n0 : Nat) (c : Code) (st : St) (Q : Exit → St → Prop) : Prop :=
 ∀ (E0 : Env) (w0 : World), (∀ k, n0 ≤ k → ∀ v, E0.blk k v = none) → ∀ (E : Env) (w : World) (a : Act), Evo E0 w0 E w → Sim E w a st → Marks E w w0.heap.size a.defers → c.wpIn (WF ρ) 0 P (Post E0 w0 Q) a w

def thenQ (next : St → Prop) (Q : Exit → St → Prop) : Exit → St → Prop
 | .normal, st => next st
 | e, st => Q e st
def blockQ (id : Nat) (Q : Exit → St → Prop) : Exit → St → Prop
 | .exit j, st => if j = id then Q .normal st else Q (.exit j) st
 | e, st => Q e st

section
variable {P : Program} {tt : Table} {ρ : Option Nat} {n0 : Nat} {st : St} {Q : Exit → St → Prop}
theorem Tri.mono {c : Code} {Q' : Exit → St → Prop} (h : Tri P ρ n0 c st Q) (hq : ∀ e st', Q e st' → Q' e st') : Tri P ρ n0 c st Q' :=
 fun E0 w0 h0 E w a he hs hm => wpIn_mono (h E0 w0 h0 E w a he hs hm) fun _ _ _ ⟨E', st', h1, h2, h4, h3⟩ => ⟨E', st', h1, h2, h4, hq _ _ h3⟩
theorem tri_skip (h : Q .normal st) : Tri P ρ n0 .skip st Q := fun E0 w0 h0 E w a he hs hm => wpIn_skip ⟨E, st, hs, he, hm, h⟩
theorem tri_ret (h : Q .ret st) : Tri P ρ n0 .ret st Q := fun E0 w0 h0 E w a he hs hm => wpIn_ret ⟨E, st, hs, he, hm, h⟩
theorem tri_exit {id : Nat} (h : Q (.exit id) st) : Tri P ρ n0 (.exit id) st Q := fun E0 w0 h0 E w a he hs hm => wpIn_exit ⟨E, st, hs, he, hm, h⟩
theorem tri_seq {x y : Code} (h : Tri P ρ n0 x st (thenQ (fun st' => Tri P ρ n0 y st' Q) Q)) : Tri P ρ n0 (.seq x y) st Q := fun E0 w0 h0 E w a he hs hm => by
 refine wpIn_seq (wpIn_mono (h E0 w0 h0 E w a he hs hm) ?_)
 rintro e a' w' ⟨E', st', h1, h2, h4, h3⟩
 cases e with
 | normal => exact h3 E0 w0 h0 E' w' a' h2 h1 h4
 | _ => exact ⟨E', st', h1, h2, h4, h3⟩
theorem tri_cond {c : Operand} {x y : Code} {b : Bool} (hc : st.eval c = .sc (.bool b)) (h : Tri P ρ n0 (if b = true then x else y) st Q) : Tri P ρ n0 (.cond c x y) st Q := fun E0 w0 h0 E w a he hs hm => by
 have := hs.eval c
 rw [hc] at this
 exact wpIn_cond (t := b) (rep_sc this) (h E0 w0 h0 E w a he hs hm)
theorem tri_block {id : Nat} {c : Code} (h : Tri P ρ n0 c st (blockQ id Q)) : Tri P ρ n0 (.block id c) st Q := fun E0 w0 h0 E w a he hs hm => by
 refine wpIn_block (wpIn_mono (h E0 w0 h0 E w a he hs hm) ?_)
 rintro e a' w' ⟨E', st', h1, h2, h4, h3⟩
 cases e with
 | exit j =>
  simp only [Exit.inBlock,blockQ] at h3 ⊢
  split
  ·rename_i hj; rw [if_pos hj] at h3; exact ⟨E', st', h1, h2, h4, h3⟩
  ·rename_i hj; rw [if_neg hj] at h3; exact ⟨E', st', h1, h2, h4, h3⟩
 | _ => exact ⟨E', st', h1, h2, h4, h3⟩
theorem tri_region (ht : TT P tt) {id : Nat} {ops : Array Oper} (h : runOps P tt ops ops.toList st (Q .normal)) : Tri P ρ n0 (.region id ops false) st Q := fun E0 w0 h0 E w a he hs hm => by
 refine wpIn_region ?_
 have := runOps_sound ht (ρ := ρ) (n := 0) (Q' := Post E0 w0 Q) ops.toList [] (by simp) hs h (fun a' w' hd ⟨E', st', h1, h2, h3⟩ => ⟨E', st', h1, he.trans h2, by rw [hd]; exact hm.evo h2, h3⟩)
 rw [List.range_eq_range']
 simpa using this

def LoopN (P : Program) (ρ : Option Nat) (n0 : Nat) (c : Code) : Nat → St → (Exit → St → Prop) → Prop
 | 0, _, _ => False
 | n + 1, st, Q => Tri P ρ n0 c st (thenQ (fun st' => LoopN P ρ n0 c n st' Q) Q)
theorem tri_loop {c : Code} (n : Nat) (h : LoopN P ρ n0 c n st Q) : Tri P ρ n0 (.loop c) st Q := fun E0 w0 h0 E w a he hs hm => by
 refine wpIn_loop_rounds n ?_
 have key : ∀ (n : Nat) (E1 : Env) (w1 : World) (a1 : Act) (st1 : St), Sim E1 w1 a1 st1 → Evo E0 w0 E1 w1 → Marks E1 w1 w0.heap.size a1.defers → LoopN P ρ n0 c n st1 Q → Code.roundsIn (WF ρ) 0 P c (Post E0 w0 Q) n a1 w1 := by
  intro n
  induction n with
  | zero => intro E1 w1 a1 st1 _ _ _ h; exact h.elim
  | succ n ih =>
   intro E1 w1 a1 st1 h1 h2 h5 h3
   refine wpIn_mono (h3 E0 w0 h0 E1 w1 a1 h2 h1 h5) ?_
   rintro e a' w' ⟨E', st', h4, h5, h7, h6⟩
   cases e with
   | normal => exact ih E' w' a' st' h4 h5 h7 h6
   | _ => exact ⟨E', st', h4, h5, h7, h6⟩
 exact key n E w a st hs he hm h

theorem tri_weak {c : Code} {st' : St} (hw : ∀ E w a, Sim E w a st → Sim E w a st') (h : Tri P ρ n0 c st' Q) : Tri P ρ n0 c st Q :=
 fun E0 w0 h0 E w a he hs hm => h E0 w0 h0 E w a he (hw E w a hs) hm


mutual
def belowV (n : Nat) : V → Bool
 | .ms b _ _ _ => decide (b < n)
 | .ptr b _ => decide (b < n)
 | .yld b => decide (b < n)
 | .mp b => decide (b < n)
 | .rptr b _ _ _ => decide (b < n)
 | .undef => true
 | .sc _ => true
 | .slice _ => true
 | .eptr _ => true
 | .gn => true
 | .full _ => true
 | .agg cs => belowL n cs
 | .tup cs => belowL n cs
 | .clo _ first cap => belowL n first && belowL n cap
def belowL (n : Nat) : List V → Bool
 | [] => true
 | c :: r => belowV n c && belowL n r
end
theorem belowL_all (n : Nat) (l : List V) : belowL n l = l.all (belowV n) := by
 induction l with
 | nil => rfl
 | cons c r ih => simp [belowL, ih]
def belowB (n : Nat) : Blk → Bool
 | .box cs => cs.all (belowV n)
 | .loop _ _ fr _ _ _ => fr.all (belowV n)
 | .map kvs _ => kvs.all (fun k => belowV n k.2.2)
 | .miter m _ _ _ => decide (m < n)
 | _ => true
def Env.cut (E : Env) (n : Nat) : Env := { F := E.F, blk := fun k v => if k < n then E.blk k v else none, gl := E.gl }

theorem belowV_rep {E : Env} {n : Nat} {v : V} {x : Value} (h : Rep E v x) (hb : belowV n v = true) : Rep (E.cut n) v x := by
 induction h with
 | undef => exact .undef _ _
 | sc => exact .sc _ _
 | slice E rows a cap esz ad xf ha hcap hz hF h1 hR ih => exact .slice _ _ _ _ esz ad xf ha hcap hz hF h1 hR
 | ms E b v s l g e c a cap hbk hl h0 hcc => exact .ms _ _ _ _ _ g e c _ _ ((if_pos (by simpa [belowV] using hb)).trans hbk) hl h0 hcc
 | msnil => exact .msnil _ _ _ _
 | ptr E b o g e c hbk => exact .ptr _ _ _ g e c ((if_pos (by simpa [belowV] using hb)).trans hbk)
 | yld E b l e c hbk => exact .yld _ _ l e c ((if_pos (by simpa [belowV] using hb)).trans hbk)
 | mp E b l e c hbk => exact .mp _ _ l e c ((if_pos (by simpa [belowV] using hb)).trans hbk)
 | rptr E b v i o g e c hbk => exact .rptr _ _ _ _ _ g e c ((if_pos (by simpa [belowV] using hb)).trans hbk)
 | eptr E cs ad xf hF hR ih => exact .eptr _ _ _ xf hF hR
 | gn => exact .gn _
 | full E rows a h ih => exact .full _ _ _ (ih rfl)
 | agg E cs xs hl hh ih =>
  rw [belowV, belowL_all] at hb
  exact .agg _ _ _ hl fun i c x hc hx => ih i c x hc hx (List.all_eq_true.1 hb c (List.mem_of_getElem? hc))
 | tup E cs xs hl hh ih =>
  rw [belowV, belowL_all] at hb
  exact .tup _ _ _ hl fun i c x hc hx => ih i c x hc hx (List.all_eq_true.1 hb c (List.mem_of_getElem? hc))
 | clo E f first cap xs ys hx hy h1 h2 ih1 ih2 =>
  rw [belowV, belowL_all, belowL_all, Bool.and_eq_true] at hb
  exact .clo _ _ _ _ _ _ hx hy (fun i c x hc hx => ih1 i c x hc hx (List.all_eq_true.1 hb.1 c (List.mem_of_getElem? hc))) fun i c x hc hx => ih2 i c x hc hx (List.all_eq_true.1 hb.2 c (List.mem_of_getElem? hc))

theorem Sim.cut {E : Env} {w : World} {a : Act} {st : St} (hs : Sim E w a st) {n : Nat} (hf : st.fr.all (belowV n) = true) (hm : (st.mem.take n).all (belowB n) = true) : Sim (E.cut n) w a { st with mem := st.mem.take n } := by
 have hblk : ∀ k v, k < n → (E.cut n).blk k v = E.blk k v := fun k v h => if_pos h
 have hge : ∀ k v, n ≤ k → (E.cut n).blk k v = none := fun k v h => if_neg (by omega)
 have hlt : ∀ {k v t}, (E.cut n).blk k v = some t → k < n ∧ E.blk k v = some t := fun {k v t} h => by
  by_cases hk : k < n
  ·rw [hblk k v hk] at h; exact ⟨hk, h⟩
  ·rw [hge k v (by omega)] at h; cases h
 have hget : ∀ {k : Nat} {B : Blk}, (st.mem.take n)[k]? = some B → k < n ∧ st.mem[k]? = some B := fun {k B} h => by
  rw [List.getElem?_take] at h
  split at h
  ·exact ⟨by assumption, h⟩
  ·cases h
 refine ⟨hs.F, fun k v g e c h => hs.lt _ _ _ _ _ (hlt h).2, fun k B hk => ?_, fun k hk v => ?_, fun k B hk v hv => ?_, fun k k' v v' g e1 c1 e2 c2 h5 h6 => hs.apart _ _ _ _ _ _ _ _ _ (hlt h5).2 (hlt h6).2, ⟨hs.fr.1, fun i v x hv hx => belowV_rep (hs.fr.2 i v x hv hx) (List.all_eq_true.1 hf v (List.mem_of_getElem? hv))⟩⟩
 ·obtain ⟨hkn, hk'⟩ := hget hk
  have hall := List.all_eq_true.1 hm B (List.mem_of_getElem? hk)
  have h := hs.mem k B hk'
  cases B with
  | hole => exact fun v => by rw [hblk k v hkn]; exact h v
  | dead => trivial
  | box cs =>
   obtain ⟨g, T, xs, h1, h2, h3, h4⟩ := h
   exact ⟨g, T, xs, (hblk k 0 hkn).trans h1, h2, ⟨h3.1, fun i v x hv hx => belowV_rep (h3.2 i v x hv hx) (List.all_eq_true.1 hall v (List.mem_of_getElem? hv))⟩, h4⟩
  | loop s pend fr params assign body =>
   obtain ⟨l, fn, tmps, db, h1, h2, h3, h4⟩ := h
   exact ⟨l, fn, tmps, db, (hblk k 0 hkn).trans h1, h2, ⟨h3.1, fun i v x hv hx => belowV_rep (h3.2 i v x hv hx) (List.all_eq_true.1 hall v (List.mem_of_getElem? hv))⟩, h4⟩
  | map kvs clock =>
   obtain ⟨g, es, h1, h2, h3, h4⟩ := h
   exact ⟨g, es, (hblk k 0 hkn).trans h1, h2, ⟨h3.1, fun i kb e hk he => let ⟨p1, p2, p3⟩ := h3.2 i kb e hk he; ⟨p1, p2, belowV_rep p3 (List.all_eq_true.1 hall kb (List.mem_of_getElem? hk))⟩⟩, h4⟩
  | miter m since seen last =>
   obtain ⟨g, gm, e, c, h1, h2, h3, h4⟩ := h
   have hmn : m < n := by simpa [belowB] using hall
   exact ⟨g, gm, e, c, (hblk k 0 hkn).trans h1, (hblk m 0 hmn).trans h2, h3, h4⟩
  | siter s pos =>
   obtain ⟨g, h1, h2, h3⟩ := h
   exact ⟨g, (hblk k 0 hkn).trans h1, h2, h3⟩
  | niter =>
   obtain ⟨g, h1, h2, h3⟩ := h
   exact ⟨g, (hblk k 0 hkn).trans h1, h2, h3⟩
  | rows v e rs =>
   rcases h with ⟨h1, h2⟩ | ⟨g, T, xs, c, h1, h2⟩
   ·exact .inl ⟨h1, (hblk k v hkn).trans h2⟩
   ·exact .inr ⟨g, T, xs, c, (hblk k v hkn).trans h1, h2⟩
  | frz v e rs =>
   rcases h with ⟨h1, h2⟩ | ⟨g, c, h1, h2⟩
   ·exact .inl ⟨h1, (hblk k v hkn).trans h2⟩
   ·exact .inr ⟨g, c, (hblk k v hkn).trans h1, h2⟩
 ·by_cases hkn : k < n
  ·rw [hblk k v hkn]
   refine hs.top k ?_ v
   dsimp only at hk
   rw [List.length_take] at hk; omega
  ·exact hge k v (by omega)
 ·obtain ⟨hkn, hk'⟩ := hget hk
  rw [hblk k v hkn]; exact hs.ver k B hk' v hv

def forget (slots : List Nat) (fr : List V) : List V := slots.foldl (fun fr i => fr.set i .undef) fr
theorem Sim.forget {E : Env} {w : World} {a : Act} (slots : List Nat) : ∀ {st : St}, Sim E w a st → Sim E w a { st with fr := Eng.forget slots st.fr } := by
 induction slots with
 | nil => intro st hs; exact hs
 | cons i r ih =>
  intro st hs
  have : Sim E w a { st with fr := st.fr.set i .undef } := by
   refine ⟨hs.F, hs.lt, hs.mem, hs.top, hs.ver, hs.apart, ⟨by simpa using hs.fr.1, fun j v x hv hx => ?_⟩⟩
   dsimp only at hv
   rw [List.getElem?_set] at hv
   split at hv
   ·split at hv
    ·cases hv; exact .undef _ _
    ·cases hv
   ·exact hs.fr.2 j v x hv hx
  exact ih this

theorem tri_trim {c : Code} (n : Nat) (slots : List Nat) (hn : n0 ≤ n) (hf : (forget slots st.fr).all (belowV n) = true) (hm : (st.mem.take n).all (belowB n) = true)
  (h : Tri P ρ n0 c { fr := forget slots st.fr, mem := st.mem.take n } Q) : Tri P ρ n0 c st Q := fun E0 w0 h0 E w a he hs hmk => by
 have h1 := (hs.forget slots).cut (n := n) hf hm
 refine h E0 w0 h0 (E.cut n) w a ⟨⟨he.le.F, fun k v t hk => ?_⟩, fun k v g e c hk => ?_, he.F, he.os, he.tape, he.output, he.size, he.heap⟩ h1 ?_
 rotate_left 2
 ·obtain ⟨rs, m1, m2, m3⟩ := hmk
  refine ⟨rs, m1, m2, fun r hr => ⟨(m3 r hr).1, (m3 r hr).2.1, fun k v e c hk => ?_⟩⟩
  have : E.blk k v = some (r, e, c) := by
   by_cases hkn : k < n
   ·exact ((if_pos hkn).symm.trans hk : E.blk k v = _)
   ·have h2 : (E.cut n).blk k v = none := if_neg hkn
    rw [h2] at hk; cases hk
  exact (m3 r hr).2.2 _ _ _ _ this
 ·have : k < n := by
   rcases Nat.lt_or_ge k n with hlt | hge
   ·exact hlt
   ·rw [h0 k (by omega) v] at hk; cases hk
  exact (if_pos this).trans (he.le.blk _ _ _ hk)
 ·have : E.blk k v = some (g, e, c) := by
   by_cases hkn : k < n
   ·exact ((if_pos hkn).symm.trans hk : E.blk k v = _)
   ·have h2 : (E.cut n).blk k v = none := if_neg hkn
    rw [h2] at hk; cases hk
  exact he.blk _ _ _ _ _ this

theorem Sim.slotNil {E : Env} {w : World} {a : Act} {st : St} (hs : Sim E w a st) {i b v : Nat} (h : st.fr[i]? = some (.sc (.slice none 0 0))) : Sim E w a { st with fr := st.fr.set i (.ms b v 0 0) } := by
 refine ⟨hs.F, hs.lt, hs.mem, hs.top, hs.ver, hs.apart, ⟨by simpa using hs.fr.1, fun j u x hu hx => ?_⟩⟩
 dsimp only at hu
 rw [List.getElem?_set] at hu
 split at hu
 ·rename_i hij
  subst hij
  split at hu
  ·cases hu
   have := hs.fr.2 _ _ _ h hx
   rw [rep_sc this]
   exact .msnil _ _ _ _
  ·cases hu
 ·exact hs.fr.2 j u x hu hx
end

def resV (tt : Table) (st : St) : ResultVar → Option V
 | .tmp t => some (st.fr.getD t .undef)
 | .cell a T => loadV tt st.mem T (st.fr.getD a .undef)
def resL (tt : Table) (st : St) : List ResultVar → Option (List V)
 | [] => some []
 | r :: rs => match resV tt st r with
  | some v => match resL tt st rs with | some l => some (v :: l) | none => none
  | none => none
def retV (tt : Table) (rs : Array ResultVar) (st : St) : Option V :=
 match resL tt st rs.toList with
 | some [v] => pur st.mem v
 | some vs => pur st.mem (.tup vs)
 | none => none

theorem resL_sound {P : Program} {tt : Table} (ht : TT P tt) {E : Env} {w : World} {a : Act} {st : St} (hs : Sim E w a st) : ∀ (rs : List ResultVar) (vs : List V), resL tt st rs = some vs →
  ∃ xs : List Value, (rs.mapM (fun | .tmp t => pure (a.tmps.getD t undef) | .cell p t => do loadVar t (← asAddr (a.tmps.getD p undef))) : Sem (List Value)).run P w = .ok xs w ∧ RepL E vs xs
 | [], vs, h => by simp [resL] at h; subst h; exact ⟨[], rfl, .nil _⟩
 | r :: rs, vs, h => by
  simp only [resL] at h
  split at h
  ·rename_i v hv
   split at h
   ·rename_i l hl
    simp only [Option.some.injEq] at h; subst h
    obtain ⟨xs, h1, h2⟩ := resL_sound ht hs rs l hl
    have hx : ∃ x, ((match r with | .tmp t => pure (a.tmps.getD t undef) | .cell p t => do loadVar t (← asAddr (a.tmps.getD p undef))) : Sem Value).run P w = .ok x w ∧ Rep E v x := by
     cases r with
     | tmp t =>
      simp only [resV,Option.some.injEq] at hv; subst hv
      exact ⟨_, rfl, hs.eval (.tmp t)⟩
     | cell p t =>
      simp only [resV] at hv
      have hp := hs.eval (.tmp p)
      obtain ⟨y, h3, h4⟩ := loadV_sound ht hs hp hv
      refine ⟨y, ?_, h4⟩
      have hp' : ∃ ad, a.tmps.getD p undef = .pointer (some ad) := by
       have hp2 : Rep E (st.fr.getD p .undef) (a.tmps.getD p undef) := hp
       revert hp2 hv
       generalize st.fr.getD p .undef = q
       generalize a.tmps.getD p undef = z
       intro hv hp2
       cases hp2 with
       | ptr => exact ⟨_, rfl⟩
       | rptr => exact ⟨_, rfl⟩
       | eptr => exact ⟨_, rfl⟩
       | _ => simp [loadV] at hv
      obtain ⟨ad, had⟩ := hp'
      have h3' : (Instr.loadAt t (a.tmps.getD p undef)).run P w = .ok y w := h3
      show ((do loadVar t (← asAddr (a.tmps.getD p undef))) : Sem Value).run P w = _
      rw [had] at h3' ⊢
      simpa [Instr.loadAt, Instr.sureAddr, asAddr] using h3'
    obtain ⟨x, h3, h4⟩ := hx
    refine ⟨x :: xs, ?_, .cons h4 h2⟩
    simp only [List.mapM_cons,Sem.run_bind]
    rw [h3]
    simp only [Result.andThen_ok]
    rw [h1]
    rfl
   ·cases h
  ·cases h

theorem retV_sound {P : Program} {tt : Table} (ht : TT P tt) {E : Env} {w : World} {a : Act} {st : St} (hs : Sim E w a st) {fn : Func} {r : V} (h : retV tt fn.results st = some r) :
  ∃ keys x, (results fn a.tmps).run P w = .ok x w ∧ Rep (E.opn w keys).pure r x := by
 unfold retV at h
 have run : ∀ xs : List Value, (fn.results.toList.mapM (fun | .tmp t => pure (a.tmps.getD t undef) | .cell p t => do loadVar t (← asAddr (a.tmps.getD p undef))) : Sem (List Value)).run P w = .ok xs w →
   (results fn a.tmps).run P w = .ok (if h : xs.toArray.size = 1 then xs.toArray[0] else .tuple xs.toArray) w := fun xs hx => by
  unfold results
  rw [Array.mapM_eq_mapM_toList]
  simp only [Sem.run_bind,Sem.run_map]
  erw [hx]
  rfl
 split at h
 ·rename_i v hv
  obtain ⟨xs, h1, h2⟩ := resL_sound ht hs _ _ hv
  obtain ⟨x, ys, rfl, h3, h4⟩ := h2.of_cons
  have := h4.of_nil; subst this
  exact ⟨refs v, x, run _ h1, pur_sound hs h3 h fun k hk => hk⟩
 ·rename_i vs hne hv
  obtain ⟨xs, h1, h2⟩ := resL_sound ht hs _ _ hv
  have hl : xs.toArray.size ≠ 1 := by
   have := h2.1
   intro he
   match vs, xs, this, he with
   | [v], _, _, _ => exact hne v rfl
   | [], [], _, he => simp at he
   | [], _ :: _, h, _ => simp at h
   | _ :: _ :: _, [], h, _ => simp at h
   | _ :: _ :: _, _ :: [], h, _ => simp at h
   | _ :: _ :: _, _ :: _ :: _, _, he => simp at he
  have h3 := run _ h1
  rw [dif_neg hl] at h3
  exact ⟨refs (.tup vs), _, h3, pur_sound hs (.tup _ _ _ (by simpa using h2.1) fun i c x hc hx => h2.2 i c x hc (by simpa using hx)) h fun k hk => hk⟩
 ·cases h

def startSt (fn : Func) (args : List V) (mem : List Blk) : St := { fr := args ++ List.replicate (fn.ntmps - args.length) (.sc undef), mem := mem }
theorem startSt_rep {E : Env} (fn : Func) {args : List V} {mem : List Blk} {xs : Array Value} (hx : RepL E args xs.toList) : RepL E (startSt fn args mem).fr (xs ++ Array.replicate (fn.ntmps - xs.size) undef).toList := by
 have hl : args.length = xs.size := by have := hx.1; simpa using this
 simp only [startSt,Array.toList_append,Array.toList_replicate,hl]
 refine hx.append ⟨by simp, fun i v x hv hx => ?_⟩
 rw [List.getElem?_replicate] at hv hx
 split at hv
 ·rename_i hi; rw [if_pos hi] at hx; cases hv; cases hx; exact .sc _ _
 ·cases hv

theorem run_takeMark {P : Program} {w : World} {r : Nat} (h : w.heap[r]? = some (.deferred (some []))) : (Instr.takeDeferred r).run P w = .ok [] { w with heap := w.heap.setIfInBounds r (.deferred none) } := by
 simp [Instr.takeDeferred, getObj, setObj, Sem.run, h, bind, Sem.bind, pure]

theorem leaves_marks {P : Program} {fn : Func} {tmps : Array Value} {R : Ending → World → Prop} : ∀ (rs : List Nat) (w : World), rs.Nodup → (∀ r ∈ rs, w.heap[r]? = some (.deferred (some []))) →
  (∀ w', w'.os = w.os → w'.tape = w.tape → w'.output = w.output → w'.heap.size = w.heap.size → (∀ b, b ∉ rs → w'.heap[b]? = w.heap[b]?) → ∃ v, (results fn tmps).run P w' = .ok v w' ∧ R (.returned v) w') →
  LeavesInM (WF none) 0 P fn tmps R (rs.map (fun r => { target := .collected r, args := #[] })) .returning w
 | [], w, _, _, h => by
  obtain ⟨v, h1, h2⟩ := h w rfl rfl rfl rfl fun _ _ => rfl
  exact ⟨v, h1, h2⟩
 | r :: rs, w, hn, hr, h => by
  refine ⟨by simp, .inl ⟨r, _, rfl, run_takeMark (hr r (List.mem_cons_self ..)), ?_⟩⟩
  rw [List.nodup_cons] at hn
  have hset : ∀ b, b ≠ r → (w.heap.setIfInBounds r (.deferred none))[b]? = w.heap[b]? := fun b hb => Array.getElem?_setIfInBounds_ne (fun e => hb e.symm)
  refine leaves_marks rs _ hn.2 (fun r' hr' => ?_) fun w' h1 h2 h3 h4 h5 => ?_
  ·rw [hset r' (fun e => hn.1 (e ▸ hr'))]; exact hr r' (List.mem_cons_of_mem _ hr')
  ·exact h w' h1 h2 h3 (by rw [h4]; simp) fun b hb => by
    simp only [List.mem_cons,not_or] at hb
    rw [h5 b hb.2, hset b hb.1]

theorem Sim.unmark {E : Env} {w w' : World} {a : Act} {st : St} (hs : Sim E w a st) {rs : List Nat} (hr : ∀ r ∈ rs, w.heap[r]? = some (.deferred (some [])) ∧ ∀ k v e c, E.blk k v ≠ some (r, e, c)) (hsz : w'.heap.size = w.heap.size)
  (hh : ∀ b, b ∉ rs → w'.heap[b]? = w.heap[b]?) : Sim E w' a st := by
 refine ⟨fun ad x hx => ?_, fun k v g e c h => by rw [hsz]; exact hs.lt _ _ _ _ _ h, fun k B hk => ?_, hs.top, hs.ver, hs.apart, hs.fr⟩
 ·have hc := hs.F ad x hx
  have : ad.block ∉ rs := fun hin => by
   have := (hr _ hin).1
   simp [World.cell?, this] at hc
  rw [← hc]; simp [World.cell?, hh _ this]
 ·exact (hs.mem k B hk).mono E.le_refl (fun _ h => h) (fun g e c h => hh g fun hin => (hr g hin).2 _ _ _ _ h) fun _ _ _ _ _ h => h

theorem fn_ok {P : Program} {tt : Table} (ht : TT P tt) {f : FuncId} {fn : Func} {body : Code} {args : List V} {r : V} (hf : P.funcs[f]? = some fn) (hb : fn.body = some body)
  (hcall : ∀ (xs : Array Value) (w : World), (callFunc f xs).run P w = .ok (.enter f xs) w)
  (h : Tri P none 0 body (startSt fn args []) fun ex st' => (ex = .ret ∨ ex = .normal) ∧ retV tt fn.results st' = some r) : FnOk P f args r := by
 refine ⟨hcall, fun F hg w xs hF hx => calls_WF (n := 0) (callsIn_of_wp_marks hf hb trivial ?_)⟩
 have hs : Sim ⟨F, fun _ _ => none, hg⟩ w { tmps := xs ++ Array.replicate (fn.ntmps - xs.size) undef, defers := [] } (startSt fn args []) := by
  refine ⟨hF, (fun k v g e c h => by cases h), (fun k B h => by simp [startSt] at h), (fun k _ v => rfl), (fun k B h => by simp [startSt] at h), (fun k k' v v' g e c e' c' h => by cases h), startSt_rep fn hx⟩
 refine wpIn_mono (h _ w (fun k _ v => rfl) _ w _ (Evo.refl _ w) hs (.nil _ _ _)) ?_
 rintro e a' w' ⟨E', st', h1, h2, ⟨rs, hd, hnd, hrs⟩, he, hr⟩
 have post : LeavesInM (WF none) 0 P fn a'.tmps (fun e w' => ∃ F' x, e = .returned x ∧ (∀ ad y, F ad = some y → F' ad = some y) ∧ (∀ ad y, F' ad = some y → w'.cell? ad = some y) ∧ (∀ ad y, F' ad = some y → F ad = some y ∨ w.heap.size ≤ ad.block) ∧
   (∃ hg', Rep ⟨F', fun _ _ => none, hg'⟩ r x) ∧ Below w.heap.size w w') a'.defers .returning w' := by
  rw [hd]
  refine leaves_marks rs w' hnd (fun r hr => (hrs r hr).2.1) fun w2 k1 k2 k3 k4 k5 => ?_
  have hs2 := h1.unmark (fun r hr => (hrs r hr).2) k4 k5
  obtain ⟨keys, x, h3, h4⟩ := retV_sound ht hs2 hr
  have hold : ∀ r ∈ rs, w.heap.size ≤ r := fun r hr => (hrs r hr).1
  refine ⟨x, h3, (E'.opn w2 keys).F, x, rfl, fun ad y hy => (Env.le_opn E' w2 keys).F _ _ (h2.le.F _ _ hy), fun ad y hy => Env.opn_F hs2.F hy, fun ad y hy => ?_, ⟨_, h4⟩, ⟨k1.trans h2.os, k2.trans h2.tape, k3.trans h2.output, by rw [k4]; exact h2.size, fun b hb => (k5 b fun hin => by have := hold b hin; omega).trans (h2.heap b hb (by simp))⟩⟩
  rcases Env.opn_new hy with h | ⟨k, -, e, c, h⟩
  ·rcases h2.F _ _ h with h | h | ⟨k0, v0, e0, c0, h⟩
   ·exact .inl h
   ·exact .inr h
   ·cases h
  ·rcases h2.blk _ _ _ _ _ h with ⟨k0, v0, e0, c0, h⟩ | h
   ·cases h
   ·exact .inr h
 rcases he with rfl | rfl <;> exact post
end Go.Eng
end

section
namespace Go.Eng
variable [Glob]

def lookupT : List (Nat × Ti) → Table
 | [], _ => none
 | (k, i) :: r, t => if t = k then some i else lookupT r t

def zeroEq : Value → Value → Bool
 | .bool a, .bool b => a == b
 | .int k n, .int k' n' => k == k' && n == n'
 | .string a, .string b => a.data == b.data
 | .pointer none, .pointer none => true
 | .slice none a b, .slice none c d => a == c && b == d
 | .map none, .map none => true
 | .nilFunc, .nilFunc => true
 | .nilIface, .nilIface => true
 | _, _ => false
def zerosEq : List Value → List Value → Bool
 | [], [] => true
 | a :: r, b :: s => zeroEq a b && zerosEq r s
 | _, _ => false
theorem zeroEq_eq {a b : Value} (h : zeroEq a b = true) : a = b := by
 unfold zeroEq at h
 split at h
 ·simp at h; rw [h]
 ·simp at h; rw [h.1, h.2]
 ·rename_i a b
  have : a.data = b.data := by simpa using h
  congr 1
  cases a; cases b; simp_all
 ·rfl
 ·simp at h; rw [h.1, h.2]
 ·rfl
 ·rfl
 ·rfl
 ·cases h
theorem zerosEq_eq : ∀ {a b : List Value}, zerosEq a b = true → a = b
 | [], [], _ => rfl
 | x :: r, y :: s, h => by
  simp only [zerosEq,Bool.and_eq_true] at h
  rw [zeroEq_eq h.1, zerosEq_eq h.2]
 | [], _ :: _, h => by simp [zerosEq] at h
 | _ :: _, [], h => by simp [zerosEq] at h

def fldsOk (P : Program) : List Field → List (Nat × Nat) → Bool
 | [], [] => true
 | f :: r, p :: s => f.offset == p.1 && p.2 != 0 && (match P.info? f.type with | some i => i.size == p.2 | none => false) && fldsOk P r s
 | _, _ => false

def okTi (P : Program) (t : TypeId) (i : Ti) : Bool :=
 match P.info? t with
 | none => false
 | some info => info.size == i.size && info.bytes == i.bytes && (match info.zero with | some z => zerosEq z.cells.toList i.zero | none => false) &&
  match P.underlying t with
  | none => false
  | some d => (i.agg == (match d with | .struct _ => true | .array _ _ => true | _ => false)) &&
   (match i.elem with | none => true | some e => (match d with | .slice e' => e' == e | _ => false)) &&
   (match i.flds with | [] => true | fl => (match d with | .struct fs => fldsOk P fs.toList fl | _ => false))

def okAll (P : Program) : List (Nat × Ti) → Bool
 | [] => true
 | (t, i) :: r => okTi P t i && okAll P r

theorem fldsOk_get {P : Program} : ∀ {fs : List Field} {fl : List (Nat × Nat)}, fldsOk P fs fl = true → fs.length = fl.length ∧ ∀ (k off sz : Nat), fl[k]? = some (off, sz) → ∃ f inf, fs[k]? = some f ∧ f.offset = off ∧ P.info? f.type = some inf ∧ inf.size = sz ∧ sz ≠ 0
 | [], [], _ => ⟨rfl, fun k off sz h => by simp at h⟩
 | f :: r, p :: s, h => by
  simp only [fldsOk,Bool.and_eq_true,beq_iff_eq,bne_iff_ne] at h
  obtain ⟨⟨⟨h1, h2⟩, h3⟩, h4⟩ := h
  obtain ⟨h5, h6⟩ := fldsOk_get h4
  refine ⟨by simp [h5], fun k off sz hk => ?_⟩
  cases k with
  | zero =>
   simp only [List.getElem?_cons_zero,Option.some.injEq] at hk; subst hk
   split at h3
   ·rename_i inf hi
    exact ⟨f, inf, rfl, h1, hi, by simpa using h3, h2⟩
   ·cases h3
  | succ k => exact h6 k off sz (by simpa using hk)
 | [], _ :: _, h => by simp [fldsOk] at h
 | _ :: _, [], h => by simp [fldsOk] at h

theorem okTi_tt {P : Program} {t : TypeId} {i : Ti} (h : okTi P t i = true) :
  (∃ info, P.info? t = some info ∧ info.size = i.size ∧ info.bytes = i.bytes ∧ ∃ z, info.zero = some z ∧ z.cells.toList = i.zero) ∧
  (∃ d, P.underlying t = some d ∧ (i.agg = true ↔ ((∃ fs, d = .struct fs) ∨ ∃ n e, d = .array n e)) ∧ (∀ e, i.elem = some e → d = .slice e) ∧
   (∀ (f off sz : Nat), i.flds[f]? = some (off, sz) → ∃ fs fd inf, d = .struct fs ∧ fs.size = i.flds.length ∧ fs[f]? = some fd ∧ fd.offset = off ∧ P.info? fd.type = some inf ∧ inf.size = sz ∧ sz ≠ 0)) := by
 unfold okTi at h
 split at h
 ·cases h
 ·rename_i info hinfo
  simp only [Bool.and_eq_true,beq_iff_eq] at h
  obtain ⟨⟨⟨h1, h2⟩, h3⟩, h4⟩ := h
  split at h3
  ·rename_i z hz
   refine ⟨⟨info, hinfo, h1, h2, z, hz, zerosEq_eq h3⟩, ?_⟩
   split at h4
   ·cases h4
   ·rename_i d hd
    simp only [Bool.and_eq_true,beq_iff_eq] at h4
    obtain ⟨⟨h5, h6⟩, h7⟩ := h4
    refine ⟨d, hd, ?_, ?_, ?_⟩
    ·rw [h5]
     cases d <;> simp
    ·intro e he
     rw [he] at h6
     dsimp only at h6
     split at h6
     ·simp at h6; rw [h6]
     ·cases h6
    ·intro f off sz hf
     split at h7
     ·rename_i hfl; rw [hfl] at hf; simp at hf
     ·split at h7
      ·rename_i fs
       obtain ⟨h8, h9⟩ := fldsOk_get h7
       obtain ⟨fd, inf, h10, h11⟩ := h9 f off sz hf
       exact ⟨fs, fd, inf, rfl, by simpa using h8, by simpa using h10, h11⟩
      ·cases h7
  ·cases h3

theorem okAll_get {P : Program} : ∀ {l : List (Nat × Ti)}, okAll P l = true → ∀ t i, lookupT l t = some i → okTi P t i = true
 | [], _, t, i, h => by simp [lookupT] at h
 | (k, j) :: r, h, t, i, ht => by
  simp only [okAll,Bool.and_eq_true] at h
  simp only [lookupT] at ht
  split at ht
  ·rename_i hk; subst hk; cases ht; exact h.1
  ·exact okAll_get h.2 t i ht
theorem tt_of {P : Program} {l : List (Nat × Ti)} (h : okAll P l = true) : TT P (lookupT l) :=
 ⟨fun t i ht => (okTi_tt (okAll_get h t i ht)).1, fun t i ht => (okTi_tt (okAll_get h t i ht)).2⟩
end Go.Eng
end

section
namespace Go.Eng
variable [Glob]

section
variable {P : Program} {tt : Table} {ρ : Option Nat} {n0 : Nat} {st : St} {Q : Exit → St → Prop}
theorem tri_seq_region (ht : TT P tt) {id : Nat} {ops : Array Oper} {y : Code} (h : ∀ K : St → Prop, (∀ st', Tri P ρ n0 y st' Q → K st') → runOps P tt ops ops.toList st K) : Tri P ρ n0 (.seq (.region id ops false) y) st Q :=
 tri_seq (tri_region ht (h (fun st' => Tri P ρ n0 y st' Q) fun _ h => h))
theorem tri_last_region (ht : TT P tt) {id : Nat} {ops : Array Oper} (h : ∀ K : St → Prop, (∀ st', Q .normal st' → K st') → runOps P tt ops ops.toList st K) : Tri P ρ n0 (.region id ops false) st Q :=
 tri_region ht (h (Q .normal) fun _ h => h)
def maskFr : List Bool → List V → List V
 | _, [] => []
 | [], _ :: r => .undef :: maskFr [] r
 | b :: m, v :: r => (if b = true then v else .undef) :: maskFr m r
theorem maskFr_rep {E : Env} : ∀ (m : List Bool) {vs : List V} {xs : List Value}, RepL E vs xs → RepL E (maskFr m vs) xs
 | m, [], xs, h => by rw [h.of_nil]; cases m <;> exact .nil _
 | [], v :: r, xs, h => by
  obtain ⟨x, ys, rfl, h1, h2⟩ := h.of_cons
  exact .cons (.undef _ _) (maskFr_rep [] h2)
 | b :: m, v :: r, xs, h => by
  obtain ⟨x, ys, rfl, h1, h2⟩ := h.of_cons
  refine .cons ?_ (maskFr_rep m h2)
  cases b
  ·exact .undef _ _
  ·exact h1
theorem Sim.mask {E : Env} {w : World} {a : Act} {st : St} (hs : Sim E w a st) (m : List Bool) : Sim E w a { st with fr := maskFr m st.fr } :=
 ⟨hs.F, hs.lt, hs.mem, hs.top, hs.ver, hs.apart, maskFr_rep m hs.fr⟩
theorem tri_mask {c : Code} (n : Nat) (m : List Bool) (hn : n0 ≤ n) (hf : (maskFr m st.fr).all (belowV n) = true) (hm : (st.mem.take n).all (belowB n) = true)
  (h : Tri P ρ n0 c { fr := maskFr m st.fr, mem := st.mem.take n } Q) : Tri P ρ n0 c st Q :=
 tri_weak (st' := { st with fr := maskFr m st.fr }) (fun E w a hs => hs.mask m) (tri_trim n [] hn hf hm h)
def Trims (n0 : Nat) (st : St) (I : St → Prop) : Prop :=
 ∃ (n : Nat) (m : List Bool), n0 ≤ n ∧ (maskFr m st.fr).all (belowV n) = true ∧ (st.mem.take n).all (belowB n) = true ∧ I { fr := maskFr m st.fr, mem := st.mem.take n }
theorem loopN_mono {c : Code} : ∀ {n n' : Nat} {st : St}, n ≤ n' → LoopN P ρ n0 c n st Q → LoopN P ρ n0 c n' st Q
 | 0, _, _, _, h => h.elim
 | n + 1, 0, _, hn, _ => by omega
 | n + 1, n' + 1, st, hn, h => Tri.mono h fun e st' hq => by
  cases e with
  | normal => exact loopN_mono (by omega) hq
  | _ => exact hq
theorem tri_loop_inv {c : Code} (I : Nat → St → Prop) (N : Nat) (h0 : Trims n0 st (I N))
  (step : ∀ n st, I n st → Tri P ρ n0 c st (thenQ (fun st' => ∃ k, k < n ∧ Trims n0 st' (I k)) Q)) : Tri P ρ n0 (.loop c) st Q := by
 have key : ∀ (n : Nat) (st : St), I n st → LoopN P ρ n0 c (n + 1) st Q := by
  intro n
  induction n using Nat.strongRecOn with
  | _ n ih =>
   intro st hi
   refine Tri.mono (step n st hi) fun e st' hq => ?_
   cases e with
   | normal =>
    obtain ⟨k, hk, n1, m, h1, h2, h3, h4⟩ := hq
    have := ih k hk _ h4
    have : LoopN P ρ n0 c n { fr := maskFr m st'.fr, mem := st'.mem.take n1 } Q := loopN_mono (by omega) this
    cases n with
    | zero => omega
    | succ n => exact tri_mask n1 m h1 h2 h3 this
   | _ => exact hq
 obtain ⟨n1, m, h1, h2, h3, h4⟩ := h0
 exact tri_mask n1 m h1 h2 h3 (tri_loop (N + 1) (key N _ h4))
end

theorem scRunP_bind {α β : Type} (P : Program) (s : Sem α) (f : α → Sem β) : scRunP P (s >>= f) = (scRunP P s).bind fun a => scRunP P (f a) := by
 show scRunP P (s.bind f) = _
 induction s with
 | pure a => rfl
 | program k ih => exact ih P
 | mark m k ih => exact ih
 | _ => rfl
theorem scRunP_underlying {P : Program} {T : TypeId} {d : TypeDesc} (h : P.underlying T = some d) : scRunP P (underlying T) = some d := by
 simp [underlying, scRunP_bind, program, scRunP, h, pure]

section ints
variable (P : Program) (T : TypeId) (x y : Operand) (k : IntKind) (a b : Int)
theorem ev_add : lift2 P (opB .add T x y) (.sc (.int k a)) (.sc (.int k b)) = some (.sc (.int k (k.wrap (a + b)))) := by
 simp [lift2, toVal, opB, binOp, Op.intArith, eqGuard, scRunP, absV, bind, pure, Sem.bind]
theorem ev_sub : lift2 P (opB .sub T x y) (.sc (.int k a)) (.sc (.int k b)) = some (.sc (.int k (k.wrap (a - b)))) := by
 simp [lift2, toVal, opB, binOp, Op.intArith, eqGuard, scRunP, absV, bind, pure, Sem.bind]
theorem ev_mul : lift2 P (opB .mul T x y) (.sc (.int k a)) (.sc (.int k b)) = some (.sc (.int k (k.wrap (a * b)))) := by
 simp [lift2, toVal, opB, binOp, Op.intArith, eqGuard, scRunP, absV, bind, pure, Sem.bind]
theorem ev_lss : lift2 P (opB .lss T x y) (.sc (.int k a)) (.sc (.int k b)) = some (.sc (.bool (decide (a < b)))) := by
 simp [lift2, toVal, opB, binOp, Op.intCmp, eqGuard, scRunP, absV, bind, pure, Sem.bind]
theorem ev_leq : lift2 P (opB .leq T x y) (.sc (.int k a)) (.sc (.int k b)) = some (.sc (.bool (decide (a ≤ b)))) := by
 simp [lift2, toVal, opB, binOp, Op.intCmp, eqGuard, scRunP, absV, bind, pure, Sem.bind]
theorem ev_gtr : lift2 P (opB .gtr T x y) (.sc (.int k a)) (.sc (.int k b)) = some (.sc (.bool (decide (b < a)))) := by
 simp [lift2, toVal, opB, binOp, Op.intCmp, eqGuard, scRunP, absV, bind, pure, Sem.bind]
theorem ev_geq : lift2 P (opB .geq T x y) (.sc (.int k a)) (.sc (.int k b)) = some (.sc (.bool (decide (b ≤ a)))) := by
 simp [lift2, toVal, opB, binOp, Op.intCmp, eqGuard, scRunP, absV, bind, pure, Sem.bind]
theorem ev_eql : lift2 P (opB .eql T x y) (.sc (.int k a)) (.sc (.int k b)) = some (.sc (.bool (decide (a = b)))) := by
 simp [lift2, toVal, opB, binOp, Op.intCmp, eqGuard, scRunP, absV, bind, pure, Sem.bind]
 rfl
theorem ev_neq : lift2 P (opB .neq T x y) (.sc (.int k a)) (.sc (.int k b)) = some (.sc (.bool (!decide (a = b)))) := by
 simp [lift2, toVal, opB, binOp, Op.intCmp, eqGuard, scRunP, absV, bind, pure, Sem.bind]
 rfl
theorem ev_max (ts : Array TypeId) (ty : TypeId) : liftL P (Builtin.max_ ts ty) [.sc (.int k a), .sc (.int k b)] = some (.sc (.int k (if a < b then b else a))) := by
 simp [liftL, allVal, toVal, Builtin.max_, Builtin.max2, scRunP, absV, bind, pure, Sem.bind]
theorem ev_min (ts : Array TypeId) (ty : TypeId) : liftL P (Builtin.min_ ts ty) [.sc (.int k a), .sc (.int k b)] = some (.sc (.int k (if b < a then b else a))) := by
 simp [liftL, allVal, toVal, Builtin.min_, Builtin.min2, scRunP, absV, bind, pure, Sem.bind]
theorem ev_not (t : Bool) : lift1 P (Op.unary .not) (.sc (.bool t)) = some (.sc (.bool (!t))) := by
 simp [lift1, toVal, Op.unary, scRunP, absV, pure]
end ints

section strings
variable (P : Program) (T : TypeId) (x y : Operand) (a b : ByteArray)
theorem ev_seql : lift2 P (opB .eql T x y) (.sc (.string a)) (.sc (.string b)) = some (.sc (.bool (a.toList == b.toList))) := by
 simp [lift2, toVal, opB, binOp, Op.stringOp, eqGuard, scRunP, absV, bind, pure, Sem.bind]
theorem ev_sneq : lift2 P (opB .neq T x y) (.sc (.string a)) (.sc (.string b)) = some (.sc (.bool (!(a.toList == b.toList)))) := by
 simp [lift2, toVal, opB, binOp, Op.stringOp, eqGuard, scRunP, absV, bind, pure, Sem.bind]
theorem ev_sadd (h : ((a.size + b.size : Nat) : Int) ≤ IntKind.i64.max) : lift2 P (opB .add T x y) (.sc (.string a)) (.sc (.string b)) = some (.sc (.string (a ++ b))) := by
 have h' : ¬ ((a.size + b.size : Nat) : Int) > IntKind.i64.max := by omega
 simp only [lift2,toVal,opB,binOp,Op.stringOp,if_neg h']
 simp [eqGuard, scRunP, absV, bind, pure, Sem.bind]
theorem ev_index {P : Program} {T : TypeId} (hT : P.underlying T = some .string) (k : IntKind) (n : Int) (h0 : 0 ≤ n) {c : UInt8} (hc : a[n.toNat]? = some c) : lift2 P (Instr.index T) (.sc (.string a)) (.sc (.int k n)) = some (.sc (.int .u8 c.toNat)) := by
 simp [lift2, toVal, Instr.index, asIntOf, underlying, hT, h0, hc, scRunP, absV, bind, pure, Sem.bind, program]
theorem ev_slen {P : Program} {tt : Table} {T : TypeId} (hT : P.underlying T = some .string) (ty : TypeId) : lenV P tt #[T] ty [.sc (.string a)] = some (.sc (.int .i64 a.size)) := by
 simp [lenV, liftL, allVal, toVal, Builtin.len_, underlying, hT, scRunP, absV, bind, pure, Sem.bind, program, goInt]
theorem ev_cutto {P : Program} {tt : Table} {mem : List Blk} {T : TypeId} (hT : P.underlying T = some .string) (k : IntKind) (n : Int) (h0 : 0 ≤ n) (hn : n ≤ a.size) :
  cutV P tt mem T (.sc (.string a)) none (some (.sc (.int k n))) = some (.sc (.string (a.extract 0 n.toNat))) := by
 simp [cutV, lift2, toVal, Instr.sliceAt, Instr.slice, Instr.sliceBounds, Instr.sliceBound, asIntOf, underlying, hT, h0, hn, scRunP, absV, bind, pure, Sem.bind, program]
theorem ev_conv {P : Program} {src dst : TypeId} {d : TypeDesc} {k' : IntKind} (hs : P.underlying src = some d) (hd : P.underlying dst = some (.int k')) (k : IntKind) (n : Int) : lift1 P (convert src dst) (.sc (.int k n)) = some (.sc (.int k' (k'.wrap n))) := by
 simp [lift1, toVal, convert, underlying, hs, hd, Conv.intToInt, scRunP, absV, bind, pure, Sem.bind, program]
end strings
end Go.Eng
end

section
namespace Go.Eng
variable [Glob]
open Go.RowKit (Below)

theorem Evo.cut {E E' : Env} {w w' : World} (h : Evo E w E' w') {n : Nat} (hn : ∀ k, n ≤ k → ∀ v, E.blk k v = none) : Evo E w (E'.cut n) w' := by
 refine ⟨⟨h.le.F, fun k v t hk => ?_⟩, fun k v g e c hk => ?_, h.F, h.os, h.tape, h.output, h.size, h.heap⟩
 ·have : k < n := by
   rcases Nat.lt_or_ge k n with hlt | hge
   ·exact hlt
   ·rw [hn k hge v] at hk; cases hk
  exact (if_pos this).trans (h.le.blk _ _ _ hk)
 ·have : E'.blk k v = some (g, e, c) := by
   by_cases hkn : k < n
   ·exact ((if_pos hkn).symm.trans hk : E'.blk k v = _)
   ·have h2 : (E'.cut n).blk k v = none := if_neg hkn
    rw [h2] at hk; cases hk
  exact h.blk _ _ _ _ _ this

def resOne (tt : Table) (rs : Array ResultVar) (st : St) : Option V :=
 match resL tt st rs.toList with
 | some [v] => some v
 | some vs => some (.tup vs)
 | none => none

theorem resOne_sound {P : Program} {tt : Table} (ht : TT P tt) {E : Env} {w : World} {a : Act} {st : St} (hs : Sim E w a st) {fn : Func} {r : V} (h : resOne tt fn.results st = some r) : ∃ x, (results fn a.tmps).run P w = .ok x w ∧ Rep E r x := by
 unfold resOne at h
 have run : ∀ xs : List Value, (fn.results.toList.mapM (fun | .tmp t => pure (a.tmps.getD t undef) | .cell p t => do loadVar t (← asAddr (a.tmps.getD p undef))) : Sem (List Value)).run P w = .ok xs w →
   (results fn a.tmps).run P w = .ok (if h : xs.toArray.size = 1 then xs.toArray[0] else .tuple xs.toArray) w := fun xs hx => by
  unfold results
  rw [Array.mapM_eq_mapM_toList]
  simp only [Sem.run_bind,Sem.run_map]
  erw [hx]
  rfl
 split at h
 ·rename_i v hv
  simp only [Option.some.injEq] at h; subst h
  obtain ⟨xs, h1, h2⟩ := resL_sound ht hs _ _ hv
  obtain ⟨x, ys, rfl, h3, h4⟩ := h2.of_cons
  have := h4.of_nil; subst this
  exact ⟨x, run _ h1, h3⟩
 ·rename_i vs hne hv
  simp only [Option.some.injEq] at h; subst h
  obtain ⟨xs, h1, h2⟩ := resL_sound ht hs _ _ hv
  have hl : xs.toArray.size ≠ 1 := by
   have := h2.1
   intro he
   match vs, xs, this, he with
   | [v], _, _, _ => exact hne v rfl
   | [], [], _, he => simp at he
   | [], _ :: _, h, _ => simp at h
   | _ :: _ :: _, [], h, _ => simp at h
   | _ :: _ :: _, _ :: [], h, _ => simp at h
   | _ :: _ :: _, _ :: _ :: _, _, he => simp at he
  have h3 := run _ h1
  rw [dif_neg hl] at h3
  exact ⟨_, h3, .tup _ _ _ (by simpa using h2.1) fun i c x hc hx => h2.2 i c x hc (by simpa using hx)⟩
 ·cases h

theorem fnr_ok {P : Program} {tt : Table} (ht : TT P tt) {f : FuncId} {fn : Func} {body : Code} {args : List V} {mem : List Blk} {R : V → List Blk → Prop} (hf : P.funcs[f]? = some fn) (hb : fn.body = some body)
  (hcall : ∀ (xs : Array Value) (w : World), (callFunc f xs).run P w = .ok (.enter f xs) w)
  (h : Tri P none mem.length body (startSt fn args mem) fun ex st' => (ex = .ret ∨ ex = .normal) ∧ ∃ r n, mem.length ≤ n ∧ resOne tt fn.results st' = some r ∧ belowV n r = true ∧ (st'.mem.take n).all (belowB n) = true ∧ R r (st'.mem.take n)) : FnOkR P f args mem R := by
 refine ⟨hcall, fun E w xs hs0 hx => calls_WF (n := 0) (callsIn_of_wp_marks hf hb trivial ?_)⟩
 have hs : Sim E w { tmps := xs ++ Array.replicate (fn.ntmps - xs.size) undef, defers := [] } (startSt fn args mem) := ⟨hs0.F, hs0.lt, hs0.mem, hs0.top, hs0.ver, hs0.apart, startSt_rep fn hx⟩
 refine wpIn_mono (h E w hs0.top E w _ (Evo.refl _ w) hs (.nil _ _ _)) ?_
 rintro e a' w' ⟨E', st', h1, h2, ⟨rs, hd, hnd, hrs⟩, he, r, n, hn, hr, hbr, hbm, hR⟩
 have post : LeavesInM (WF none) 0 P fn a'.tmps (fun e w' => ∃ E' x r mem', e = .returned x ∧ R r mem' ∧ Evo E w E' w' ∧ Sim E' w' { tmps := #[], defers := [] } { fr := [], mem := mem' } ∧ Rep E' r x) a'.defers .returning w' := by
  rw [hd]
  refine leaves_marks rs w' hnd (fun r hr => (hrs r hr).2.1) fun w2 k1 k2 k3 k4 k5 => ?_
  have hs2 := h1.unmark (fun r hr => (hrs r hr).2) k4 k5
  obtain ⟨x, h3, h4⟩ := resOne_sound ht hs2 hr
  have hev : Evo E w E' w2 := ⟨h2.le, h2.blk, h2.F, k1.trans h2.os, k2.trans h2.tape, k3.trans h2.output, by rw [k4]; exact h2.size, fun b hb hne => (k5 b fun hin => by have := (hrs b hin).1; omega).trans (h2.heap b hb hne)⟩
  exact ⟨x, h3, E'.cut n, x, r, _, rfl, hR, hev.cut fun k hk v => hs0.top k (by dsimp only; omega) v, hs2.bare.cut (by rfl) hbm, belowV_rep h4 hbr⟩
 rcases he with rfl | rfl <;> exact post

theorem fns_ok {P : Program} {tt : Table} (ht : TT P tt) {f : FuncId} {fn : Func} {body : Code} {args : List V} {mem : List Blk} {r : V} {mem' : List Blk} (n : Nat) (hn : mem.length ≤ n) (hf : P.funcs[f]? = some fn) (hb : fn.body = some body)
  (hcall : ∀ (xs : Array Value) (w : World), (callFunc f xs).run P w = .ok (.enter f xs) w)
  (h : Tri P none mem.length body (startSt fn args mem) fun ex st' => (ex = .ret ∨ ex = .normal) ∧ resOne tt fn.results st' = some r ∧ belowV n r = true ∧ (st'.mem.take n).all (belowB n) = true ∧ mem' = st'.mem.take n) : FnOkS P f args mem r mem' :=
 (fnr_ok ht hf hb hcall (R := fun r' m' => r' = r ∧ m' = mem') (h.mono fun ex st' ⟨h1, h2, h3, h4, h5⟩ => ⟨h1, r, n, hn, h2, h3, h4, rfl, h5.symm⟩)).det

def setPs : List Tmp → List V → List V → List V
 | t :: ts, v :: vs, fr => setPs ts vs (fr.set t v)
 | _, _, fr => fr
theorem setPs_rep {E : Env} : ∀ (ts : List Tmp) {vs : List V} {xs : List Value} {fr : List V} {tmps : Array Value}, RepL E vs xs → RepL E fr tmps.toList → RepL E (setPs ts vs fr) ((ts.zip xs).foldl (fun (tmps : Array Value) (p : Tmp × Value) => tmps.setIfInBounds p.1 p.2) tmps).toList
 | [], vs, xs, fr, tmps, _, h => by cases vs <;> exact h
 | t :: ts, [], xs, fr, tmps, hv, h => by rw [hv.of_nil]; exact h
 | t :: ts, v :: vs, xs, fr, tmps, hv, h => by
  obtain ⟨x, ys, rfl, h1, h2⟩ := hv.of_cons
  simp only [setPs,List.zip_cons_cons,List.foldl_cons]
  exact setPs_rep ts h2 (by simpa using h.set t h1)

def jumpOf : Exit → Option (Option Code)
 | .normal => some none
 | .ret => some (some .ret)
 | .exit id => some (some (.exit id))
 | .goto l => some (some (.goto l))
 | _ => none

theorem yokr_of_body {P : Program} {k : Nat} {fr vs : List V} {params : Array Tmp} {assign body : Code} {mem : List Blk} {R : Bool → List Blk → Prop} (hk : mem[k]? = some (.loop .ready none fr params assign body)) (hlen : vs.length = params.size)
  (h : ∀ l, Tri P (some l) mem.length assign { fr := setPs params.toList vs fr, mem := mem } fun ex st1 => ex = .normal ∧ ∃ fr1 p1 as1 bd1, st1.mem[k]? = some (.loop .ready none fr1 p1 as1 bd1) ∧
   Tri P (some l) mem.length body { st1 with mem := st1.mem.set k (.loop .busy none fr1 p1 as1 bd1) } fun ex st2 => ∃ n jump s2 pe2 fr2 p2 as2 bd2, mem.length ≤ n ∧ jumpOf ex = some jump ∧ st2.mem[k]? = some (.loop s2 pe2 fr2 p2 as2 bd2) ∧
    ((st2.mem.set k (.loop (if jump.isNone then .ready else .done) jump fr2 p2 as2 bd2)).take n).all (belowB n) = true ∧
    R jump.isNone ((st2.mem.set k (.loop (if jump.isNone then .ready else .done) jump fr2 p2 as2 bd2)).take n)) :
  YOkR P k vs mem R := by
 intro E w xs l e c hs hx hb
 obtain ⟨l', fn, tmps, db, hb', hh, hr, hf⟩ := hs.mem k _ hk
 rw [hb] at hb'; cases hb'
 have hget : ∀ {W : World} {R : Loop}, W.heap[l]? = some (.loop R) → (Instr.getLoop l).run P W = .ok R W := fun {W R} hW => by
  simp [Instr.getLoop, getObj, Sem.run, hW, bind, Sem.bind, pure]
 have hset : ∀ {W : World} {R : Loop} {o : Obj}, W.heap[l]? = some (.loop R) → (setObj l o).run P W = .ok () { W with heap := W.heap.setIfInBounds l o } := fun {W R o} hW => by
  simp [setObj, Sem.run, hW]
 have hxl : xs.size = params.size := by have := hx.1; simp at this; omega
 refine ⟨fn, (params.zip xs).foldl (fun tmps (p : Tmp × Value) => tmps.setIfInBounds p.1 p.2) tmps, assign, body, ?_, ?_⟩
 ·simp only [Instr.yield,Sem.run_bind,hget hh,Result.andThen_ok,hxl,ne_eq,not_true_eq_false,if_false]
  rfl
 ·refine roundIn_of_wpIn trivial ?_
  have hs1 : Sim E w { tmps := (params.zip xs).foldl (fun tmps (p : Tmp × Value) => tmps.setIfInBounds p.1 p.2) tmps, defers := [] } { fr := setPs params.toList vs fr, mem := mem } := by
   refine ⟨hs.F, hs.lt, hs.mem, hs.top, hs.ver, hs.apart, ?_⟩
   have := setPs_rep (E := E) params.toList hx hr
   rw [← Array.foldl_toList, Array.toList_zip]
   exact this
  refine wpIn_mono (h l E w hs.top E w _ (Evo.refl E w) hs1 (.nil _ _ _)) ?_
  rintro ex a1 w1 ⟨E1, st1, h1, h2, hm1, rfl, fr1, p1, as1, bd1, hk1, h3⟩
  obtain ⟨l1, fn1, tmps1, db1, hb1, hh1, hr1, hf1⟩ := h1.mem k _ hk1
  have hbl : E1.blk k 0 = some (l, 0, 0) := h2.le.blk _ _ _ hb
  rw [hbl] at hb1; cases hb1
  have only : ∀ (W : World) (o : Obj), OnlyBlk W { W with heap := W.heap.setIfInBounds l o } l := fun W o => ⟨rfl, rfl, rfl, by simp, fun b hb => Array.getElem?_setIfInBounds_ne (fun e => hb e.symm)⟩
  have hlt : ∀ {W : World} {o : Obj}, W.heap[l]? = some o → l < W.heap.size := fun {W o} hW => (Array.getElem?_eq_some_iff.1 hW).1
  have t1 := h1.turn hk1 rfl (B' := .loop .busy none fr1 p1 as1 bd1) rfl hbl hf1 (only w1 (.loop { state := .busy, pending := none, fn := fn1, tmps := tmps1, params := p1, assign := as1, body := bd1, defers := db1 }))
   ⟨l, fn1, tmps1, db1, hbl, by simp [hlt hh1], hr1, hf1⟩
  refine ⟨_, by simp [Instr.beginRound, hget hh1, hset hh1]; rfl, ?_⟩
  refine wpIn_mono (h3 E w hs.top E1 _ a1 (h2.trans t1.2) t1.1 ?_) ?_
  ·exact hm1.evo t1.2
  ·rintro ex a2 w2 ⟨E2, st2, h4, h5, -, n, jump, s2, pe2, fr2, p2, as2, bd2, hmn, hj, hk2, hbm, hR⟩
   obtain ⟨l2, fn2, tmps2, db2, hb2, hh2, hr2, hf2⟩ := h4.mem k _ hk2
   have hbl2 : E2.blk k 0 = some (l, 0, 0) := h5.le.blk _ _ _ hb
   rw [hbl2] at hb2; cases hb2
   have t2 := h4.turn hk2 rfl (B' := .loop (if jump.isNone then .ready else .done) jump fr2 p2 as2 bd2) rfl hbl2 hf2
    (only w2 (.loop { state := if jump.isNone then .ready else .done, pending := jump, fn := fn2, tmps := tmps2, params := p2, assign := as2, body := bd2, defers := db2 })) ⟨l, fn2, tmps2, db2, hbl2, by simp [hlt hh2], hr2, hf2⟩
   have run : (Instr.endRound l jump).run P w2 = .ok (.bool jump.isNone) { w2 with heap := w2.heap.setIfInBounds l (.loop { state := if jump.isNone then .ready else .done, pending := jump, fn := fn2, tmps := tmps2, params := p2, assign := as2, body := bd2, defers := db2 }) } := by
    simp [Instr.endRound, hget hh2, hset hh2]
   have fin : ∃ v w', (Instr.endRound l jump).run P w2 = .ok v w' ∧ ∃ E' b mem', Ending.returned v = .returned (.bool b) ∧ R b mem' ∧ Evo E w E' w' ∧ Sim E' w' { tmps := #[], defers := [] } { fr := [], mem := mem' } :=
    ⟨_, _, run, E2.cut n, _, _, rfl, hR, (h5.trans t2.2).cut (fun k hk v => hs.top k (Nat.le_trans hmn hk) v), t2.1.bare.cut (by rfl) hbm⟩
   cases ex <;> simp only [jumpOf,Option.some.injEq,reduceCtorEq] at hj <;> subst hj <;> exact fin

theorem yok_of_body {P : Program} {k : Nat} {fr vs : List V} {params : Array Tmp} {assign body : Code} {mem mem' : List Blk} {b : Bool} (hk : mem[k]? = some (.loop .ready none fr params assign body)) (hlen : vs.length = params.size)
  (h : ∀ l, Tri P (some l) mem.length assign { fr := setPs params.toList vs fr, mem := mem } fun ex st1 => ex = .normal ∧ st1.mem[k]? = some (.loop .ready none fr params assign body) ∧
   Tri P (some l) mem.length body { st1 with mem := st1.mem.set k (.loop .busy none fr params assign body) } fun ex st2 => ∃ jump, jumpOf ex = some jump ∧ b = jump.isNone ∧ st2.mem[k]? = some (.loop .busy none fr params assign body) ∧
    ((st2.mem.set k (.loop (if jump.isNone then .ready else .done) jump fr params assign body)).take mem.length).all (belowB mem.length) = true ∧
    mem' = (st2.mem.set k (.loop (if jump.isNone then .ready else .done) jump fr params assign body)).take mem.length) :
  YOk P k vs mem b mem' :=
 (yokr_of_body hk hlen (R := fun b' m' => b' = b ∧ m' = mem') fun l => (h l).mono fun ex st1 ⟨h1, h2, h3⟩ => ⟨h1, _, _, _, _, h2, h3.mono fun ex st2 ⟨j, h4, h5, h6, h7, h8⟩ => ⟨_, j, _, _, _, _, _, _, Nat.le_refl _, h4, h6, h7, h5.symm, h8.symm⟩⟩).det

theorem tri_rangeFuncR {P : Program} {n0 : Nat} {st : St} {Q : Exit → St → Prop} {f : Operand} {params : Array Tmp} {assign body : Code} {g : FuncId} {vs : List V} {R : V → List Blk → Prop} (hc : calleeOf (st.eval f) [.yld st.mem.length] = some (g, vs))
  (hfn : FnOkR P g vs (st.mem ++ [.loop .ready none st.fr params assign body]) R)
  (hq : ∀ r mem2, R r mem2 → ∃ s pend fr' ps' as' bd', mem2[st.mem.length]? = some (.loop s pend fr' ps' as' bd') ∧ s ≠ .busy ∧ (match pend with | none => Q .normal { st with mem := mem2.set st.mem.length .dead } | some c => Tri P none n0 c { st with mem := mem2.set st.mem.length .dead } Q)) :
  Tri P none n0 (.rangeFunc f params assign body) st Q := fun E0 w0 h0 E w a he hs hmk => by
 refine wpIn_rangeFunc fun fn _ => ?_
 -- the marks' block, the loop's record
 let w1 : World := w.alloc (.deferred (some []))
 let L : Loop := { state := .ready, pending := none, fn := fn, tmps := a.tmps, params := params, assign := assign, body := body, defers := w.heap.size }
 let w2 : World := w1.alloc (.loop L)
 have hkn : ∀ v, E.blk st.mem.length v = none := hs.top _ (Nat.le_refl _)
 have hle : E.le (E.with st.mem.length 0 (w.heap.size + 1, 0, 0)) := Env.le_with (hkn 0) _
 have hkey : (E.with st.mem.length 0 (w.heap.size + 1, 0, 0)).blk st.mem.length 0 = some (w.heap.size + 1, 0, 0) := if_pos ⟨rfl, rfl⟩
 have hblk : ∀ k v, ¬ (k = st.mem.length ∧ v = 0) → (E.with st.mem.length 0 (w.heap.size + 1, 0, 0)).blk k v = E.blk k v := fun k v h => if_neg h
 have hold : ∀ b, b < w.heap.size → w2.heap[b]? = w.heap[b]? := fun b hb => (Go.RowKit.Below.heap_alloc w1 _ b (by simp [w1]; omega)).trans (Go.RowKit.Below.heap_alloc w _ b hb)
 have hw2 : w2.heap[w.heap.size + 1]? = some (.loop L) := by
  have : w1.heap.size = w.heap.size + 1 := by simp [w1]
  show (w1.alloc (.loop L)).heap[w.heap.size + 1]? = _
  rw [← this]; exact heap_alloc_new w1 _
 have hev : Evo E w (E.with st.mem.length 0 (w.heap.size + 1, 0, 0)) w2 := by
  refine ⟨hle, fun k v g e c hk => ?_, fun ad x hx => .inl hx, rfl, rfl, rfl, by simp [w2, w1]; omega, fun b hb _ => hold b hb⟩
  by_cases hkk : k = st.mem.length ∧ v = 0
  ·obtain ⟨rfl, rfl⟩ := hkk; rw [hkey] at hk; cases hk; exact .inr (by omega)
  ·rw [hblk k v hkk] at hk; exact .inl ⟨_, _, _, _, hk⟩
 have hFn : ∀ o, E.F ⟨w.heap.size + 1, o, none⟩ = none := fun o => by
  cases hx : E.F ⟨w.heap.size + 1, o, none⟩ with
  | none => rfl
  | some x => have := World.block_lt_of_cell? w _ (hs.F _ _ hx); simp at this; omega
 have hs2 : Sim (E.with st.mem.length 0 (w.heap.size + 1, 0, 0)) w2 { tmps := #[], defers := [] } { fr := [], mem := st.mem ++ [.loop .ready none st.fr params assign body] } := by
  have hget : ∀ {k : Nat} {B : Blk}, (st.mem ++ [Blk.loop .ready none st.fr params assign body])[k]? = some B → (k < st.mem.length ∧ st.mem[k]? = some B) ∨ (k = st.mem.length ∧ B = .loop .ready none st.fr params assign body) := fun {k B} h => by
   rw [List.getElem?_append] at h
   split at h
   ·rename_i hlt; exact .inl ⟨hlt, h⟩
   ·have hk0 : k - st.mem.length = 0 := by
     rcases Nat.eq_zero_or_pos (k - st.mem.length) with h0 | h0
     ·exact h0
     ·rw [List.getElem?_eq_none (by simp; omega)] at h; cases h
    rw [hk0] at h; simp at h
    exact .inr ⟨by omega, h.symm⟩
  refine ⟨fun ad x hx => ?_, fun k v g e c hk => ?_, fun k B hk => ?_, fun k hk v => ?_, fun k B hk v hv => ?_, fun k k' v v' g e1 c1 e2 c2 h5 h6 => ?_, .nil _⟩
  ·have hc := hs.F ad x hx
   rw [← hc]; simp [World.cell?, hold _ (World.block_lt_of_cell? w ad hc)]
  ·by_cases hkk : k = st.mem.length ∧ v = 0
   ·obtain ⟨rfl, rfl⟩ := hkk; rw [hkey] at hk; cases hk; simp [w2, w1]
   ·rw [hblk k v hkk] at hk; have := hs.lt _ _ _ _ _ hk; simp [w2, w1]; omega
  ·rcases hget hk with ⟨hlt, hk'⟩ | ⟨rfl, rfl⟩
   ·exact (hs.mem k B hk').mono hle (fun v h => by rw [hblk k v (by omega)]; exact h) (fun g e c h => hold g (hs.lt _ _ _ _ _ h)) fun _ _ _ _ _ h => h
   ·exact ⟨w.heap.size + 1, fn, a.tmps, w.heap.size, hkey, hw2, hs.fr.mono hle, hFn⟩
  ·dsimp only at hk
   simp at hk
   rw [hblk k v (by omega)]; exact hs.top k (by omega) v
  ·rcases hget hk with ⟨hlt, hk'⟩ | ⟨rfl, rfl⟩
   ·rw [hblk k v (by omega)]; exact hs.ver k B hk' v hv
   ·rw [hblk _ v (by simp [Blk.ver] at hv; omega)]; exact hkn v
  ·by_cases hkk : k = st.mem.length ∧ v = 0 <;> by_cases hkk' : k' = st.mem.length ∧ v' = 0
   ·rw [hkk.1, hkk'.1]
   ·obtain ⟨rfl, rfl⟩ := hkk; rw [hkey] at h5; cases h5; rw [hblk k' _ hkk'] at h6; have := hs.lt _ _ _ _ _ h6; omega
   ·obtain ⟨rfl, rfl⟩ := hkk'; rw [hkey] at h6; cases h6; rw [hblk k _ hkk] at h5; have := hs.lt _ _ _ _ _ h5; omega
   ·rw [hblk k _ hkk] at h5; rw [hblk k' _ hkk'] at h6
    exact hs.apart _ _ _ _ _ _ _ _ _ h5 h6
 have hyr : RepL (E.with st.mem.length 0 (w.heap.size + 1, 0, 0)) [.yld st.mem.length] (#[Value.func (.yield (w.heap.size + 1)) #[] #[]] : Array Value).toList := .cons (.yld _ _ _ 0 0 hkey) (.nil _)
 obtain ⟨d, ys, hy, hd1, hd2⟩ := calleeOf_parts (P := P) (w := w2) ((hs.eval f).mono hle) hyr hc
 have hmk2 := hmk.evo hev
 refine ⟨w.heap.size + 1, [{ target := .collected w.heap.size, args := #[] }], w2, d, w2, g, ys, w2, ?_, ?_, fun _ _ => trivial, hd2.trans (hfn.1 ys w2), fun h => by simp [WF] at h, ?_⟩
 ·exact run_enterLoop_outer _ _ _ _ _
 ·refine Eq.trans ?_ hd1
  simp only [rangeCall,resolve]
  simp [Act.eval]
 ·refine callsIn_WF ((hfn.2 _ w2 ys hs2 hy).mono ?_)
  rintro e w3 ⟨E3, x, r, mem2, rfl, hRR, hev3, hs3, -⟩
  obtain ⟨s, pend, fr', ps', as', bd', hm2, hbusy, hcont⟩ := hq r mem2 hRR
  obtain ⟨l3, fn3, tmps3, db3, hb3, hh3, hr3, hf3⟩ := hs3.mem _ _ hm2
  have hbl3 : E3.blk st.mem.length 0 = some (w.heap.size + 1, 0, 0) := hev3.le.blk _ _ _ hkey
  rw [hbl3] at hb3; cases hb3
  have hlt3 : w.heap.size + 1 < w3.heap.size := (Array.getElem?_eq_some_iff.1 hh3).1
  have hsb : (s == LoopState.busy) = false := by cases s <;> first | rfl | exact absurd rfl hbusy
  have hs3a := hs.dress hs3 (Env.le_trans hle hev3.le)
  have t := hs3a.turn hm2 rfl (B' := .dead) rfl hbl3 hf3 (w' := { w3 with heap := w3.heap.setIfInBounds (w.heap.size + 1) (.loop { state := .exhausted, pending := pend, fn := fn3, tmps := tmps3, params := ps', assign := as', body := bd', defers := db3 }) })
   ⟨rfl, rfl, rfl, by simp, fun b hb => Array.getElem?_setIfInBounds_ne (fun e => hb e.symm)⟩ trivial
  have hev4 : Evo E0 w0 E3 _ := (he.trans (hev.trans hev3)).trans t.2
  have hmk4 : Marks E3 { w3 with heap := w3.heap.setIfInBounds (w.heap.size + 1) (.loop { state := .exhausted, pending := pend, fn := fn3, tmps := tmps3, params := ps', assign := as', body := bd', defers := db3 }) } w0.heap.size ({ target := .collected w.heap.size, args := #[] } :: a.defers) := by
   obtain ⟨rs, m1, m2, m3⟩ := (hmk2.evo hev3).evo t.2
   have hd0 : w2.heap[w.heap.size]? = some (.deferred (some [])) := (Go.RowKit.Below.heap_alloc w1 _ _ (by simp [w1])).trans (heap_alloc_new w _)
   have hnk : ∀ k v e c, (E.with st.mem.length 0 (w.heap.size + 1, 0, 0)).blk k v ≠ some (w.heap.size, e, c) := fun k v e c hk => by
    by_cases hkk : k = st.mem.length ∧ v = 0
    ·obtain ⟨rfl, rfl⟩ := hkk; rw [hkey] at hk; simp at hk
    ·rw [hblk k v hkk] at hk; have := hs.lt _ _ _ _ _ hk; omega
   have one : Marks (E.with st.mem.length 0 (w.heap.size + 1, 0, 0)) w2 w0.heap.size [{ target := .collected w.heap.size, args := #[] }] := ⟨[w.heap.size], rfl, by simp, fun r hr => by
    simp at hr; subst hr; exact ⟨he.size, hd0, hnk⟩⟩
   obtain ⟨rs', n1, n2, n3⟩ := (one.evo hev3).evo t.2
   have hrs' : rs' = [w.heap.size] := by
    match rs', n1 with
    | [r], h => simp at h; rw [h]
    | [], h => simp at h
    | _ :: _ :: _, h => simp at h
   subst hrs'
   refine ⟨w.heap.size :: rs, by rw [m1]; rfl, ?_, fun r hr => ?_⟩
   ·rw [List.nodup_cons]
    refine ⟨fun hin => ?_, m2⟩
    -- an elder mark lies below
    obtain ⟨rs0, q1, q2, q3⟩ := hmk
    have hrr : rs = rs0 := by
     have := m1.symm.trans q1
     have inj : ∀ (xs ys : List Nat), xs.map (fun r => ({ target := .collected r, args := #[] } : Deferred)) = ys.map (fun r => { target := .collected r, args := #[] }) → xs = ys := by
      intro xs
      induction xs with
      | nil => intro ys h; cases ys with | nil => rfl | cons y ys => simp at h
      | cons x xs ih => intro ys h; cases ys with | nil => simp at h | cons y ys => simp at h; rw [h.1, ih ys (by simpa using h.2)]
     exact inj _ _ this
    subst hrr
    have := (q3 _ hin).2.1
    rw [Array.getElem?_eq_none (Nat.le_refl _)] at this; cases this
   ·rcases List.mem_cons.1 hr with rfl | hr
    ·exact n3 _ (by simp)
    ·exact m3 r hr
  refine ⟨pend, { w3 with heap := w3.heap.setIfInBounds (w.heap.size + 1) (.loop { state := .exhausted, pending := pend, fn := fn3, tmps := tmps3, params := ps', assign := as', body := bd', defers := db3 }) }, ?_, ?_⟩
  ·have hg : (Instr.getLoop (w.heap.size + 1)).run P w3 = .ok { state := s, pending := pend, fn := fn3, tmps := tmps3, params := ps', assign := as', body := bd', defers := db3 } w3 := by
    simp [Instr.getLoop, getObj, Sem.run, hh3, bind, Sem.bind, pure]
   simp only [Instr.endLoop,Sem.run_bind,hg,Result.andThen_ok,hsb,Bool.false_eq_true,if_false]
   simp [setObj, Sem.run, hh3]
  ·cases pend with
   | none => exact ⟨E3, _, ⟨t.1.F, t.1.lt, t.1.mem, t.1.top, t.1.ver, t.1.apart, t.1.fr⟩, hev4, hmk4, hcont⟩
   | some c => exact hcont E0 w0 h0 E3 _ { a with defers := { target := .collected w.heap.size, args := #[] } :: a.defers } hev4 ⟨t.1.F, t.1.lt, t.1.mem, t.1.top, t.1.ver, t.1.apart, t.1.fr⟩ hmk4
theorem tri_rangeFunc {P : Program} {n0 : Nat} {st : St} {Q : Exit → St → Prop} {f : Operand} {params : Array Tmp} {assign body : Code} {g : FuncId} {vs : List V} {r : V} {mem2 : List Blk} (hc : calleeOf (st.eval f) [.yld st.mem.length] = some (g, vs))
  (hfn : FnOkS P g vs (st.mem ++ [.loop .ready none st.fr params assign body]) r mem2)
  (hq : ∃ s pend fr' ps' as' bd', mem2[st.mem.length]? = some (.loop s pend fr' ps' as' bd') ∧ s ≠ .busy ∧ (match pend with | none => Q .normal { st with mem := mem2.set st.mem.length .dead } | some c => Tri P none n0 c { st with mem := mem2.set st.mem.length .dead } Q)) :
  Tri P none n0 (.rangeFunc f params assign body) st Q :=
 tri_rangeFuncR hc hfn.rel fun r' m' ⟨_, h2⟩ => by subst h2; exact hq
end Go.Eng
end

section
namespace Go.Eng
variable [Glob]
open Go.RowKit (Below)

inductive Cls where
 | n | r | a | w | s | b | z | e
 deriving DecidableEq
structure Pl where
 cls : Cls
 key : Nat
 mask : List Nat
 anc : List Nat := []
 abs : List Nat := []

def mask1 (m : List Blk) (k : Nat) : List Blk := match m[k]? with
 | some B => if B.ver = 0 then m.set k .dead else m
 | none => m
def maskB : List Nat → List Blk → List Blk
 | [], m => m
 | k :: r, m => maskB r (mask1 m k)
def deadIf (b : Bool) (B : Blk) : Blk := if b = true ∧ B.ver = 0 then .dead else B
theorem mask1_get (m : List Blk) (k q : Nat) : (mask1 m k)[q]? = (m[q]?).map (deadIf (q == k)) := by
 unfold mask1
 by_cases hq : q = k
 ·subst hq
  cases h : m[q]? with
  | none => simp [h]
  | some B =>
   have hlt : q < m.length := (List.getElem?_eq_some_iff.1 h).1
   simp only [beq_self_eq_true,Option.map_some,deadIf,true_and]
   split
   ·rename_i hv; simp [List.getElem?_set, hlt]
   ·rename_i hv; exact h
 ·have hb : (q == k) = false := by simpa using hq
  have hid : (m[q]?).map (deadIf (q == k)) = m[q]? := by rw [hb]; cases m[q]? <;> simp [deadIf]
  rw [hid]
  cases h : m[k]? with
  | none => rfl
  | some B =>
   dsimp only
   split
   ·exact List.getElem?_set_ne (fun e => hq e.symm)
   ·rfl
theorem deadIf_deadIf (b c : Bool) (B : Blk) : deadIf b (deadIf c B) = deadIf (b || c) B := by
 have hd : Blk.dead.ver = 0 := rfl
 unfold deadIf
 cases b <;> cases c <;> by_cases hv : B.ver = 0 <;> simp [hv, hd]
theorem maskB_get : ∀ (ks : List Nat) (m : List Blk) (q : Nat), (maskB ks m)[q]? = (m[q]?).map (deadIf (ks.contains q))
 | [], m, q => by cases h : m[q]? <;> simp [maskB, h, deadIf]
 | k :: r, m, q => by
  rw [maskB, maskB_get r, mask1_get]
  cases m[q]? with
  | none => rfl
  | some B =>
   simp only [Option.map_some,deadIf_deadIf,List.contains_cons]
   rw [Bool.or_comm]
theorem maskB_length : ∀ (ks : List Nat) (m : List Blk), (maskB ks m).length = m.length
 | [], m => rfl
 | k :: r, m => by
  rw [maskB, maskB_length r]
  unfold mask1
  split
  ·split <;> simp
  ·rfl
theorem maskB_set {ks : List Nat} {m : List Blk} {k : Nat} {B0 B : Blk} (hk : k ∈ ks) (hm : m[k]? = some B0) (h0 : B0.ver = 0) (hB : B.ver = 0) : maskB ks (m.set k B) = maskB ks m := by
 refine List.ext_getElem? fun q => ?_
 rw [maskB_get, maskB_get]
 by_cases hq : q = k
 ·subst hq
  have hlt : q < m.length := (List.getElem?_eq_some_iff.1 hm).1
  have hc : ks.contains q = true := by simpa using hk
  rw [List.getElem?_set, if_pos rfl, if_pos hlt, hm]
  simp [deadIf, hB, h0, hk]
 ·rw [List.getElem?_set_ne (fun e => hq e.symm)]

theorem Sim.maskB {E : Env} {w : World} {a : Act} {st : St} (hs : Sim E w a st) (ks : List Nat) : Sim E w a { st with mem := Eng.maskB ks st.mem } := by
 have get : ∀ {k : Nat} {B : Blk}, (Eng.maskB ks st.mem)[k]? = some B → ∃ B0 : Blk, st.mem[k]? = some B0 ∧ (B = B0 ∨ B = Blk.dead ∧ B0.ver = 0) := fun {k B} h => by
  rw [maskB_get] at h
  cases h0 : st.mem[k]? with
  | none => rw [h0] at h; cases h
  | some B0 =>
   rw [h0] at h
   simp only [Option.map_some,Option.some.injEq] at h
   refine ⟨B0, rfl, ?_⟩
   unfold deadIf at h
   split at h
   ·rename_i hc; exact .inr ⟨h.symm, hc.2⟩
   ·exact .inl h.symm
 refine ⟨hs.F, hs.lt, fun k B hk => ?_, fun k hk => hs.top k (by simpa [maskB_length] using hk), fun k B hk v hv => ?_, hs.apart, hs.fr⟩
 ·obtain ⟨B0, h0, rfl | ⟨rfl, -⟩⟩ := get hk
  ·exact hs.mem k _ h0
  ·trivial
 ·obtain ⟨B0, h0, rfl | ⟨rfl, h1⟩⟩ := get hk
  ·exact hs.ver k _ h0 v hv
  ·exact hs.ver k _ h0 v (by rw [h1]; exact hv)

/-! ### what one operation makes -/

def PureOk1 (P : Program) (f : FuncId) (vs : List V) (r : V) : Prop := FnOk P f vs r ∨ NatOk P f vs r
def callC (P : Program) (f : FuncId) (vs : List V) (Q : V → Prop) : Prop := ∃ vs' r, purL [] vs = some vs' ∧ PureOk1 P f vs' r ∧ Q r

def val1 (P : Program) (tt : Table) (o : Oper) (st : St) : Option V :=
 match o.op with
 | .build T parts => buildV P tt T parts.toList st.eval
 | .buildSlice T len parts => match litV tt T len parts.toList st.eval with
  | some (_, rs) => some (.slice rs)
  | none => none
 | _ => opV P tt st o
def valQ (P : Program) (tt : Table) (o : Oper) (st : St) (Q : V → Prop) : Prop :=
 match o.op with
 | .call { callee := .value f, args := xs, .. } => match calleeOf (st.eval f) (xs.toList.map st.eval) with
  | some (g, vs) => callC P g vs Q
  | none => False
 | _ => match val1 P tt o st with
  | some v => Q v
  | none => False
def callD (P : Program) (f : FuncId) (vs : List V) (st : St) (dst : Option Tmp) (Q : St → Prop) : Prop := ∃ vs' r, purL [] vs = some vs' ∧ PureOk1 P f vs' r ∧ Q (st.put dst r)
def valD (P : Program) (tt : Table) (o : Oper) (stv st : St) (Q : St → Prop) : Prop :=
 match o.op with
 | .call { callee := .value f, args := xs, .. } => match calleeOf (stv.eval f) (xs.toList.map stv.eval) with
  | some (g, vs) => callD P g vs st o.dst Q
  | none => False
 | _ => match val1 P tt o stv with
  | some v => Q (st.put o.dst v)
  | none => False
theorem valD_eq {P : Program} {tt : Table} {o : Oper} {stv st : St} {Q : St → Prop} : valD P tt o stv st Q = valQ P tt o stv fun v => Q (st.put o.dst v) := by
 unfold valD valQ
 split <;> rfl
def newBlk (tt : Table) (o : Oper) (key : Nat) (st : St) : Option (Blk × V) :=
 match o.op with
 | .alloc T => match tt T with
  | some i => some (.box (i.zero.map V.sc), .ptr key 0)
  | none => none
 | .box _ x => match cellsV (st.eval x) with
  | some cs => some (.box cs, .ptr key 0)
  | none => none
 | .buildSlice T len parts => match litV tt T len parts.toList st.eval with
  | some (size, rs) => some (.rows 0 size rs, .ms key 0 0 len)
  | none => none
 | .makeMap _ none => some (.map [] 0, .mp key)
 | .makeSlice T l c => match makeV tt T (st.eval l) (st.eval c) with
  | some (size, rs, _) => some (.rows 0 size rs, .ms key 0 0 rs.length)
  | none => none
 | _ => none
def wOut (P : Program) (tt : Table) (key : Nat) (o : Oper) (st : St) : Option (List Blk × V) :=
 match o.op with
 | .store T p x => match storeV tt st.mem T (st.eval p) (st.eval x) with
  | some mem' => some (mem', .sc undef)
  | none => none
 | .call { callee := .builtin .append, args := xs, argTypes := ts } => match xs.toList.map st.eval with
  | [s, x] => match appendV tt st.mem ts.toList s x with
   | some (size, old, rows) => some (appOut st.mem key size rows old)
   | none => none
  | _ => none
 | .mapUpdate T m k x => match insertV P st.mem T (st.eval m) (st.eval k) (st.eval x) with
  | some mem' => some (mem', .sc undef)
  | none => none
 | .insert T m k x => match insertV P st.mem T (st.eval m) (st.eval k) (st.eval x) with
  | some mem' => some (mem', .sc undef)
  | none => none
 | _ => none
def sOut (tt : Table) (key : Nat) (o : Oper) (st : St) : Option (List Blk) :=
 match o.op with
 | .store T p x => match st.eval p with
  | .ptr b off => if b = key then storeV tt st.mem T (.ptr key off) (st.eval x) else none
  | _ => none
 | _ => none
def isHole (mem : List Blk) (k : Nat) : Bool := match mem[k]? with | some .hole => true | _ => false
theorem isHole_iff {mem : List Blk} {k : Nat} : isHole mem k = true ↔ mem[k]? = some .hole := by
 unfold isHole
 split
 ·rename_i h; simp [h]
 ·rename_i h; simp; exact fun e => h e

def FnOkL (P : Program) (f : FuncId) (vs : List V) (e : Nat) (rs : List V) : Prop := ∃ v, FnOkS P f vs [] (.ms 0 v 0 rs.length) [.rows v e rs]
def callL (P : Program) (o : Oper) (ev : Operand → V) (Q : Nat → List V → Prop) : Prop :=
 match o.op with
 | .call { callee := .value f, args := xs, .. } => match calleeOf (ev f) (xs.toList.map ev) with
  | some (g, vs) => ∃ vs' e rs, purL [] vs = some vs' ∧ FnOkL P g vs' e rs ∧ Q e rs
  | none => False
 | _ => False
theorem callL_iff {P : Program} {o : Oper} {ev : Operand → V} {Q : Nat → List V → Prop} : callL P o ev Q ↔ ∃ e rs, callL P o ev (fun e' rs' => e' = e ∧ rs' = rs) ∧ Q e rs := by
 unfold callL
 split
 ·split
  ·constructor
   ·rintro ⟨vs', e, rs, h1, h2, h3⟩; exact ⟨e, rs, ⟨vs', e, rs, h1, h2, rfl, rfl⟩, h3⟩
   ·rintro ⟨e, rs, ⟨vs', e', rs', h1, h2, h3, h4⟩, h5⟩; subst h3; subst h4; exact ⟨vs', _, _, h1, h2, h5⟩
  ·exact ⟨fun h => h.elim, fun ⟨_, _, h, _⟩ => h⟩
 ·exact ⟨fun h => h.elim, fun ⟨_, _, h, _⟩ => h⟩
def holeSt (st : St) (key : Nat) (dst : Option Tmp) (e : Nat) (rs : List V) : St := { st with mem := st.mem.set key (.rows 0 e rs) }.put dst (.ms key 0 0 rs.length)
def callH (P : Program) (f : FuncId) (vs : List V) (st : St) (key : Nat) (dst : Option Tmp) (Q : St → Prop) : Prop := ∃ vs' e rs, purL [] vs = some vs' ∧ FnOkL P f vs' e rs ∧ Q (holeSt st key dst e rs)
def callLD (P : Program) (o : Oper) (key : Nat) (st : St) (Q : St → Prop) : Prop :=
 match o.op with
 | .call { callee := .value f, args := xs, .. } => match calleeOf (st.eval f) (xs.toList.map st.eval) with
  | some (g, vs) => callH P g vs st key o.dst Q
  | none => False
 | _ => False
theorem callLD_eq {P : Program} {o : Oper} {key : Nat} {st : St} {Q : St → Prop} : callLD P o key st Q = callL P o st.eval fun e rs => Q (holeSt st key o.dst e rs) := by
 unfold callLD callL
 split <;> rfl
def keepBox : Blk → Blk
 | .box cs => .box cs
 | _ => .dead
def loadB (tt : Table) (o : Oper) (st : St) : Option V :=
 match o.op with
 | .load T x => loadV tt (st.mem.map keepBox) T (st.eval x)
 | _ => none
def isApp (o : Oper) : Bool := match o.op with | .call { callee := .builtin .append, .. } => true | _ => false
def noBox (o : Oper) : Bool := match o.op with | .alloc _ => false | .box _ _ => false | _ => true
theorem loadB_opV {P : Program} {tt : Table} {o : Oper} {st : St} {v : V} (h : loadB tt o st = some v) : opV P tt st o = some v := by
 unfold loadB at h
 split at h
 ·rename_i T x ho
  unfold opV
  rw [ho]
  dsimp only
  unfold loadV at h ⊢
  split
  ·rename_i b off he
   rw [he] at h
   dsimp only at h
   rw [List.getElem?_map] at h
   cases hb : st.mem[b]? with
   | none => rw [hb] at h; simp at h
   | some B =>
    rw [hb] at h
    cases B <;> simp [keepBox] at h <;> exact h
  ·rename_i b ver i off he
   rw [he] at h
   dsimp only at h
   have : rowOf (st.mem.map keepBox) b ver i = none := by
    unfold rowOf
    rw [List.getElem?_map]
    cases hb : st.mem[b]? with
    | none => rfl
    | some B => cases B <;> rfl
   rw [this] at h; cases h
  ·rename_i cs he
   rw [he] at h; exact h
  ·rename_i h1 h2 h3
   split at h
   ·rename_i he; exact absurd he (h1 _ _)
   ·rename_i he; exact absurd he (h2 _ _ _ _)
   ·rename_i he; exact absurd he (h3 _)
   ·cases h
 ·cases h
theorem appendV_old {tt : Table} {mem : List Blk} {ts : List TypeId} {s x : V} {size b ver : Nat} {rows : List V} (h : appendV tt mem ts s x = some (size, some (b, ver), rows)) : ∃ e rs, mem[b]? = some (.rows ver e rs) := by
 have hl : ∀ {sz : Nat} {rs : List V}, liveRows mem sz s = some (some (b, ver), rs) → ∃ e rs, mem[b]? = some (.rows ver e rs) := fun {sz rs} h => by
  unfold liveRows at h
  split at h
  ·cases h
  ·split at h <;> cases h
  ·split at h
   ·rename_i v' e rs' hb
    split at h
    ·rename_i hc
     simp only [Option.some.injEq,Prod.mk.injEq] at h
     obtain ⟨⟨rfl, rfl⟩, rfl⟩ := h
     exact ⟨_, _, by rw [hb, hc.1]⟩
    ·cases h
   ·cases h
  ·cases h
 unfold appendV at h
 split at h
 ·split at h
  ·split at h
   ·split at h
    ·split at h
     ·split at h
      ·split at h
       ·rename_i old rs hlr
        split at h
        ·split at h
         ·split at h
          case isFalse => cases h
          simp only [Option.some.injEq,Prod.mk.injEq] at h
          obtain ⟨-, rfl, -⟩ := h
          exact hl hlr
         ·cases h
        ·cases h
       ·cases h
      ·cases h
     ·cases h
    ·cases h
   ·cases h
  ·cases h
 ·cases h
theorem wOut_app {P : Program} {tt : Table} {key : Nat} {o : Oper} {st : St} {m : List Blk} {v : V} (ha : isApp o = true) (hh : st.mem[key]? = some .hole) (h : wOut P tt key o st = some (m, v)) : m.map keepBox = st.mem.map keepBox := by
 have hset : ∀ (k : Nat) (B0 B : Blk), st.mem[k]? = some B0 → keepBox B = keepBox B0 → (st.mem.set k B).map keepBox = st.mem.map keepBox := fun k B0 B h0 hB => by
  apply List.ext_getElem?
  intro q
  rw [List.getElem?_map, List.getElem?_map, List.getElem?_set]
  split
  ·rename_i hq; subst hq
   rw [if_pos (List.getElem?_eq_some_iff.1 h0).1, h0, Option.map_some, Option.map_some, hB]
  ·rfl
 unfold isApp at ha
 split at ha
 ·rename_i ho
  unfold wOut at h
  rw [ho] at h
  dsimp only at h
  split at h
  ·split at h
   ·rename_i size old rows hap
    simp only [Option.some.injEq] at h
    cases old with
    | none =>
     simp only [appOut,Prod.mk.injEq] at h
     obtain ⟨rfl, -⟩ := h
     unfold setMem
     rw [if_pos (List.getElem?_eq_some_iff.1 hh).1]
     exact hset _ _ _ hh rfl
    | some p =>
     obtain ⟨b, ver⟩ := p
     simp only [appOut,Prod.mk.injEq] at h
     obtain ⟨rfl, -⟩ := h
     have hb : ∃ e rs, st.mem[b]? = some (.rows ver e rs) := by
      exact appendV_old hap
     obtain ⟨e, rs, hb⟩ := hb
     exact hset _ _ _ hb rfl
   ·cases h
  ·cases h
 ·cases ha
def callZ (P : Program) (o : Oper) (st : St) (Q : St → Prop) : Prop :=
 match o.op with
 | .call { callee := .value f, args := xs, .. } => match calleeOf (st.eval f) (xs.toList.map st.eval) with
  | some (g, vs) => ∃ vs' r, purL st.mem vs = some vs' ∧ FnOk P g vs' r ∧ Q ({ st with mem := memAfter st.mem (vs.flatMap ref1) r }.put o.dst r)
  | none => False
 | _ => False
theorem callZ_mono {P : Program} {o : Oper} {st : St} {K K' : St → Prop} (h : callZ P o st K) (hk : ∀ s, K s → K' s) : callZ P o st K' := by
 unfold callZ at h ⊢
 split at h
 ·split at h
  ·obtain ⟨vs', r, h1, h2, h3⟩ := h
   exact ⟨vs', r, h1, h2, hk _ h3⟩
  ·exact h.elim
 ·exact h.elim
def callEE (P : Program) (g : FuncId) (vs : List V) (k : Nat) (st : St) (dst : Option Tmp) (Q : St → Prop) : Prop :=
 ∃ v B0 B, B0.ver = 0 ∧ B.ver = 0 ∧ st.mem[k]? = some B0 ∧ (∀ mem : List Blk, mem[k]? = some B0 → FnOkS P g vs mem v (mem.set k B)) ∧ Q ({ st with mem := st.mem.set k B }.put dst v)
def callE (P : Program) (o : Oper) (k : Nat) (st : St) (Q : St → Prop) : Prop :=
 match o.op with
 | .call { callee := .value f, args := xs, .. } => match calleeOf (st.eval f) (xs.toList.map st.eval) with
  | some (g, vs) => callEE P g vs k st o.dst Q
  | none => False
 | _ => False
def effE (P : Program) (o : Oper) (k : Nat) (st : St) (v : V) (m : List Blk) : Prop :=
 match o.op with
 | .call { callee := .value f, args := xs, .. } => match calleeOf (st.eval f) (xs.toList.map st.eval) with
  | some (g, vs) => ∃ B0 B, B0.ver = 0 ∧ B.ver = 0 ∧ st.mem[k]? = some B0 ∧ (∀ mem : List Blk, mem[k]? = some B0 → FnOkS P g vs mem v (mem.set k B)) ∧ m = st.mem.set k B
  | none => False
 | _ => False
theorem callE_iff {P : Program} {o : Oper} {k : Nat} {st : St} {Q : St → Prop} : callE P o k st Q ↔ ∃ v m, effE P o k st v m ∧ Q ({ st with mem := m }.put o.dst v) := by
 unfold callE effE
 split
 ·split
  ·constructor
   ·rintro ⟨v, B0, B, h1, h2, h3, h4, h5⟩; exact ⟨v, _, ⟨B0, B, h1, h2, h3, h4, rfl⟩, h5⟩
   ·rintro ⟨v, m, ⟨B0, B, h1, h2, h3, h4, rfl⟩, h5⟩; exact ⟨v, B0, B, h1, h2, h3, h4, h5⟩
  ·exact ⟨fun h => h.elim, fun ⟨_, _, h, _⟩ => h.elim⟩
 ·exact ⟨fun h => h.elim, fun ⟨_, _, h, _⟩ => h.elim⟩
theorem effE_congr {P : Program} {o : Oper} {k : Nat} {st st' : St} {v : V} {m : List Blk} (h : ∀ x ∈ o.op.operands, st.eval x = st'.eval x) (hm : st.mem = st'.mem) : effE P o k st v m = effE P o k st' v m := by
 unfold effE
 split
 ·rename_i f xs ts heq
  rw [heq] at h
  have hargs : xs.toList.map st.eval = xs.toList.map st'.eval := List.map_congr_left fun x hx => h x (by simp [Op.operands, Call.operands]; exact .inr (by simpa using hx))
  have hf : st.eval f = st'.eval f := h f (by simp [Op.operands, Call.operands])
  rw [hargs, hf, hm]
 ·rfl
theorem effE_own {P : Program} {o : Oper} {k : Nat} {st : St} {v : V} {m : List Blk} (h : effE P o k st v m) : ∃ B0 B : Blk, B0.ver = 0 ∧ B.ver = 0 ∧ st.mem[k]? = some B0 ∧ m = st.mem.set k B ∧ ∀ mem : List Blk, mem[k]? = some B0 → effE P o k { st with mem := mem } v (mem.set k B) := by
 have ev : ∀ (mem : List Blk), St.eval { st with mem := mem } = st.eval := fun mem => funext fun x => by cases x <;> rfl
 unfold effE at h
 split at h
 ·rename_i f xs ts heq
  split at h
  ·rename_i g vs hg
   obtain ⟨B0, B, h1, h2, h3, h4, h5⟩ := h
   refine ⟨B0, B, h1, h2, h3, h5, fun mem hm => ?_⟩
   unfold effE
   simp only [heq,ev,hg]
   exact ⟨B0, B, h1, h2, hm, h4, rfl⟩
  ·exact h.elim
 ·exact h.elim
def stepM (P : Program) (tt : Table) (all : Array Oper) (base : Nat) (o : Oper) (p : Pl) (st : St) (Q : St → Prop) : Prop :=
 match wantedV all st.fr o with
 | some true => match p.cls with
  | .n => valD P tt o { st with mem := [] } st Q
  | .r => valD P tt o { st with mem := maskB (p.mask.map (base + ·) ++ p.abs) st.mem } st Q
  | .a => isHole st.mem (base + p.key) = true ∧ match newBlk tt o (base + p.key) st with
   | some (B, v) => Q ({ st with mem := st.mem.set (base + p.key) B }.put o.dst v)
   | none => callLD P o (base + p.key) st Q
  | .w => isHole st.mem (base + p.key) = true ∧ match wOut P tt (base + p.key) o st with
   | some (m, v) => Q ({ st with mem := m }.put o.dst v)
   | none => False
  | .s => match sOut tt (base + p.key) o st with
   | some m => Q ({ st with mem := m }.put o.dst (.sc undef))
   | none => False
  | .b => match loadB tt o st with
   | some v => Q (st.put o.dst v)
   | none => False
  | .z => callZ P o st Q
  | .e => callE P o p.key st Q
 | some false => Q (st.put o.dst (.sc undef))
 | none => False

@[congr] theorem valD_congr {P : Program} {tt : Table} {o : Oper} {sv sv' st st' : St} {Q : St → Prop} (hv : sv = sv') (h : st = st') : valD P tt o sv st Q = valD P tt o sv' st' Q := by rw [hv, h]
def Eff (P : Program) (tt : Table) (all : Array Oper) (base : Nat) (o : Oper) (p : Pl) (st : St) (v : V) (m : List Blk) : Prop :=
 match wantedV all st.fr o with
 | some true => match p.cls with
  | .n => valQ P tt o { st with mem := [] } (fun u => u = v) ∧ m = st.mem
  | .r => valQ P tt o { st with mem := maskB (p.mask.map (base + ·) ++ p.abs) st.mem } (fun u => u = v) ∧ m = st.mem
  | .a => isHole st.mem (base + p.key) = true ∧ ∃ B, (newBlk tt o (base + p.key) st = some (B, v) ∨ newBlk tt o (base + p.key) st = none ∧ callL P o st.eval (fun e rs => B = .rows 0 e rs ∧ v = .ms (base + p.key) 0 0 rs.length)) ∧ m = st.mem.set (base + p.key) B
  | .w => isHole st.mem (base + p.key) = true ∧ wOut P tt (base + p.key) o st = some (m, v)
  | .s => v = .sc undef ∧ sOut tt (base + p.key) o st = some m
  | .b => loadB tt o st = some v ∧ m = st.mem
  | .z => False
  | .e => effE P o p.key st v m
 | some false => v = .sc undef ∧ m = st.mem
 | none => False

theorem valQ_iff {P : Program} {tt : Table} {o : Oper} {st : St} {Q : V → Prop} : valQ P tt o st Q ↔ ∃ v, valQ P tt o st (fun u => u = v) ∧ Q v := by
 unfold valQ
 split
 ·split
  ·constructor
   ·rintro ⟨vs', r, h1, h2, h3⟩; exact ⟨r, ⟨vs', r, h1, h2, rfl⟩, h3⟩
   ·rintro ⟨v, ⟨vs', r, h1, h2, rfl⟩, h3⟩; exact ⟨vs', r, h1, h2, h3⟩
  ·exact ⟨fun h => h.elim, fun ⟨_, h, _⟩ => h⟩
 ·split
  ·exact ⟨fun h => ⟨_, rfl, h⟩, fun ⟨_, h, hq⟩ => by subst h; exact hq⟩
  ·exact ⟨fun h => h.elim, fun ⟨_, h, _⟩ => h⟩

theorem stepM_iff {P : Program} {tt : Table} {all : Array Oper} {base : Nat} {o : Oper} {p : Pl} {st : St} {Q : St → Prop} (hz : p.cls ≠ .z) :
  stepM P tt all base o p st Q ↔ ∃ v m, Eff P tt all base o p st v m ∧ Q ({ st with mem := m }.put o.dst v) := by
 unfold stepM Eff
 split
 ·split
  ·rw [valD_eq, valQ_iff]; exact ⟨fun ⟨v, h1, h2⟩ => ⟨v, st.mem, ⟨h1, rfl⟩, h2⟩, fun ⟨v, m, ⟨h1, h2⟩, h3⟩ => ⟨v, h1, by subst h2; exact h3⟩⟩
  ·rw [valD_eq, valQ_iff]; exact ⟨fun ⟨v, h1, h2⟩ => ⟨v, st.mem, ⟨h1, rfl⟩, h2⟩, fun ⟨v, m, ⟨h1, h2⟩, h3⟩ => ⟨v, h1, by subst h2; exact h3⟩⟩
  ·split
   ·rename_i B v hb
    refine ⟨fun ⟨h1, h2⟩ => ⟨v, _, ⟨h1, B, .inl hb, rfl⟩, h2⟩, fun ⟨u, m, ⟨h1, B', h2, h3⟩, h4⟩ => ?_⟩
    rcases h2 with h2 | ⟨h2, -⟩
    ·rw [hb] at h2; cases h2; subst h3; exact ⟨h1, h4⟩
    ·rw [hb] at h2; cases h2
   ·rename_i hb
    rw [callLD_eq]
    constructor
    ·rintro ⟨h1, h2⟩
     obtain ⟨e, rs, h3, h4⟩ := callL_iff.1 h2
     exact ⟨_, _, ⟨h1, .rows 0 e rs, .inr ⟨hb, callL_iff.2 ⟨e, rs, h3, rfl, rfl⟩⟩, rfl⟩, h4⟩
    ·rintro ⟨u, m, ⟨h1, B', h2, h3⟩, h4⟩
     rcases h2 with h2 | ⟨-, h2⟩
     ·rw [hb] at h2; cases h2
     ·obtain ⟨e, rs, h5, h6, h7⟩ := callL_iff.1 h2
      subst h6; subst h7; subst h3
      exact ⟨h1, callL_iff.2 ⟨e, rs, h5, h4⟩⟩
  ·split
   ·rename_i m v hb; exact ⟨fun ⟨h1, h2⟩ => ⟨v, m, ⟨h1, hb⟩, h2⟩, fun ⟨u, m', ⟨h1, h2⟩, h4⟩ => by rw [hb] at h2; cases h2; exact ⟨h1, h4⟩⟩
   ·rename_i hb; exact ⟨fun h => h.2.elim, fun ⟨_, _, ⟨_, h⟩, _⟩ => by rw [hb] at h; cases h⟩
  ·split
   ·rename_i m hb; exact ⟨fun h => ⟨_, m, ⟨rfl, hb⟩, h⟩, fun ⟨u, m', ⟨h1, h2⟩, h4⟩ => by rw [hb] at h2; cases h2; subst h1; exact h4⟩
   ·rename_i hb; exact ⟨fun h => h.elim, fun ⟨_, _, ⟨_, h⟩, _⟩ => by rw [hb] at h; cases h⟩
  ·split
   ·rename_i v hb; exact ⟨fun h => ⟨v, st.mem, ⟨hb, rfl⟩, h⟩, fun ⟨u, m', ⟨h1, h2⟩, h4⟩ => by rw [hb] at h1; cases h1; subst h2; exact h4⟩
   ·rename_i hb; exact ⟨fun h => h.elim, fun ⟨_, _, ⟨h, _⟩, _⟩ => by rw [hb] at h; cases h⟩
  ·rename_i hc; exact absurd hc hz
  ·exact callE_iff
 ·exact ⟨fun h => ⟨_, _, ⟨rfl, rfl⟩, h⟩, fun ⟨v, m, ⟨h1, h2⟩, h3⟩ => by subst h1; subst h2; exact h3⟩
 ·exact ⟨fun h => h.elim, fun ⟨_, _, h, _⟩ => h⟩

/-! ### what an operation looks at -/

theorem map_congr_arr {ρ ρ' : Operand → V} {xs : Array Operand} (h : ∀ x ∈ xs, ρ x = ρ' x) : xs.toList.map ρ = xs.toList.map ρ' :=
 List.map_congr_left fun x hx => h x (by simpa using hx)
theorem fillL_congr {flds : List (Nat × Nat)} {ρ ρ' : Operand → V} : ∀ {ps : List (Nat × Operand)} {cs : List V}, (∀ p ∈ ps, ρ p.2 = ρ' p.2) → fillL flds ρ ps cs = fillL flds ρ' ps cs
 | [], cs, _ => rfl
 | (i, x) :: r, cs, h => by
  simp only [fillL,h (i,x) (by simp)]
  split
  ·split
   ·split
    ·exact fillL_congr fun p hp => h p (by simp [hp])
    ·rfl
   ·rfl
  ·rfl
theorem partVals_congr {ρ ρ' : Operand → V} : ∀ {ps : List (Nat × Operand)}, (∀ p ∈ ps, ρ p.2 = ρ' p.2) → partVals ρ ps = partVals ρ' ps
 | [], _ => rfl
 | (i, x) :: r, h => by
  simp only [partVals,h (i,x) (by simp)]
  rw [partVals_congr fun p hp => h p (by simp [hp])]
theorem buildV_congr {P : Program} {tt : Table} {T : TypeId} {ρ ρ' : Operand → V} {ps : List (Nat × Operand)} (h : ∀ p ∈ ps, ρ p.2 = ρ' p.2) : buildV P tt T ps ρ = buildV P tt T ps ρ' := by
 unfold buildV
 split
 ·rw [fillL_congr h, partVals_congr h]
 ·rfl
theorem litV_congr {tt : Table} {T : TypeId} {len : Nat} {ρ ρ' : Operand → V} {ps : List (Nat × Operand)} (h : ∀ p ∈ ps, ρ p.2 = ρ' p.2) : litV tt T len ps ρ = litV tt T len ps ρ' := by
 unfold litV
 have : (ps.map fun p => ρ p.2) = ps.map fun p => ρ' p.2 := List.map_congr_left h
 rw [this]

theorem opV_congr {P : Program} {tt : Table} {o : Oper} {st st' : St} (h : ∀ x ∈ o.op.operands, st.eval x = st'.eval x) (hm : st.mem = st'.mem) : opV P tt st o = opV P tt st' o := by
 obtain ⟨dst, op, type, pos, after, guard⟩ := o
 cases op <;> simp only [Op.operands] at h <;> try rfl
 case slice T x lo hi mx =>
  cases mx <;> cases lo <;> cases hi <;> try rfl
  all_goals (simp only [opV]; simp_all)
 case makeFunc fn first captured =>
  simp only [opV]
  rw [map_congr_arr (xs := first) fun x hx => h x (by simp [hx]), map_congr_arr (xs := captured) fun x hx => h x (by simp [hx])]
 case call c =>
  obtain ⟨callee, args, ts⟩ := c
  have hargs : args.toList.map st.eval = args.toList.map st'.eval := map_congr_arr fun x hx => h x (by simp [Call.operands, hx])
  cases callee with
  | builtin b => cases b <;> simp only [opV,hargs,hm]
  | _ => rfl
 all_goals (simp only [opV]; simp_all)
theorem val1_congr {P : Program} {tt : Table} {o : Oper} {st st' : St} (h : ∀ x ∈ o.op.operands, st.eval x = st'.eval x) (hm : st.mem = st'.mem) : val1 P tt o st = val1 P tt o st' := by
 have h0 := opV_congr (P := P) (tt := tt) h hm
 obtain ⟨dst, op, type, pos, after, guard⟩ := o
 cases op <;> try exact h0
 case build T ps => exact buildV_congr fun p hp => h p.2 (by simp only [Op.operands]; simpa using ⟨p.1, by simpa using hp⟩)
 case buildSlice T len ps =>
  simp only [val1]
  rw [litV_congr fun p hp => h p.2 (by simp only [Op.operands]; simpa using ⟨p.1, by simpa using hp⟩)]
theorem valQ_congr {P : Program} {tt : Table} {o : Oper} {st st' : St} {Q : V → Prop} (h : ∀ x ∈ o.op.operands, st.eval x = st'.eval x) (hm : st.mem = st'.mem) : valQ P tt o st Q = valQ P tt o st' Q := by
 have h0 := val1_congr (P := P) (tt := tt) h hm
 unfold valQ
 rw [h0]
 split
 ·rename_i f xs ts heq
  rw [heq] at h
  have hargs : xs.toList.map st.eval = xs.toList.map st'.eval := map_congr_arr fun x hx => h x (by simp [Op.operands, Call.operands, hx])
  have hf : st.eval f = st'.eval f := h f (by simp [Op.operands, Call.operands])
  rw [hargs, hf]
 ·rfl
theorem newBlk_congr {tt : Table} {o : Oper} {key : Nat} {st st' : St} (h : ∀ x ∈ o.op.operands, st.eval x = st'.eval x) : newBlk tt o key st = newBlk tt o key st' := by
 obtain ⟨dst, op, type, pos, after, guard⟩ := o
 cases op <;> try rfl
 case makeMap t r => cases r <;> rfl
 case makeSlice t l c => simp only [newBlk]; rw [h l (by simp [Op.operands]), h c (by simp [Op.operands])]
 case box T x => simp only [newBlk]; rw [h x (by simp [Op.operands])]
 case buildSlice T len ps =>
  simp only [newBlk]
  rw [litV_congr fun p hp => h p.2 (by simp only [Op.operands]; simpa using ⟨p.1, by simpa using hp⟩)]
theorem callL_congr {P : Program} {o : Oper} {ρ ρ' : Operand → V} {Q : Nat → List V → Prop} (h : ∀ x ∈ o.op.operands, ρ x = ρ' x) : callL P o ρ Q = callL P o ρ' Q := by
 unfold callL
 split
 ·rename_i f xs ts heq
  rw [heq] at h
  have hargs : xs.toList.map ρ = xs.toList.map ρ' := map_congr_arr fun x hx => h x (by simp [Op.operands, Call.operands, hx])
  have hf : ρ f = ρ' f := h f (by simp [Op.operands, Call.operands])
  rw [hargs, hf]
 ·rfl
theorem wOut_congr {P : Program} {tt : Table} {o : Oper} {key : Nat} {st st' : St} (h : ∀ x ∈ o.op.operands, st.eval x = st'.eval x) (hm : st.mem = st'.mem) : wOut P tt key o st = wOut P tt key o st' := by
 obtain ⟨dst, op, type, pos, after, guard⟩ := o
 cases op <;> try rfl
 case store T p x => simp only [wOut,hm]; rw [h p (by simp [Op.operands]), h x (by simp [Op.operands])]
 case mapUpdate T m k x => simp only [wOut,hm]; rw [h m (by simp [Op.operands]), h k (by simp [Op.operands]), h x (by simp [Op.operands])]
 case insert T m k x => simp only [wOut,hm]; rw [h m (by simp [Op.operands]), h k (by simp [Op.operands]), h x (by simp [Op.operands])]
 case call c =>
  obtain ⟨callee, args, ts⟩ := c
  have hargs : args.toList.map st.eval = args.toList.map st'.eval := map_congr_arr fun x hx => h x (by simp [Op.operands, Call.operands, hx])
  cases callee with
  | builtin b => cases b <;> simp only [wOut,hargs,hm]
  | _ => rfl

theorem sOut_congr {tt : Table} {o : Oper} {key : Nat} {st st' : St} (h : ∀ x ∈ o.op.operands, st.eval x = st'.eval x) (hm : st.mem = st'.mem) : sOut tt key o st = sOut tt key o st' := by
 obtain ⟨dst, op, type, pos, after, guard⟩ := o
 cases op <;> try rfl
 case store T p x => simp only [sOut,hm]; rw [h p (by simp [Op.operands]), h x (by simp [Op.operands])]
theorem sOut_own {tt : Table} {o : Oper} {key : Nat} {st : St} {m : List Blk} (h : sOut tt key o st = some m) :
  ∃ B0 B : Blk, B0.ver = 0 ∧ B.ver = 0 ∧ st.mem[key]? = some B0 ∧ m = st.mem.set key B ∧ ∀ mem : List Blk, mem[key]? = some B0 → sOut tt key o { st with mem := mem } = some (mem.set key B) := by
 have ev : ∀ (mem : List Blk) (x : Operand), St.eval { st with mem := mem } x = st.eval x := fun mem x => by cases x <;> rfl
 unfold sOut at h ⊢
 obtain ⟨dst, op, type, pos, after, guard⟩ := o
 cases op <;> try (cases h)
 case store T p x =>
  simp only [ev]
  dsimp only at h
  split at h
  ·rename_i b off hp
   split at h
   ·rename_i hb
    subst hb
    unfold storeV at h
    split at h
    ·cases h
    ·rename_i new hn
     split at h
     ·rename_i hsz
      dsimp only at h
      split at h
      ·rename_i cs hcs
       split at h
       ·rename_i hle
        cases h
        refine ⟨.box cs, .box (spliceL cs off new), rfl, rfl, hcs, rfl, fun mem hm => ?_⟩
        simp only [hp,if_true]
        unfold storeV
        simp only [hn,hsz,if_true,hm,hle]
       ·cases h
      ·cases h
     ·cases h
   ·cases h
  ·cases h

theorem eval_put {st : St} {dst : Option Tmp} {v : V} {x : Operand} (h : ∀ d, dst = some d → x ≠ .tmp d) : (st.put dst v).eval x = st.eval x := by
 cases dst with
 | none => rfl
 | some d =>
  cases x with
  | tmp t =>
   have hne : d ≠ t := fun e => h d rfl (e ▸ rfl)
   simp [St.eval, St.put, List.getD, List.getElem?_set_ne hne]
  | _ => rfl
theorem put_mem (st : St) (dst : Option Tmp) (v : V) : (st.put dst v).mem = st.mem := by cases dst <;> rfl
theorem looks_operand {all : Array Oper} {o : Oper} {d : Tmp} (h : d ∉ o.looksAt all) : ∀ x ∈ o.op.operands, x ≠ .tmp d := by
 rintro x hx rfl
 exact h (by unfold Oper.looksAt; exact List.mem_append_left _ (List.mem_filterMap.2 ⟨.tmp d, by simpa using hx, rfl⟩))
theorem wantedV_put {all : Array Oper} {o : Oper} {st : St} {dst : Option Tmp} {v : V} (h : ∀ d, dst = some d → d ∉ o.looksAt all) : wantedV all (st.put dst v).fr o = wantedV all st.fr o := by
 cases dst with
 | none => rfl
 | some d =>
  have hd := h d rfl
  unfold wantedV
  split
  ·rfl
  ·rename_i j want hg
   split
   ·rfl
   ·rename_i e he
    have hne : d ≠ e := by
     rintro rfl
     exact hd (by unfold Oper.looksAt; exact List.mem_append_right _ (by rw [hg]; simp only []; rw [he]; simp))
    simp only [St.put,List.getElem?_set_ne hne]

section
variable {P : Program} {tt : Table} {all : Array Oper} {base : Nat}
theorem loadB_congr {o : Oper} {st st' : St} (h : ∀ x ∈ o.op.operands, st.eval x = st'.eval x) (hm : st.mem = st'.mem) : loadB tt o st = loadB tt o st' := by
 unfold loadB
 split
 ·rename_i T x ho
  rw [hm, h x (by rw [ho]; simp [Op.operands])]
 ·rfl
theorem Eff_congr {o : Oper} {p : Pl} {st st' : St} {v : V} {m : List Blk} (hw : wantedV all st.fr o = wantedV all st'.fr o) (h : ∀ x ∈ o.op.operands, st.eval x = st'.eval x) (hm : st.mem = st'.mem) :
  Eff P tt all base o p st v m = Eff P tt all base o p st' v m := by
 have e1 : ∀ (mem : List Blk) (x : Operand), St.eval { st with mem := mem } x = st.eval x := fun mem x => by cases x <;> rfl
 have e2 : ∀ (mem : List Blk) (x : Operand), St.eval { st' with mem := mem } x = st'.eval x := fun mem x => by cases x <;> rfl
 unfold Eff
 rw [hw, newBlk_congr h, wOut_congr h hm, sOut_congr h hm, loadB_congr h hm, effE_congr h hm, hm]
 simp only [callL_congr h]
 rw [valQ_congr (st := { st with mem := [] }) (st' := { st' with mem := [] }) (fun x hx => by rw [e1, e2]; exact h x hx) rfl,
  valQ_congr (st := { st with mem := maskB (p.mask.map (base + ·) ++ p.abs) st'.mem }) (st' := { st' with mem := maskB (p.mask.map (base + ·) ++ p.abs) st'.mem }) (fun x hx => by rw [e1, e2]; exact h x hx) rfl]
theorem Eff_put {o : Oper} {p : Pl} {st : St} {dst : Option Tmp} {u v : V} {m : List Blk} (h : ∀ d, dst = some d → d ∉ o.looksAt all) : Eff P tt all base o p (st.put dst u) v m = Eff P tt all base o p st v m :=
 Eff_congr (wantedV_put h) (fun x hx => eval_put fun d hd => looks_operand (h d hd) x hx) (put_mem _ _ _)

def okPair (all : Array Oper) (x : Oper) (px : Pl) (y : Oper) (py : Pl) : Bool :=
 px.cls != .z && py.cls != .z && x.apart all y && (px.cls == .n || py.cls == .n || (px.cls == .r && py.cls == .r) || ((px.cls == .a || px.cls == .s) && py.cls == .r && py.mask.contains px.key) || (px.cls == .r && (py.cls == .a || py.cls == .s) && px.mask.contains py.key) || ((px.cls == .a || px.cls == .s) && (py.cls == .a || py.cls == .s) && px.key != py.key) || (px.cls == .b && (py.cls == .r || py.cls == .b || (py.cls == .w && isApp y) || (py.cls == .a && noBox y))) || (py.cls == .b && (px.cls == .r || (px.cls == .w && isApp x) || (px.cls == .a && noBox x))) || (px.cls == .e && py.cls == .r && py.abs.contains px.key) || (px.cls == .r && py.cls == .e && px.abs.contains py.key))

theorem newBlk_ver {o : Oper} {key : Nat} {st : St} {B : Blk} {v : V} (h : newBlk tt o key st = some (B, v)) : B.ver = 0 := by
 unfold newBlk at h
 split at h
 ·split at h <;> cases h <;> rfl
 ·split at h <;> cases h <;> rfl
 ·split at h <;> cases h <;> rfl
 ·cases h; rfl
 ·split at h <;> cases h <;> rfl
 ·cases h

theorem Eff_mem_n {o : Oper} {p : Pl} (hp : p.cls = .n) {st : St} {v : V} {m : List Blk} (h : Eff P tt all base o p st v m) (mem : List Blk) : m = st.mem ∧ Eff P tt all base o p { st with mem := mem } v mem := by
 unfold Eff at h ⊢
 dsimp only
 split at h
 ·rename_i hw
  rw [hp] at h
  simp only [hw,hp]
  exact ⟨h.2, h.1, trivial⟩
 ·rename_i hw; simp only [hw]; exact ⟨h.2, h.1, trivial⟩
 ·exact h.elim
theorem Eff_mem_r {o : Oper} {p : Pl} (hp : p.cls = .r) {st : St} {v : V} {m : List Blk} (h : Eff P tt all base o p st v m) {mem : List Blk} (hm : maskB (p.mask.map (base + ·) ++ p.abs) mem = maskB (p.mask.map (base + ·) ++ p.abs) st.mem) :
  m = st.mem ∧ Eff P tt all base o p { st with mem := mem } v mem := by
 unfold Eff at h ⊢
 dsimp only
 split at h
 ·rename_i hw
  rw [hp] at h
  simp only [hw,hp]
  exact ⟨h.2, by rw [hm]; exact h.1, trivial⟩
 ·rename_i hw; simp only [hw]; exact ⟨h.2, h.1, trivial⟩
 ·exact h.elim
theorem Eff_mem_a {o : Oper} {p : Pl} (hp : p.cls = .a ∨ p.cls = .s) {st : St} {v : V} {m : List Blk} (h : Eff P tt all base o p st v m) :
  (m = st.mem ∧ ∀ mem, Eff P tt all base o p { st with mem := mem } v mem) ∨
  ∃ B0 B : Blk, B0.ver = 0 ∧ B.ver = 0 ∧ st.mem[base + p.key]? = some B0 ∧ m = st.mem.set (base + p.key) B ∧ ∀ mem : List Blk, mem[base + p.key]? = some B0 → Eff P tt all base o p { st with mem := mem } v (mem.set (base + p.key) B) := by
 unfold Eff at h
 split at h
 ·rename_i hw
  rcases hp with hp | hp
  ·rw [hp] at h
   obtain ⟨h1, B, h2, h3⟩ := h
   have hver : B.ver = 0 := by
    rcases h2 with h2 | ⟨-, h2⟩
    ·exact newBlk_ver h2
    ·obtain ⟨e, rs, -, h5, -⟩ := callL_iff.1 h2
     rw [h5]; rfl
   refine .inr ⟨.hole, B, rfl, hver, isHole_iff.1 h1, h3, fun mem hm => ?_⟩
   unfold Eff
   simp only [hw,hp]
   refine ⟨isHole_iff.2 hm, B, ?_, rfl⟩
   have e0 : newBlk tt o (base + p.key) { st with mem := mem } = newBlk tt o (base + p.key) st := newBlk_congr fun x _ => by cases x <;> rfl
   rw [e0]
   have e1 : ∀ Q, callL P o (St.eval { st with mem := mem }) Q = callL P o st.eval Q := fun Q => callL_congr fun x _ => by cases x <;> rfl
   rw [e1]
   exact h2
  ·rw [hp] at h
   obtain ⟨h1, h2⟩ := h
   obtain ⟨B0, B, h3, h4, h5, h6, h7⟩ := sOut_own h2
   refine .inr ⟨B0, B, h3, h4, h5, h6, fun mem hm => ?_⟩
   unfold Eff
   simp only [hw,hp]
   exact ⟨h1, h7 mem hm⟩
 ·rename_i hw
  refine .inl ⟨h.2, fun mem => ?_⟩
  unfold Eff
  simp only [hw]
  exact ⟨h.1, trivial⟩
 ·exact h.elim

theorem Eff_mem_e {o : Oper} {p : Pl} (hp : p.cls = .e) {st : St} {v : V} {m : List Blk} (h : Eff P tt all base o p st v m) :
  (m = st.mem ∧ ∀ mem, Eff P tt all base o p { st with mem := mem } v mem) ∨
  ∃ B0 B : Blk, B0.ver = 0 ∧ B.ver = 0 ∧ st.mem[p.key]? = some B0 ∧ m = st.mem.set p.key B ∧ ∀ mem : List Blk, mem[p.key]? = some B0 → Eff P tt all base o p { st with mem := mem } v (mem.set p.key B) := by
 unfold Eff at h
 split at h
 ·rename_i hw
  rw [hp] at h
  obtain ⟨B0, B, h1, h2, h3, h4, h5⟩ := effE_own h
  refine .inr ⟨B0, B, h1, h2, h3, h4, fun mem hm => ?_⟩
  unfold Eff
  simp only [hw,hp]
  exact h5 mem hm
 ·rename_i hw
  refine .inl ⟨h.2, fun mem => ?_⟩
  unfold Eff
  simp only [hw]
  exact ⟨h.1, trivial⟩
 ·exact h.elim

theorem Eff_mem_b {o : Oper} {p : Pl} (hp : p.cls = .b) {st : St} {v : V} {m : List Blk} (h : Eff P tt all base o p st v m) :
  m = st.mem ∧ ∀ mem : List Blk, mem.map keepBox = st.mem.map keepBox → Eff P tt all base o p { st with mem := mem } v mem := by
 unfold Eff at h ⊢
 dsimp only
 split at h
 ·rename_i hw
  rw [hp] at h
  simp only [hw,hp]
  refine ⟨h.2, fun mem hm => ⟨?_, trivial⟩⟩
  have h1 := h.1
  unfold loadB at h1 ⊢
  split at h1
  ·rename_i T x ho
   have e : St.eval { st with mem := mem } x = st.eval x := by cases x <;> rfl
   show loadV tt (mem.map keepBox) T (St.eval { st with mem := mem } x) = some v
   rw [hm, e]; exact h1
  ·cases h1
 ·rename_i hw; simp only [hw]; exact ⟨h.2, fun _ _ => ⟨h.1, trivial⟩⟩
 ·exact h.elim
theorem Eff_mem_w {o : Oper} {p : Pl} (hp : p.cls = .w) (ha : isApp o = true) {st : St} {v : V} {m : List Blk} (h : Eff P tt all base o p st v m) : m.map keepBox = st.mem.map keepBox := by
 unfold Eff at h
 split at h
 ·rw [hp] at h
  exact wOut_app ha (isHole_iff.1 h.1) h.2
 ·rw [h.2]
 ·exact h.elim
theorem Eff_mem_ab {o : Oper} {p : Pl} (hp : p.cls = .a) (ha : noBox o = true) {st : St} {v : V} {m : List Blk} (h : Eff P tt all base o p st v m) : m.map keepBox = st.mem.map keepBox := by
 unfold Eff at h
 split at h
 ·rw [hp] at h
  obtain ⟨h1, B, h2, rfl⟩ := h
  have hB : keepBox B = .dead := by
   rcases h2 with h2 | ⟨-, h2⟩
   ·unfold newBlk at h2
    unfold noBox at ha
    split at h2
    ·rename_i he; rw [he] at ha; cases ha
    ·rename_i he; rw [he] at ha; cases ha
    ·split at h2 <;> cases h2; rfl
    ·cases h2; rfl
    ·split at h2 <;> cases h2; rfl
    ·cases h2
   ·obtain ⟨e, rs, -, h5, -⟩ := callL_iff.1 h2
    rw [h5]; rfl
  have hh := isHole_iff.1 h1
  apply List.ext_getElem?
  intro q
  rw [List.getElem?_map, List.getElem?_map, List.getElem?_set]
  split
  ·rename_i hq; subst hq
   rw [if_pos (List.getElem?_eq_some_iff.1 hh).1, hh, Option.map_some, Option.map_some, hB]; rfl
  ·rfl
 ·rw [h.2]
 ·exact h.elim
theorem St.put_comm (st : St) {x y : Option Tmp} (v u : V) (h : ∀ d, x = some d → y ≠ some d) : (st.put x v).put y u = (st.put y u).put x v := by
 cases x with
 | none => rfl
 | some d =>
  cases y with
  | none => rfl
  | some e =>
   have hne : d ≠ e := fun he => h d rfl (he ▸ rfl)
   simp [St.put, List.set_comm _ _ hne]
theorem put_with (st : St) (x : Option Tmp) (v : V) (m : List Blk) : { st.put x v with mem := m } = St.put { st with mem := m } x v := by cases x <;> rfl

theorem stepM_comm {x y : Oper} {px py : Pl} (hok : okPair all x px y py = true) {st : St} {Q : St → Prop} (h : stepM P tt all base x px st fun st' => stepM P tt all base y py st' Q) :
  stepM P tt all base y py st fun st' => stepM P tt all base x px st' Q := by
 unfold okPair at hok
 rw [Bool.and_eq_true, Bool.and_eq_true, Bool.and_eq_true] at hok
 obtain ⟨⟨⟨hzx, hzy⟩, hap⟩, hcl⟩ := hok
 have hzx : px.cls ≠ .z := by simpa using hzx
 have hzy : py.cls ≠ .z := by simpa using hzy
 obtain ⟨hxy, hdd, hyx⟩ := Oper.apart_spec hap
 obtain ⟨v, m1, h1, h2⟩ := (stepM_iff hzx).1 h
 obtain ⟨u, m2, h3, h4⟩ := (stepM_iff hzy).1 h2
 rw [Eff_put hxy] at h3
 have fin : ∀ m1' , Eff P tt all base y py st u m1' → Eff P tt all base x px { st with mem := m1' } v m2 → stepM P tt all base y py st fun st' => stepM P tt all base x px st' Q := fun m1' h5 h6 => by
  refine (stepM_iff hzy).2 ⟨u, m1', h5, (stepM_iff hzx).2 ⟨v, m2, by rw [Eff_put hyx]; exact h6, ?_⟩⟩
  have e1 : ({ (St.put { st with mem := m1 } x.dst v) with mem := m2 } : St).put y.dst u = ({ (St.put { st with mem := m1' } y.dst u) with mem := m2 } : St).put x.dst v := by
   rw [put_with, put_with]
   exact St.put_comm _ _ _ hdd
  rw [← e1]; exact h4
 have back : ∀ (m : List Blk) (z : Oper) (pz : Pl) (c : V) (m' : List Blk), Eff P tt all base z pz { ({ st with mem := m } : St) with mem := st.mem } c m' = Eff P tt all base z pz st c m' := fun _ _ _ _ _ => rfl
 simp only [Bool.or_eq_true,Bool.and_eq_true,beq_iff_eq,bne_iff_ne] at hcl
 rcases hcl with ((((((((hn | hn) | ⟨hr, hr'⟩) | ⟨⟨ha, hr⟩, hm⟩) | ⟨⟨hr, ha⟩, hm⟩) | ⟨⟨ha, ha'⟩, hne⟩) | ⟨hb, hy⟩) | ⟨hb, hx⟩) | ⟨⟨he, hr⟩, hm⟩) | ⟨⟨hr, he⟩, hm⟩
 ·-- x does not look
  obtain ⟨rfl, -⟩ := Eff_mem_n hn h1 []
  exact fin m2 h3 (Eff_mem_n hn h1 m2).2
 ·-- y does not look
  obtain ⟨h5, h6⟩ := Eff_mem_n hn h3 st.mem
  dsimp only at h5; subst h5
  exact fin st.mem h6 h1
 ·obtain ⟨rfl, -⟩ := Eff_mem_r hr h1 rfl
  obtain ⟨h5, h6⟩ := Eff_mem_r hr' h3 (mem := st.mem) rfl
  dsimp only at h5; subst h5
  exact fin st.mem h6 h1
 ·rcases Eff_mem_a ha h1 with ⟨rfl, -⟩ | ⟨B0, B, hv0, hv, hh, rfl, -⟩
  ·obtain ⟨h5, h6⟩ := Eff_mem_r hr h3 (mem := st.mem) rfl
   dsimp only at h5; subst h5
   exact fin st.mem h6 h1
  ·have hmk : maskB (py.mask.map (base + ·) ++ py.abs) (st.mem.set (base + px.key) B) = maskB (py.mask.map (base + ·) ++ py.abs) st.mem := maskB_set (List.mem_append_left _ (List.mem_map.2 ⟨_, by simpa using hm, rfl⟩)) hh hv0 hv
   obtain ⟨h5, h6⟩ := Eff_mem_r hr h3 (mem := st.mem) hmk.symm
   dsimp only at h5; subst h5
   exact fin st.mem h6 h1
 ·obtain ⟨rfl, -⟩ := Eff_mem_r hr h1 rfl
  rcases Eff_mem_a ha h3 with ⟨h5, h6⟩ | ⟨B0, B, hv0, hv, hh, h5, h6⟩
  ·dsimp only at h5; subst h5
   exact fin st.mem h3 h1
  ·dsimp only at h5 hh; subst h5
   have hmk : maskB (px.mask.map (base + ·) ++ px.abs) (st.mem.set (base + py.key) B) = maskB (px.mask.map (base + ·) ++ px.abs) st.mem := maskB_set (List.mem_append_left _ (List.mem_map.2 ⟨_, by simpa using hm, rfl⟩)) hh hv0 hv
   exact fin _ h3 (Eff_mem_r hr h1 hmk).2
 ·rcases Eff_mem_a ha h1 with ⟨rfl, hx⟩ | ⟨B0, B, hv0, hv, hh, rfl, hx⟩
  ·exact fin m2 h3 (hx m2)
  ·rcases Eff_mem_a ha' h3 with ⟨h5, h6⟩ | ⟨B0', B', hv0', hv', hh', h5, h6⟩
   ·dsimp only at h5; subst h5
    exact fin st.mem (h6 st.mem) h1
   ·dsimp only at h5 hh'; subst h5
    have hne' : base + px.key ≠ base + py.key := by omega
    rw [List.getElem?_set_ne hne'] at hh'
    have h7 := h6 st.mem hh'
    have h8 := hx (st.mem.set (base + py.key) B') (by rw [List.getElem?_set_ne (fun e => hne' e.symm)]; exact hh)
    refine fin _ h7 ?_
    rw [List.set_comm _ _ hne']
    exact h8
 ·obtain ⟨rfl, h5⟩ := Eff_mem_b hb h1
  refine fin m2 h3 (h5 m2 ?_)
  rcases hy with ((hy | hy) | ⟨hy, ha⟩) | ⟨hy, ha⟩
  ·rw [(Eff_mem_r hy h3 rfl).1]
  ·rw [(Eff_mem_b hy h3).1]
  ·exact Eff_mem_w hy ha h3
  ·exact Eff_mem_ab hy ha h3
 ·obtain ⟨h5, h6⟩ := Eff_mem_b hb h3
  dsimp only at h5; subst h5
  refine fin st.mem (h6 st.mem ?_) h1
  rcases hx with (hx | ⟨hx, ha⟩) | ⟨hx, ha⟩
  ·rw [(Eff_mem_r hx h1 rfl).1]
  ·exact (Eff_mem_w hx ha h1).symm
  ·exact (Eff_mem_ab hx ha h1).symm
 ·rcases Eff_mem_e he h1 with ⟨rfl, -⟩ | ⟨B0, B, hv0, hv, hh, rfl, -⟩
  ·obtain ⟨h5, h6⟩ := Eff_mem_r hr h3 (mem := st.mem) rfl
   dsimp only at h5; subst h5
   exact fin st.mem h6 h1
  ·have hmk : maskB (py.mask.map (base + ·) ++ py.abs) (st.mem.set px.key B) = maskB (py.mask.map (base + ·) ++ py.abs) st.mem := maskB_set (List.mem_append_right _ (by simpa using hm)) hh hv0 hv
   obtain ⟨h5, h6⟩ := Eff_mem_r hr h3 (mem := st.mem) hmk.symm
   dsimp only at h5; subst h5
   exact fin st.mem h6 h1
 ·obtain ⟨rfl, -⟩ := Eff_mem_r hr h1 rfl
  rcases Eff_mem_e he h3 with ⟨h5, h6⟩ | ⟨B0, B, hv0, hv, hh, h5, h6⟩
  ·dsimp only at h5; subst h5
   exact fin st.mem h3 h1
  ·dsimp only at h5 hh; subst h5
   have hmk : maskB (px.mask.map (base + ·) ++ px.abs) (st.mem.set py.key B) = maskB (px.mask.map (base + ·) ++ px.abs) st.mem := maskB_set (List.mem_append_right _ (by simpa using hm)) hh hv0 hv
   exact fin _ h3 (Eff_mem_r hr h1 hmk).2
end
end Go.Eng
end

section
namespace Go.Eng
variable [Glob]
open Go.RowKit (Below)

theorem cutAt_nil {mem : List Blk} {size : Nat} {l : Int} {h : Option Int} {x v : V} (hc : cutAt [] size l h x = some v) : cutAt mem size l h x = some v := by
 unfold cutAt at hc ⊢
 split at hc
 ·exact hc
 ·simp [sizeOfBlk] at hc
 ·cases hc
theorem cutV_nil {P : Program} {tt : Table} {mem : List Blk} {T : TypeId} {x v : V} {lo hi : Option V} (hc : cutV P tt [] T x lo hi = some v) : cutV P tt mem T x lo hi = some v := by
 unfold cutV at hc ⊢
 split
 ·exact hc
 ·rename_i hne
  split at hc
  ·exact absurd rfl (hne _)
  ·split at hc
   ·cases hc
   ·split at hc
    ·cases hc
    ·split at hc
     ·split at hc
      ·exact cutAt_nil hc
      ·split at hc
       ·exact cutAt_nil hc
       ·cases hc
     ·split at hc
      ·cases hc
      ·split at hc
       ·exact cutAt_nil hc
       ·split at hc
        ·exact cutAt_nil hc
        ·cases hc
theorem loadV_nil {tt : Table} {mem : List Blk} {T : TypeId} {p v : V} (h : loadV tt [] T p = some v) : loadV tt mem T p = some v := by
 cases p <;> simp [loadV, rowOf] at h ⊢
 exact h
theorem indexV_nil {tt : Table} {mem : List Blk} {T : TypeId} {p i v : V} (h : indexV tt [] T p i = some v) : indexV tt mem T p i = some v := by
 unfold indexV at h ⊢
 split at h
 ·split at h
  ·split at h
   ·cases p <;> simp [indexAt, sizeOfBlk] at h ⊢
    exact h
   ·cases h
  ·cases h
 ·cases h
theorem indexV_ptr {tt : Table} {mem : List Blk} {T : TypeId} {b o : Nat} {i : V} : indexV tt mem T (.ptr b o) i = none := by
 unfold indexV
 split
 ·split
  ·split <;> rfl
  ·rfl
 ·rfl
theorem indexA_nil {P : Program} {tt : Table} {mem : List Blk} {T : TypeId} {p i v : V} (h : (match indexV tt [] T p i with | some v => some v | none => arrAt P tt T p i) = some v) : (match indexV tt mem T p i with | some v => some v | none => arrAt P tt T p i) = some v := by
 split at h
 ·rename_i u hu
  cases h
  rw [indexV_nil hu]
 ·have hp : ∃ b o, p = .ptr b o := by
   unfold arrAt at h
   split at h
   ·exact ⟨_, _, rfl⟩
   ·cases h
  obtain ⟨b, o, rfl⟩ := hp
  rw [indexV_ptr]; exact h
theorem lookupV_nil {P : Program} {mem : List Blk} {T : TypeId} {m i v : V} {ok : Bool} (h : lookupV P [] T m i ok = some v) : lookupV P mem T m i ok = some v := by
 unfold lookupV at h ⊢
 split at h
 ·split at h
  ·split at h
   ·rename_i hk
    rw [if_pos hk]
    unfold lookupIn at h ⊢
    split at h
    ·simp at h
    ·exact h
    ·cases h
   ·cases h
  ·cases h
 ·cases h
theorem curV_nil {mem : List Blk} {it v : V} (h : curV [] it = some v) : curV mem it = some v := by
 unfold curV at h
 split at h
 ·simp at h
 ·cases h
theorem lenV_nil {P : Program} {tt : Table} {mem : List Blk} {ts : Array TypeId} {ty : TypeId} {xs : List V} {v : V} (h : (match lenM [] ts P xs with | some v => some v | none => lenV P tt ts ty xs) = some v) :
  (match lenM mem ts P xs with | some v => some v | none => lenV P tt ts ty xs) = some v := by
 by_cases hx : ∃ b, xs = [.mp b]
 ·obtain ⟨b, rfl⟩ := hx
  simp [lenM, lenV, liftL, allVal, toVal] at h
 ·have hn : ∀ m, lenM m ts P xs = none := fun m => by
   unfold lenM
   split
   ·exact absurd ⟨_, rfl⟩ hx
   ·rfl
  rw [hn] at h ⊢
  exact h
theorem eval_with (st : St) (mem : List Blk) (x : Operand) : St.eval { st with mem := mem } x = st.eval x := by cases x <;> rfl
theorem eval_with' (st : St) (mem : List Blk) : St.eval { st with mem := mem } = st.eval := funext fun x => eval_with st mem x
theorem convV_nil {P : Program} {mem : List Blk} {s d : TypeId} {x v : V} (h : convV P [] s d x = some v) : convV P mem s d x = some v := by
 cases x <;> first | exact h | (simp [convV] at h)
theorem opV_nil {P : Program} {tt : Table} {st : St} {o : Oper} {v : V} (h : opV P tt { st with mem := [] } o = some v) : opV P tt st o = some v := by
 obtain ⟨dst, op, type, pos, after, guard⟩ := o
 cases op
 case load T x => simp only [opV,eval_with'] at h ⊢; exact loadV_nil h
 case indexAddr T x i => simp only [opV,eval_with'] at h ⊢; exact indexA_nil h
 case entry it => simp only [opV,eval_with'] at h ⊢; exact curV_nil h
 case convert s d x => simp only [opV,eval_with'] at h ⊢; exact convV_nil h
 case lookup T x i ok => simp only [opV,eval_with'] at h ⊢; exact lookupV_nil h
 case slice T x lo hi mx =>
  cases mx
  ·simp only [opV,eval_with'] at h ⊢; exact cutV_nil h
  ·cases lo <;> cases hi <;> simp only [opV,eval_with',reduceCtorEq] at h ⊢
   exact h
 case call c =>
  obtain ⟨callee, args, ts⟩ := c
  cases callee with
  | builtin b => cases b <;> first | (simp only [opV,eval_with'] at h ⊢; exact h) | (simp only [opV,eval_with'] at h ⊢; exact lenV_nil h) | (simp [opV] at h)
  | _ => simp [opV] at h
 all_goals first | (simp only [opV,eval_with'] at h ⊢; exact h) | (simp [opV] at h)

theorem purCell_nil {mem : List Blk} {v v' : V} (h : purCell [] v = some v') : purCell mem v = some v' ∧ refCell v = [] := by
 unfold purCell at h
 split at h
 ·exact ⟨h, rfl⟩
 ·exact ⟨h, rfl⟩
 ·exact ⟨h, rfl⟩
 ·exact ⟨h, rfl⟩
 ·exact ⟨h, rfl⟩
 ·exact ⟨h, rfl⟩
 ·simp at h
 ·exact ⟨h, rfl⟩
 ·cases h
theorem purCells_nil {mem : List Blk} : ∀ {vs vs' : List V}, purCells [] vs = some vs' → purCells mem vs = some vs' ∧ vs.flatMap refCell = []
 | [], vs', h => ⟨h, rfl⟩
 | c :: r, vs', h => by
  simp only [purCells] at h ⊢
  split at h
  ·rename_i c' hc
   split at h
   ·rename_i r' hr
    obtain ⟨h1, h2⟩ := purCell_nil (mem := mem) hc
    obtain ⟨h3, h4⟩ := purCells_nil (mem := mem) hr
    rw [h1, h3]
    exact ⟨h, by simp [List.flatMap_cons, h2, h4]⟩
   ·cases h
  ·cases h
theorem pur1_nil {mem : List Blk} {v v' : V} (h : pur1 [] v = some v') : pur1 mem v = some v' ∧ ref1 v = [] := by
 unfold pur1 at h
 split at h
 ·rename_i cs
  split at h
  ·rename_i l hl
   obtain ⟨h1, h2⟩ := purCells_nil (mem := mem) hl
   exact ⟨by simp only [pur1,h1]; exact h, h2⟩
  ·cases h
 ·rename_i hne
  obtain ⟨h1, h2⟩ := purCell_nil (mem := mem) h
  exact ⟨by cases v <;> first | exact h1 | exact absurd rfl (hne _), by cases v <;> first | exact h2 | exact absurd rfl (hne _)⟩
theorem purL_nil {mem : List Blk} : ∀ {vs vs' : List V}, purL [] vs = some vs' → purL mem vs = some vs' ∧ vs.flatMap ref1 = []
 | [], vs', h => ⟨h, rfl⟩
 | c :: r, vs', h => by
  simp only [purL] at h ⊢
  split at h
  ·rename_i c' hc
   split at h
   ·rename_i r' hr
    obtain ⟨h1, h2⟩ := pur1_nil (mem := mem) hc
    obtain ⟨h3, h4⟩ := purL_nil (mem := mem) hr
    rw [h1, h3]
    exact ⟨h, by simp [List.flatMap_cons, h2, h4]⟩
   ·cases h
  ·cases h
theorem purCell_nil_rep {v v' : V} (h : purCell [] v = some v') {E : Env} {x : Value} (hr : Rep E v x) : Rep E v' x := by
 unfold purCell at h
 split at h
 ·cases h; exact hr
 ·cases h; exact nilS_rep hr
 ·cases h; exact hr
 ·cases h; cases hr with | full _ _ _ h => exact h
 ·cases h; exact hr
 ·cases h; exact hr
 ·simp at h
 ·cases h
  cases hr with
  | clo _ f _ _ xs ys hx hy h1 h2 =>
   have e1 : xs = #[] := by simpa using hx.symm
   have e2 : ys = #[] := by simpa using hy.symm
   subst e1; subst e2; exact .sc _ _
 ·cases h
theorem purCells_nil_rep {E : Env} : ∀ {vs vs' : List V} {xs : List Value}, purCells [] vs = some vs' → RepL E vs xs → RepL E vs' xs
 | [], vs', xs, h, hr => by cases h; exact hr
 | c :: r, vs', xs, h, hr => by
  obtain ⟨x, ys, rfl, h1, h2⟩ := hr.of_cons
  simp only [purCells] at h
  split at h
  ·rename_i c' hc
   split at h
   ·rename_i r' hr'
    cases h
    exact .cons (purCell_nil_rep hc h1) (purCells_nil_rep hr' h2)
   ·cases h
  ·cases h
theorem pur1_nil_rep {v v' : V} (h : pur1 [] v = some v') {E : Env} {x : Value} (hr : Rep E v x) : Rep E v' x := by
 unfold pur1 at h
 split at h
 ·rename_i cs
  split at h
  ·rename_i l hl
   cases h
   cases hr with
   | agg _ _ xs hlen hh =>
    have := purCells_nil_rep hl (E := E) (xs := xs.toList) ⟨by simpa using hlen, fun i c x hc hx => hh i c x hc (by simpa using hx)⟩
    exact .agg _ _ _ (by simpa using this.1) fun i c x hc hx => this.2 i c x hc (by simpa using hx)
  ·cases h
 ·exact purCell_nil_rep h hr
theorem purL_nil_rep {E : Env} : ∀ {vs vs' : List V} {xs : List Value}, purL [] vs = some vs' → RepL E vs xs → RepL E vs' xs
 | [], vs', xs, h, hr => by cases h; exact hr
 | c :: r, vs', xs, h, hr => by
  obtain ⟨x, ys, rfl, h1, h2⟩ := hr.of_cons
  simp only [purL] at h
  split at h
  ·rename_i c' hc
   split at h
   ·rename_i r' hr'
    cases h
    exact .cons (pur1_nil_rep hc h1) (purL_nil_rep hr' h2)
   ·cases h
  ·cases h
theorem memAfter_nil (mem : List Blk) (r : V) : memAfter mem [] r = mem := by unfold memAfter; split <;> rfl

theorem FnOkL.hole {P : Program} {f : FuncId} {vs vs' : List V} {e : Nat} {rs : List V} (hp : purL [] vs = some vs') (h : FnOkL P f vs' e rs) {mem : List Blk} {key : Nat} (hkey : mem[key]? = some .hole) :
  FnOkS P f vs mem (.ms key 0 0 rs.length) (mem.set key (.rows 0 e rs)) := by
 obtain ⟨v0, h⟩ := h
 refine ⟨h.1, fun E w xs hs hx => ?_⟩
 obtain ⟨hp', hk⟩ := purL_nil (mem := mem) hp
 have h1 := purL_sound hs (keys := []) hx hp' (by rw [hk]; simp)
 have hE : (E.opn w []).pure = ⟨E.F, fun _ _ => none, E.gl⟩ := by
  refine Env.ext2 (funext fun ad => ?_) rfl
  simp only [Env.pure,Env.opn]
  cases hh : E.F ad <;> simp
 rw [hE] at h1
 have hkl : key < mem.length := (List.getElem?_eq_some_iff.1 hkey).1
 have hkn : ∀ v, E.blk key v = none := hs.mem key _ hkey
 have hs1 : Sim ⟨E.F, fun _ _ => none, E.gl⟩ w { tmps := #[], defers := [] } { fr := [], mem := [] } :=
  ⟨hs.F, (fun k v g e c h => by cases h), (fun k B h => by simp at h), (fun k _ v => rfl), (fun k B h => by simp at h), (fun k k' v v' g e c e' c' h => by cases h), .nil _⟩
 refine (h.2 _ w xs hs1 h1).mono ?_
 rintro en w' ⟨E', x, rfl, hev, hs', hr⟩
 have hnew : ∀ k v g e c, E'.blk k v = some (g, e, c) → w.heap.size ≤ g := fun k v g e c hb => by
  rcases hev.blk _ _ _ _ _ hb with ⟨_, _, _, _, h⟩ | h
  ·cases h
  ·exact h
 have hold : ∀ b, b < w.heap.size → w'.heap[b]? = w.heap[b]? := fun b hb => hev.heap b hb fun _ _ _ _ h => by cases h
 have hFo : ∀ ad y, E'.F ad = some y → E.F ad = some y ∨ w.heap.size ≤ ad.block := fun ad y hy => by
  rcases hev.F _ _ hy with h | h | ⟨_, _, _, _, h⟩
  ·exact .inl h
  ·exact .inr h
  ·cases h
 have hat : (⟨E'.F, fun k v => if k = key then (if v = 0 then E'.blk 0 v0 else none) else E.blk k v, E'.gl⟩ : Env).blk key 0 = E'.blk 0 v0 := by simp
 have hat1 : ∀ v, v ≠ 0 → (⟨E'.F, fun k v => if k = key then (if v = 0 then E'.blk 0 v0 else none) else E.blk k v, E'.gl⟩ : Env).blk key v = none := fun v hv => by simp [hv]
 have hlo : ∀ k v, k ≠ key → (⟨E'.F, fun k v => if k = key then (if v = 0 then E'.blk 0 v0 else none) else E.blk k v, E'.gl⟩ : Env).blk k v = E.blk k v := fun k v hk => if_neg hk
 generalize hE2 : (⟨E'.F, fun k v => if k = key then (if v = 0 then E'.blk 0 v0 else none) else E.blk k v, E'.gl⟩ : Env) = E2 at hat hat1 hlo
 have hF2 : E2.F = E'.F := by rw [← hE2]
 have hpure : E2.pure = E'.pure := Env.ext2 hF2 rfl
 have hkey2 : ∀ v t, E2.blk key v = some t → v = 0 ∧ E'.blk 0 v0 = some t := fun v t ht => by
  by_cases hv : v = 0
  ·subst hv; exact ⟨rfl, hat ▸ ht⟩
  ·rw [hat1 v hv] at ht; cases ht
 have hle : E.le E2 := ⟨fun ad y hy => by rw [hF2]; exact hev.le.F _ _ hy, fun k v t hk => by
  by_cases hkk : k = key
  ·subst hkk; rw [hkn v] at hk; cases hk
  ·rw [hlo k v hkk]; exact hk⟩
 refine ⟨E2, x, rfl, ⟨hle, fun k v g e c hk => ?_, fun ad y hy => ?_, hev.os, hev.tape, hev.output, hev.size, fun b hb _ => hold b hb⟩, ⟨fun ad y hy => hs'.F _ _ (by rw [← hF2]; exact hy), fun k v g e c hk => ?_, fun k B hk => ?_, fun k hk v => ?_, fun k B hk v hv => ?_, fun k k' v v' g e1 c1 e2 c2 h5 h6 => ?_, .nil _⟩, ?_⟩
 ·by_cases hkk : k = key
  ·subst hkk; obtain ⟨-, h⟩ := hkey2 _ _ hk; exact .inr (hnew _ _ _ _ _ h)
  ·rw [hlo k v hkk] at hk; exact .inl ⟨k, v, e, c, hk⟩
 ·rw [hF2] at hy
  rcases hFo ad y hy with h | h
  ·exact .inl h
  ·exact .inr (.inl h)
 ·by_cases hkk : k = key
  ·subst hkk; obtain ⟨-, h⟩ := hkey2 _ _ hk; exact hs'.lt _ _ _ _ _ h
  ·rw [hlo k v hkk] at hk; have := hs.lt _ _ _ _ _ hk; have := hev.size; omega
 ·rw [List.getElem?_set] at hk
  by_cases hkk : key = k
  ·subst hkk
   simp only [if_true,hkl] at hk
   cases hk
   have h0 := hs'.mem 0 _ rfl
   rcases h0 with ⟨h1, h2⟩ | ⟨g, T, ys, c, h1, h2, h3, h4, h5, h6⟩
   ·exact .inl ⟨h1, by rw [hat]; exact h2⟩
   ·exact .inr ⟨g, T, ys, c, by rw [hat]; exact h1, h2, h3, h4, by rw [hpure]; exact h5, fun o => by rw [hF2]; exact h6 o⟩
  ·rw [if_neg hkk] at hk
   refine (hs.mem k B hk).mono hle (fun v hv => by rw [hlo k v (fun e => hkk e.symm)]; exact hv) (fun g e c hb => hold g (hs.lt _ _ _ _ _ hb)) fun g e c o hb hn => ?_
   rw [hF2]
   cases hy : E'.F ⟨g, o, none⟩ with
   | none => rfl
   | some y =>
    rcases hFo _ y hy with h | h
    ·rw [hn] at h; cases h
    ·have := hs.lt _ _ _ _ _ hb; simp at h; omega
 ·dsimp only at hk
  rw [List.length_set] at hk
  rw [hlo k v (by omega)]; exact hs.top k (by dsimp only; omega) v
 ·rw [List.getElem?_set] at hk
  by_cases hkk : key = k
  ·subst hkk
   simp only [if_true,hkl] at hk
   cases hk
   exact hat1 v (by simp [Blk.ver] at hv; omega)
  ·rw [if_neg hkk] at hk
   rw [hlo k v (fun e => hkk e.symm)]; exact hs.ver k B hk v hv
 ·by_cases hk1 : k = key <;> by_cases hk2 : k' = key
  ·rw [hk1, hk2]
  ·subst hk1
   obtain ⟨-, h⟩ := hkey2 _ _ h5
   rw [hlo k' _ hk2] at h6
   have := hs.lt _ _ _ _ _ h6; have := hnew _ _ _ _ _ h; omega
  ·subst hk2
   obtain ⟨-, h⟩ := hkey2 _ _ h6
   rw [hlo k _ hk1] at h5
   have := hs.lt _ _ _ _ _ h5; have := hnew _ _ _ _ _ h; omega
  ·rw [hlo k _ hk1] at h5; rw [hlo k' _ hk2] at h6
   exact hs.apart _ _ _ _ _ _ _ _ _ h5 h6
 ·rcases ms_inv hr with ⟨h0, rfl⟩ | ⟨g, e, c, aa, cap, rfl, hb, hl, h0, hc⟩
  ·rw [h0]; exact .msnil _ _ _ _
  ·exact .ms _ _ _ _ _ g e c _ _ (by rw [hat]; exact hb) hl h0 hc

theorem Sim.newSlice {E : Env} {w : World} {a : Act} {st : St} (hs : Sim E w a st) {xs : Array Value} {rs : List V} {e c : Nat} (T : TypeId) (hl : rs.length ≤ c) (hr : RowsOk E.pure e rs (fun o => xs[o]?)) :
  ∃ E', Sim E' (w.alloc (.cells xs T (0, 0))) a st ∧ Evo E w E' (w.alloc (.cells xs T (0, 0))) ∧ Rep E' (.slice rs) (.slice (some ⟨w.heap.size, 0, none⟩) rs.length c) := by
 have hcell : ∀ o, (w.alloc (.cells xs T (0, 0))).cell? ⟨w.heap.size, o, none⟩ = xs[o]? := fun o => cell_at (heap_alloc_new w _) o
 have hle : E.le ⟨fun ad => match E.F ad with | some x => some x | none => if ad.block = w.heap.size ∧ ad.spot = none then xs[ad.off]? else none, E.blk, E.gl.mono fun ad x h => by simp only [h]⟩ := ⟨fun ad x h => by dsimp only; rw [h], fun _ _ _ h => h⟩
 refine ⟨⟨fun ad => match E.F ad with | some x => some x | none => if ad.block = w.heap.size ∧ ad.spot = none then xs[ad.off]? else none, E.blk, E.gl.mono fun ad x h => by simp only [h]⟩, ⟨fun ad x hx => ?_, fun k v g e c h => ?_, fun k B hB => ?_, hs.top, hs.ver, hs.apart, hs.fr.mono hle⟩, ⟨hle, fun k v g e c h => .inl ⟨k, v, e, c, h⟩, fun ad x hx => ?_, rfl, rfl, rfl, by simp, fun b hb _ => Go.RowKit.Below.heap_alloc w _ b hb⟩, ?_⟩
 ·dsimp only at hx
  split at hx
  ·rename_i y hy; cases hx
   rw [World.cell?_alloc_lt w _ ad (World.block_lt_of_cell? w ad (hs.F ad _ hy))]; exact hs.F ad _ hy
  ·split at hx
   ·rename_i hc
    obtain ⟨b, o, el⟩ := ad
    obtain ⟨rfl, rfl⟩ := hc
    rw [hcell]; exact hx
   ·cases hx
 ·have := hs.lt _ _ _ _ _ h; simp; omega
 ·refine (hs.mem k B hB).mono hle (fun v h => h) (fun g e' c' hb => Go.RowKit.Below.heap_alloc w _ g (hs.lt _ _ _ _ _ hb)) fun g e c o hb hn => ?_
  dsimp only
  rw [hn]
  have := hs.lt _ _ _ _ _ hb
  simp; intro h; omega
 ·dsimp only at hx
  split at hx
  ·rename_i y hy; cases hx; exact .inl hy
  ·split at hx
   ·rename_i hc; exact .inr (.inl (by rw [hc.1]; exact Nat.le_refl _))
   ·cases hx
 ·have hn : ∀ o, E.F ⟨w.heap.size, o, none⟩ = none := fun o => by
   cases hx : E.F ⟨w.heap.size, o, none⟩ with
   | none => rfl
   | some x => have := World.block_lt_of_cell? w _ (hs.F _ _ hx); simp at this
  refine .slice _ rs _ c e ⟨w.heap.size, 0, none⟩ (fun i j => (xs[i * e + j]?).getD undef) (fun _ => rfl) hl (fun i row hi => (hr i row hi).1) (fun i row j cc hi hj => ?_) (fun i row j cc hi hj => ?_) fun i row j cc hi hj => ?_
  ·obtain ⟨x, hx, h1, h2⟩ := (hr i row hi).2 j cc hj
   rw [add_lit, Nat.zero_add]
   simp only [hn,true_and,if_true,and_self]
   dsimp only at hx; rw [hx]; rfl
  ·obtain ⟨x, hx, h1, h2⟩ := (hr i row hi).2 j cc hj
   dsimp only at hx ⊢; rw [hx]; exact h1
  ·obtain ⟨x, hx, h1, h2⟩ := (hr i row hi).2 j cc hj
   dsimp only at hx ⊢; rw [hx]; exact h2.mono (Env.le_pure hle)

section
variable {P : Program} {tt : Table} (ht : TT P tt)
include ht
theorem valQ_sound {E : Env} {w : World} {a : Act} {st : St} (hs : Sim E w a st) {o : Oper} {mem : List Blk} {Q : V → Prop} {R : St → Prop} (h : valQ P tt o { st with mem := mem } Q) (hQ : ∀ v, Q v → R (st.put o.dst v))
  (hop : ∀ v, opV P tt { st with mem := mem } o = some v → ∃ x, (execOp a.eval o).run P w = .ok (.value x) w ∧ Rep E v x)
  {ρ : Option Nat} {n : Nat} {next : Act → World → Prop} {Q' : Exit → Act → World → Prop} (hn : ∀ v w', After E w a o.dst R v w' → next (a.put o.dst v) w') : o.wpIn (WF ρ) n P a w next Q' := by
 obtain ⟨dst, op, type, pos, after, guard⟩ := o
 have gen : ∀ (hnd : ∀ c, op ≠ .defer c), (∀ f xs ts, op ≠ .call { callee := .value f, args := xs, argTypes := ts }) → (∀ T ps, op ≠ .build T ps) → (∀ T l ps, op ≠ .buildSlice T l ps) → Oper.wpIn (WF ρ) n P { dst := dst, op := op, type := type, pos := pos, after := after, guard := guard } a w next Q' := by
  intro hnd h1 h2 h3
  have hv : ∃ v, opV P tt { st with mem := mem } { dst := dst, op := op, type := type, pos := pos, after := after, guard := guard } = some v ∧ Q v := by
   unfold valQ at h
   split at h
   ·rename_i heq; exact absurd heq (h1 _ _ _)
   ·unfold val1 at h
    dsimp only at h
    split at h
    ·rename_i v hv
     split at hv
     ·exact absurd rfl (h2 _ _)
     ·exact absurd rfl (h3 _ _ _)
     ·exact ⟨v, hv, h⟩
    ·exact h.elim
  obtain ⟨v, hv, hq⟩ := hv
  obtain ⟨x, h4, h5⟩ := hop v hv
  exact upon_value' hnd h4 (hn _ _ ⟨E, _, hs.put dst h5, Evo.refl E w, hQ _ hq⟩)
 cases op
 case defer c => simp [valQ, val1, opV] at h
 case build T ps =>
  simp only [valQ,val1,eval_with'] at h
  split at h
  ·rename_i v hv
   obtain ⟨x, h1, h2⟩ := buildV_sound ht hs hv
   exact upon_value' (by simp) (wrap_value h1) (hn _ _ ⟨E, _, hs.put dst h2, Evo.refl E w, hQ _ h⟩)
  ·exact h.elim
 case buildSlice T len ps =>
  simp only [valQ,val1,eval_with'] at h
  split at h
  ·rename_i v hv
   split at hv
   ·rename_i size rs hl
    cases hv
    obtain ⟨Z, e, h1, h2, h3, h4⟩ := lit_run ht (fun p _ => hs.eval p.2) hl
    obtain ⟨E', h5, h6, h7⟩ := hs.newSlice (xs := Z) (rs := rs) (c := len) e (by omega) h4
    rw [h3] at h7
    exact upon_value' (by simp) (wrap_value' h1) (hn _ _ ⟨E', _, h5.put dst h7, h6, hQ _ h⟩)
   ·cases hv
  ·exact h.elim
 case call c =>
  obtain ⟨callee, args, ts⟩ := c
  cases callee with
  | value f =>
   simp only [valQ,eval_with'] at h
   split at h
   ·rename_i g vs hg
    obtain ⟨vs', r, h1, h2, h3⟩ := h
    obtain ⟨h4, h5⟩ := purL_nil (mem := st.mem) h1
    obtain ⟨ys, h6, h7⟩ := calleeOf_sound (P := P) (w := w) (hs.eval f) (hs.evals args) hg
    have hc : callP P g vs st dst R := by
     rcases h2 with h2 | h2
     ·exact .inl ⟨vs', r, h4, h2, by rw [h5, memAfter_nil]; exact hQ _ h3⟩
     ·refine .inr (.inr (.inr ⟨r, fun E1 w1 xs1 hF1 hx1 => ?_, hQ _ h3⟩))
      obtain ⟨x, g1, g2⟩ := h2 E1 w1 xs1 hF1 (purL_nil_rep h1 hx1)
      exact ⟨x, g1, g2⟩
    rcases callP_sound hs hc h6 with ⟨h8, h9⟩ | ⟨v, h8, h9⟩
    ·refine upon_enter' (by simp) (f := g) (xs := ys) ?_ h9 fun e w' ⟨v, hv, ha⟩ => ⟨v, hv, hn _ _ ha⟩
     rw [← h8, ← h7]
     simp only [execOp,resolve]
    ·refine upon_value' (by simp) (v := v) ?_ (hn _ _ h9)
     rw [← h8, ← h7]
     simp only [execOp,resolve]
   ·exact h.elim
  | _ => exact gen (by simp) (by simp) (by simp) (by simp)
 all_goals exact gen (by simp) (by simp) (by simp) (by simp)

omit ht in
theorem hole_lt {mem : List Blk} {k : Nat} (h : mem[k]? = some .hole) (B : Blk) : setMem mem k B = mem.set k B := by
 unfold setMem; rw [if_pos (List.getElem?_eq_some_iff.1 h).1]

theorem stepM_sound {all : Array Oper} {base : Nat} {E : Env} {w : World} {a : Act} {st : St} (hs : Sim E w a st) {i : Nat} {o : Oper} {p : Pl} {Q : St → Prop} (hi : all[i]? = some o) (h : stepM P tt all base o p st Q)
  {ρ : Option Nat} {n : Nat} {next : Act → World → Prop} {Q' : Exit → Act → World → Prop} (hn : ∀ v w', After E w a o.dst Q v w' → next (a.put o.dst v) w') : wpOpIn (WF ρ) n P all Q' i next a w := by
 unfold wpOpIn
 rw [hi]
 dsimp only
 unfold stepM at h
 split at h
 ·rename_i hw
  rw [if_pos (wantedV_sound hs hw)]
  split at h
  ·rw [valD_eq] at h; exact valQ_sound ht hs h (fun _ h => h) (fun v hv => opV_sound ht hs (opV_nil hv)) hn
  ·rw [valD_eq] at h; exact valQ_sound ht hs h (fun _ h => h) (fun v hv => opV_sound ht (hs.maskB _) hv) hn
  ·obtain ⟨hh, h⟩ := h
   rw [isHole_iff] at hh
   split at h
   ·rename_i B v hb
    refine stepOp_sound ht hs (key := base + p.key) (.inl hh) ?_ hn
    unfold newBlk at hb
    unfold stepOp
    split at hb
    ·rename_i T heq
     rw [heq]
     dsimp only
     split at hb
     ·rename_i i hi; cases hb; rw [hi]; dsimp only; rw [hole_lt hh]; exact h
     ·cases hb
    ·rename_i heq
     rw [heq]
     dsimp only
     split at hb
     ·rename_i i hi; cases hb; rw [hi]; dsimp only; rw [hole_lt hh]; exact h
     ·cases hb
    ·rename_i heq
     rw [heq]
     dsimp only
     split at hb
     ·rename_i i hi; cases hb; rw [hi]; dsimp only; rw [hole_lt hh]; exact h
     ·cases hb
    ·rename_i heq
     rw [heq]
     dsimp only
     cases hb; rw [hole_lt hh]; exact h
    ·rename_i heq
     rw [heq]
     dsimp only
     split at hb
     ·rename_i i hi; cases hb; rw [hi]; dsimp only; rw [hole_lt hh]; exact h
     ·cases hb
    ·cases hb
   ·rw [callLD_eq] at h
    unfold callL at h
    split at h
    ·rename_i f xs ts heq
     split at h
     ·rename_i g vs hg
      obtain ⟨vs', e, rs, h1, h2, h3⟩ := h
      refine stepOp_sound ht hs (key := base + p.key) (.inl hh) ?_ hn
      unfold stepOp
      rw [heq]
      dsimp only
      split
      ·rename_i k hk; rw [hk] at hg; simp [calleeOf] at hg
      ·rw [hg]
       exact .inr (.inl ⟨_, _, h2.hole h1 hh, h3⟩)
     ·exact h.elim
    ·exact h.elim
  ·obtain ⟨hh, h⟩ := h
   rw [isHole_iff] at hh
   split at h
   ·rename_i m v hb
    refine stepOp_sound ht hs (key := base + p.key) (.inl hh) ?_ hn
    unfold wOut at hb
    unfold stepOp
    split at hb
    ·rename_i heq
     rw [heq]
     dsimp only
     split at hb
     ·rename_i i hi; cases hb; rw [hi]; exact h
     ·cases hb
    ·rename_i xs ts heq
     rw [heq]
     dsimp only
     split at hb
     ·rename_i s x hsx
      rw [hsx]
      dsimp only
      split at hb
      ·rename_i size old rows ha
       rw [ha]
       simp only [Option.some.injEq] at hb
       dsimp only
       rw [hb]; exact h
      ·cases hb
     ·cases hb
    ·rename_i heq
     rw [heq]
     dsimp only
     split at hb
     ·rename_i i hi; cases hb; rw [hi]; exact h
     ·cases hb
    ·rename_i heq
     rw [heq]
     dsimp only
     split at hb
     ·rename_i i hi; cases hb; rw [hi]; exact h
     ·cases hb
    ·cases hb
   ·exact h.elim
  ·split at h
   ·rename_i m hb
    refine stepOp_sound ht hs (key := st.mem.length) (.inr rfl) ?_ hn
    unfold sOut at hb
    unfold stepOp
    split at hb
    ·rename_i heq
     rw [heq]
     dsimp only
     split at hb
     ·rename_i b off hp
      split at hb
      ·rename_i hk
       subst hk
       rw [hp, hb]; exact h
      ·cases hb
     ·cases hb
    ·cases hb
   ·exact h.elim
  ·split at h
   ·rename_i v hb
    refine stepOp_sound ht hs (key := st.mem.length) (.inr rfl) ?_ hn
    have ho := loadB_opV (P := P) hb
    unfold loadB at hb
    unfold stepOp
    split at hb
    ·rename_i heq
     rw [heq]
     dsimp only
     rw [ho]; exact h
    ·cases hb
   ·exact h.elim
  ·refine stepOp_sound ht hs (key := st.mem.length) (.inr rfl) ?_ hn
   unfold callZ at h
   unfold stepOp
   split at h
   ·rename_i f xs ts heq
    split at h
    ·rename_i g vs hg
     obtain ⟨vs', r, h1, h2, h3⟩ := h
     rw [heq]
     dsimp only
     split
     ·rename_i k hk; rw [hk] at hg; simp [calleeOf] at hg
     ·rw [hg]
      exact .inl ⟨vs', r, h1, h2, h3⟩
    ·exact h.elim
   ·exact h.elim
  ·refine stepOp_sound ht hs (key := st.mem.length) (.inr rfl) ?_ hn
   unfold callE at h
   unfold stepOp
   split at h
   ·rename_i f xs ts heq
    split at h
    ·rename_i g vs hg
     obtain ⟨v, B0, B, -, -, h1, h2, h3⟩ := h
     rw [heq]
     dsimp only
     split
     ·rename_i k hk; rw [hk] at hg; simp [calleeOf] at hg
     ·rw [hg]
      exact .inr (.inl ⟨_, _, h2 _ h1, h3⟩)
    ·exact h.elim
   ·exact h.elim
 ·rename_i hw
  rw [if_neg (by rw [wantedV_sound hs hw]; simp)]
  exact ⟨fun _ _ => trivial, hn _ _ ⟨E, _, hs.put o.dst (.sc _ _), Evo.refl E w, h⟩⟩
 ·exact h.elim
end
end Go.Eng
end

section
namespace Go.Eng
variable [Glob]

def pl0 : Pl := ⟨.n, 0, [], [], []⟩
def waitsFor (o : Oper) (k : Nat) : Bool := o.after.any fun e => Region.binds .any e && e.on == k
def pairsFor (all : Array Oper) (y : Oper) (py : Pl) : Nat → List Oper → List Pl → Bool
 | _, [], _ => true
 | k, x :: r, px => (waitsFor y k || py.anc.contains k || okPair all x (px.headD pl0) y py) && pairsFor all y py (k + 1) r px.tail
def downOk (o : Oper) (i : Nat) : Bool := o.after.all fun e => !Region.binds .any e || decide (e.on < i)
def plAt (plan : List Pl) (i : Nat) : Pl := (plan[i]?).getD pl0
def ancOk (plan : List Pl) (y : Oper) (py : Pl) : Bool := py.anc.all fun k => waitsFor y k || y.after.any fun e => Region.binds .any e && (plAt plan e.on).anc.contains k
def mixFrom (all : Array Oper) (plan : List Pl) : Nat → List Oper → List Pl → Bool
 | _, [], _ => true
 | i, y :: r, py => downOk y i && ancOk plan y (py.headD pl0) && pairsFor all y (py.headD pl0) 0 (all.toList.take i) plan && mixFrom all plan (i + 1) r py.tail
def mixOk (all : Array Oper) (plan : List Pl) : Bool := mixFrom all plan 0 all.toList plan

theorem headD_drop {α : Type} (l : List α) (i : Nat) (d : α) : (l.drop i).headD d = (l[i]?).getD d := by
 rw [List.headD_eq_head?_getD, List.head?_drop]

theorem pairsFor_get {all : Array Oper} {y : Oper} {py : Pl} {plan : List Pl} : ∀ {l : List Oper} {n : Nat}, pairsFor all y py n l (plan.drop n) = true → ∀ k x, l[k]? = some x → (waitsFor y (n + k) = true ∨ (n + k) ∈ py.anc) ∨ okPair all x (plAt plan (n + k)) y py = true
 | [], n, _, k, x, h => by simp at h
 | z :: r, n, h, k, x, hk => by
  simp only [pairsFor,Bool.and_eq_true,Bool.or_eq_true,headD_drop] at h
  cases k with
  | zero => simp at hk; subst hk; simpa [plAt] using h.1
  | succ k =>
   have h2 := h.2
   rw [List.tail_drop] at h2
   have := pairsFor_get h2 k x (by simpa using hk)
   rw [Nat.add_assoc, Nat.add_comm 1 k] at this
   exact this
theorem mixFrom_get {all : Array Oper} {plan : List Pl} : ∀ {l : List Oper} {n : Nat}, mixFrom all plan n l (plan.drop n) = true → ∀ k y, l[k]? = some y → (downOk y (n + k) = true ∧ ancOk plan y (plAt plan (n + k)) = true) ∧ pairsFor all y (plAt plan (n + k)) 0 (all.toList.take (n + k)) plan = true
 | [], n, _, k, x, h => by simp at h
 | z :: r, n, h, k, x, hk => by
  simp only [mixFrom,Bool.and_eq_true,headD_drop] at h
  cases k with
  | zero => simp at hk; subst hk; exact h.1
  | succ k =>
   have h2 := h.2
   rw [List.tail_drop] at h2
   have := mixFrom_get h2 k x (by simpa using hk)
   rw [Nat.add_assoc, Nat.add_comm 1 k] at this
   exact this
theorem mixOk_get {all : Array Oper} {plan : List Pl} (h : mixOk all plan = true) {i : Nat} {y : Oper} (hi : all[i]? = some y) :
  (∀ e ∈ y.after, Region.binds .any e = true → e.on < i) ∧ (∀ k ∈ (plAt plan i).anc, waitsFor y k = true ∨ ∃ e ∈ y.after, Region.binds .any e = true ∧ k ∈ (plAt plan e.on).anc) ∧ ∀ k x, k < i → all[k]? = some x → (waitsFor y k = true ∨ k ∈ (plAt plan i).anc) ∨ okPair all x (plAt plan k) y (plAt plan i) = true := by
 have := mixFrom_get (n := 0) h i y (by simpa using hi)
 rw [Nat.zero_add] at this
 obtain ⟨⟨h1, h3⟩, h2⟩ := this
 refine ⟨fun e he hb => ?_, fun k hk => ?_, fun k x hk hx => ?_⟩
 ·unfold downOk at h1
  have := Array.all_eq_true_iff_forall_mem.1 h1 e he
  simpa [hb] using this
 ·unfold ancOk at h3
  have := List.all_eq_true.1 h3 k hk
  rw [Bool.or_eq_true] at this
  refine this.imp id fun h => ?_
  rw [Array.any_eq_true'] at h
  obtain ⟨e, he, h⟩ := h
  rw [Bool.and_eq_true] at h
  exact ⟨e, he, h.1, by simpa using h.2⟩
 ·have := pairsFor_get (n := 0) h2 k x (by rw [List.getElem?_take_of_lt hk]; simpa using hx)
  rwa [Nat.zero_add] at this

section
variable {P : Program} {tt : Table} {all : Array Oper} {plan : List Pl} {base : Nat}
def runI (P : Program) (tt : Table) (all : Array Oper) (plan : List Pl) (base : Nat) : List Nat → St → (St → Prop) → Prop
 | [], st, K => K st
 | i :: r, st, K => match all[i]? with
  | some o => stepM P tt all base o (plAt plan i) st fun st' => runI P tt all plan base r st' K
  | none => False
theorem stepM_mono {o : Oper} {p : Pl} {st : St} {K K' : St → Prop} (h : ∀ s, K s → K' s) (hh : stepM P tt all base o p st K) : stepM P tt all base o p st K' := by
 by_cases hz : p.cls = .z
 ·unfold stepM at hh ⊢
  split at hh
  ·rw [hz] at hh ⊢
   exact callZ_mono hh h
  ·exact h _ hh
  ·exact hh.elim
 ·obtain ⟨v, m, h1, h2⟩ := (stepM_iff hz).1 hh
  exact (stepM_iff hz).2 ⟨v, m, h1, h _ h2⟩
theorem runI_front {i : Nat} {o : Oper} (hi : all[i]? = some o) {K : St → Prop} {σ2 : List Nat} : ∀ {σ1 : List Nat} {st : St}, (∀ k ∈ σ1, ∀ x, all[k]? = some x → okPair all x (plAt plan k) o (plAt plan i) = true) →
  runI P tt all plan base (σ1 ++ i :: σ2) st K → stepM P tt all base o (plAt plan i) st fun st' => runI P tt all plan base (σ1 ++ σ2) st' K
 | [], st, _, h => by simpa [runI, hi] using h
 | k :: r, st, hp, h => by
  simp only [List.cons_append,runI] at h ⊢
  cases hk : all[k]? with
  | none => rw [hk] at h; exact h.elim
  | some x =>
   rw [hk] at h
   dsimp only at h ⊢
   exact stepM_comm (hp k (by simp) x hk) (stepM_mono (fun s hs => runI_front hi (fun k' hk' => hp k' (by simp [hk'])) hs) h)

theorem waits_listed {y : Oper} {k : Nat} {listed : Array Bool} (h : waitsFor y k = true) (hl : ∀ e ∈ y.after, Region.binds .any e = true → listed.getD e.on false = true) : listed.getD k false = true := by
 unfold waitsFor at h
 rw [Array.any_eq_true'] at h
 obtain ⟨e, he, h⟩ := h
 rw [Bool.and_eq_true, beq_iff_eq] at h
 rw [← h.2]; exact hl e he h.1

def Closed (all : Array Oper) (listed : Array Bool) : Prop := ∀ (i : Nat) (o : Oper), listed.getD i false = true → all[i]? = some o → ∀ e ∈ o.after, Region.binds .any e = true → listed.getD e.on false = true
theorem anc_listed (hok : mixOk all plan = true) {listed : Array Bool} (hc : Closed all listed) (hsz : listed.size = all.size) : ∀ (i : Nat) (y : Oper), all[i]? = some y → (∀ e ∈ y.after, Region.binds .any e = true → listed.getD e.on false = true) → ∀ k ∈ (plAt plan i).anc, listed.getD k false = true := by
 intro i
 induction i using Nat.strongRecOn with
 | _ i ih =>
  intro y hy hl k hk
  rcases (mixOk_get hok hy).2.1 k hk with h | ⟨e, he, hb, h⟩
  ·exact waits_listed h hl
  ·have h1 := hl e he hb
   have hlt : e.on < all.size := by
    have : e.on < i := (mixOk_get hok hy).1 e he hb
    have := (Array.getElem?_eq_some_iff.1 hy).1
    omega
   have hz := Array.getElem?_eq_getElem hlt
   exact ih e.on ((mixOk_get hok hy).1 e he hb) _ hz (hc e.on _ h1 hz) k h

theorem mixed_sound (ht : TT P tt) (hok : mixOk all plan = true) {ρ : Option Nat} {n : Nat} {K : St → Prop} {Q' : Exit → Act → World → Prop} : ∀ (fuel : Nat) (listed : Array Bool) (σ : List Nat), listed.size = all.size → Closed all listed → σ.length ≤ fuel → σ.Pairwise (· < ·) → (∀ i, i ∈ σ ↔ listed[i]? = some false) →
  ∀ {E : Env} {w : World} {a : Act} {st : St}, Sim E w a st → runI P tt all plan base σ st K → (∀ a' w', a'.defers = a.defers → (∃ E' st', Sim E' w' a' st' ∧ Evo E w E' w' ∧ K st') → Q' .normal a' w') → wpAnyIn (WF ρ) n P .any all Q' fuel listed a w := by
 intro fuel
 have done : ∀ (listed : Array Bool) (σ : List Nat), listed.size = all.size → σ.Pairwise (· < ·) → (∀ i, i ∈ σ ↔ listed[i]? = some false) → Region.ready .any all listed = [] → σ = [] := by
  intro listed σ hsz hsort hmem hr
  cases σ with
  | nil => rfl
  | cons i r =>
   exfalso
   have hif := (hmem i).1 (by simp)
   have hlt : i < all.size := by rw [← hsz]; exact (Array.getElem?_eq_some_iff.1 hif).1
   have : i ∈ Region.ready .any all listed := by
    refine mem_ready.2 ⟨by simp [Array.getD_eq_getD_getElem?, hif], all[i], Array.getElem?_eq_getElem hlt, fun e he hb => ?_⟩
    have hlt' := (mixOk_get hok (Array.getElem?_eq_getElem hlt)).1 e he hb
    have hs : e.on < listed.size := by omega
    cases hv : listed[e.on] with
    | true => simp [Array.getD_eq_getD_getElem?, Array.getElem?_eq_getElem hs, hv]
    | false =>
     have : e.on ∈ i :: r := (hmem e.on).2 (by rw [Array.getElem?_eq_getElem hs, hv])
     rcases List.mem_cons.1 this with h | h
     ·omega
     ·have := List.rel_of_pairwise_cons hsort h; omega
   rw [hr] at this; cases this
 induction fuel with
 | zero =>
  intro listed σ hsz hcl hlen hsort hmem E w a st hs h hq
  have hσ : σ = [] := List.length_eq_zero_iff.1 (by omega)
  subst hσ
  refine ⟨?_, hq _ _ rfl ⟨E, st, hs, Evo.refl E w, h⟩⟩
  cases hr : Region.ready .any all listed with
  | nil => rfl
  | cons j l =>
   have hj : j ∈ Region.ready .any all listed := by rw [hr]; simp
   obtain ⟨h0, o, ho, -⟩ := mem_ready.1 hj
   have hlt : j < listed.size := by rw [hsz]; exact (Array.getElem?_eq_some_iff.1 ho).1
   have : j ∈ ([] : List Nat) := (hmem j).2 (by
    rw [Array.getElem?_eq_getElem hlt]; congr 1
    simpa [Array.getD_eq_getD_getElem?, Array.getElem?_eq_getElem hlt] using h0)
   cases this
 | succ fuel ih =>
  intro listed σ hsz hcl hlen hsort hmem E w a st hs h hq
  refine ⟨fun hr => ?_, fun i hi => ?_⟩
  ·have := done listed σ hsz hsort hmem hr
   subst this
   exact hq _ _ rfl ⟨E, st, hs, Evo.refl E w, h⟩
  ·obtain ⟨h0, o, ho, hpre⟩ := mem_ready.1 hi
   have hlt : i < listed.size := by rw [hsz]; exact (Array.getElem?_eq_some_iff.1 ho).1
   have hif : listed[i]? = some false := by
    rw [Array.getElem?_eq_getElem hlt]; congr 1
    simpa [Array.getD_eq_getD_getElem?, Array.getElem?_eq_getElem hlt] using h0
   obtain ⟨σ1, σ2, rfl⟩ := List.append_of_mem ((hmem i).2 hif)
   rw [List.pairwise_append] at hsort
   obtain ⟨hs1, hs2, hs12⟩ := hsort
   rw [List.pairwise_cons] at hs2
   have hstep := runI_front ho (σ1 := σ1) (fun k hk x hx => by
    have hki : k < i := hs12 k hk i (by simp)
    rcases (mixOk_get hok ho).2.2 k x hki hx with hw | hw
    ·exfalso
     have h1 := hw.elim (fun hw => waits_listed hw hpre) fun hw => anc_listed hok hcl hsz i o ho hpre k hw
     have h2 := (hmem k).1 (by simp [hk])
     rw [Array.getD_eq_getD_getElem?, h2] at h1
     cases h1
    ·exact hw) h
   refine stepM_sound ht hs ho hstep ?_
   rintro v w' ⟨E', st', h1, h2, h3⟩
   refine ih (listed.setIfInBounds i true) (σ1 ++ σ2) (by simpa using hsz) ?_ ?_ ?_ ?_ h1 h3 fun a' w'' hd ⟨E'', st'', h4, h5, h6⟩ => hq _ _ (hd.trans (put_defers _ _ _)) ⟨E'', st'', h4, h2.trans h5, h6⟩
   ·intro j z hj hz e he hb
    by_cases hji : j = i
    ·subst hji
     rw [ho] at hz; cases hz
     exact getD_set_true (hpre e he hb)
    ·rw [getD_set_ne false (fun e => hji e.symm)] at hj
     exact getD_set_true (hcl j z hj hz e he hb)
   ·simp at hlen ⊢; omega
   ·rw [List.pairwise_append]
    exact ⟨hs1, hs2.2, fun x hx y hy => hs12 x hx y (by simp [hy])⟩
   ·intro j
    rw [Array.getElem?_setIfInBounds]
    by_cases hji : i = j
    ·subst hji
     rw [if_pos rfl]
     constructor
     ·intro hj
      rcases List.mem_append.1 hj with h | h
      ·have := hs12 i h i (by simp); omega
      ·have := hs2.1 i h; omega
     ·split
      ·intro h; cases h
      ·intro h; cases h
    ·rw [if_neg hji, ← hmem j]
     simp only [List.mem_append,List.mem_cons]
     constructor
     ·rintro (h | h)
      ·exact .inl h
      ·exact .inr (.inr h)
     ·rintro (h | h | h)
      ·exact .inl h
      ·exact absurd h.symm hji
      ·exact .inr h

def runM (P : Program) (tt : Table) (all : Array Oper) (base : Nat) : List Oper → List Pl → St → (St → Prop) → Prop
 | [], _, st, K => K st
 | o :: r, p :: ps, st, K => stepM P tt all base o p st fun st' => runM P tt all base r ps st' K
 | _ :: _, [], _, _ => False
@[congr] theorem runM_congr {base base' : Nat} {l : List Oper} {ps : List Pl} {st st' : St} {K : St → Prop} (hb : base = base') (h : st = st') : runM P tt all base l ps st K = runM P tt all base' l ps st' K := by rw [hb, h]
theorem runM_I {K : St → Prop} : ∀ {l : List Oper} {n : Nat} {st : St}, (∀ k x, l[k]? = some x → all[n + k]? = some x) → runM P tt all base l (plan.drop n) st K → runI P tt all plan base (List.range' n l.length) st K
 | [], n, st, _, h => h
 | o :: r, n, st, hall, h => by
  have ho : all[n]? = some o := hall 0 o rfl
  rw [List.length_cons, List.range'_succ, runI, ho]
  dsimp only
  cases hd : plan.drop n with
  | nil => rw [hd] at h; exact h.elim
  | cons p ps =>
   rw [hd] at h
   have hp : plAt plan n = p := by rw [plAt, ← headD_drop, hd]; rfl
   have htl : ps = plan.drop (n + 1) := by rw [← List.tail_drop, hd]; rfl
   rw [hp]
   subst htl
   exact stepM_mono (fun s hs => runM_I (fun k x hk => by have := hall (k + 1) x (by simpa using hk); rwa [show n + (k + 1) = n + 1 + k by omega] at this) hs) h

theorem Sim.holes {E : Env} {w : World} {a : Act} {st : St} (hs : Sim E w a st) (m : Nat) : Sim E w a { st with mem := st.mem ++ List.replicate m .hole } := by
 have get : ∀ {k : Nat} {B : Blk}, (st.mem ++ List.replicate m .hole)[k]? = some B → st.mem[k]? = some B ∨ (B = Blk.hole ∧ st.mem.length ≤ k) := fun {k B} h => by
  rcases Nat.lt_or_ge k st.mem.length with hk | hk
  ·rw [List.getElem?_append_left hk] at h; exact .inl h
  ·rw [List.getElem?_append_right hk, List.getElem?_replicate] at h
   split at h
   ·cases h; exact .inr ⟨rfl, hk⟩
   ·cases h
 refine ⟨hs.F, hs.lt, fun k B hk => ?_, fun k hk => hs.top k (by simp at hk; omega), fun k B hk v hv => ?_, hs.apart, hs.fr⟩
 ·rcases get hk with h | ⟨rfl, hkk⟩
  ·exact hs.mem k B h
  ·exact fun v => hs.top k hkk v
 ·rcases get hk with h | ⟨rfl, hkk⟩
  ·exact hs.ver k B h v hv
  ·exact hs.top k hkk v

theorem tri_mixed (ht : TT P tt) (hm : P.follows .mixedOrders = true) {ρ : Option Nat} {n0 : Nat} {st : St} {Q : Exit → St → Prop} (plan : List Pl) (m : Nat) {id : Nat} {ops : Array Oper} (hok : mixOk ops plan = true)
  (h : runM P tt ops st.mem.length ops.toList plan { st with mem := st.mem ++ List.replicate m .hole } (Q .normal)) : Tri P ρ n0 (.region id ops true) st Q := fun E0 w0 h0 E w a he hs hmk => by
 refine wpIn_region_any hm ?_
 have hd : Sim E { w with drawn := w.drawn + 1 } a { st with mem := st.mem ++ List.replicate m .hole } := (hs.drew (w := w)).holes m
 have hI := runM_I (all := ops) (plan := plan) (n := 0) (l := ops.toList) (fun k x hk => by rw [Nat.zero_add]; simpa using hk) h
 rw [← List.range_eq_range'] at hI
 refine mixed_sound (P := P) (tt := tt) ht hok ops.size _ (List.range ops.toList.length) (by simp) (fun j z hj => by simp [Array.getD_eq_getD_getElem?, Array.getElem?_replicate] at hj; split at hj <;> simp at hj) (by simp) (List.pairwise_lt_range) (fun i => ?_) hd hI fun a' w' hdf ⟨E', st', h1, h2, h3⟩ => ⟨E', st', h1, (he.trans (Evo.drew E w)).trans h2, ?_, h3⟩
 ·simp only [List.mem_range,Array.getElem?_replicate]
  simp
 ·rw [hdf]; exact (hmk.evo (Evo.drew E w)).evo h2
theorem tri_seq_mixed (ht : TT P tt) (hm : P.follows .mixedOrders = true) {ρ : Option Nat} {n0 : Nat} {st : St} {Q : Exit → St → Prop} (plan : List Pl) (m : Nat) {id : Nat} {ops : Array Oper} {y : Code} (hok : mixOk ops plan = true)
  (h : ∀ K : St → Prop, (∀ st', Tri P ρ n0 y st' Q → K st') → runM P tt ops st.mem.length ops.toList plan { st with mem := st.mem ++ List.replicate m .hole } K) : Tri P ρ n0 (.seq (.region id ops true) y) st Q :=
 tri_seq (tri_mixed ht hm plan m hok (h (fun st' => Tri P ρ n0 y st' Q) fun _ h => h))
end
end Go.Eng
end

section
namespace Go.Eng
variable [Glob]
open Go.RowKit (Below)

def liveBlk : Blk → Bool
 | .rows _ _ _ => true
 | .frz _ _ _ => true
 | .dead => true
 | .hole => true
 | _ => false

theorem FnOkS.live {P : Program} {f : FuncId} {vs vs' : List V} {b v s l : Nat} {mem' : List Blk} (hp : purL [] vs = some vs') (h : FnOkS P f vs' [] (.ms b v s l) mem') (hm : mem'.all liveBlk = true) (mem : List Blk) :
  FnOkS P f vs mem (.ms (mem.length + b) v s l) (mem ++ mem') := by
 refine ⟨h.1, fun E w xs hs hx => ?_⟩
 obtain ⟨hp', hk⟩ := purL_nil (mem := mem) hp
 have h1 := purL_sound hs (keys := []) hx hp' (by rw [hk]; simp)
 have hE : (E.opn w []).pure = ⟨E.F, fun _ _ => none, E.gl⟩ := by
  refine Env.ext2 (funext fun ad => ?_) rfl
  simp only [Env.pure,Env.opn]
  cases hh : E.F ad <;> simp
 rw [hE] at h1
 have hs1 : Sim ⟨E.F, fun _ _ => none, E.gl⟩ w { tmps := #[], defers := [] } { fr := [], mem := [] } :=
  ⟨hs.F, (fun k v g e c h => by cases h), (fun k B h => by simp at h), (fun k _ v => rfl), (fun k B h => by simp at h), (fun k k' v v' g e c e' c' h => by cases h), .nil _⟩
 refine (h.2 _ w xs hs1 h1).mono ?_
 rintro en w' ⟨E', x, rfl, hev, hs', hr⟩
 have hnew : ∀ k v g e c, E'.blk k v = some (g, e, c) → w.heap.size ≤ g := fun k v g e c hb => by
  rcases hev.blk _ _ _ _ _ hb with ⟨_, _, _, _, h⟩ | h
  ·cases h
  ·exact h
 have hold : ∀ b, b < w.heap.size → w'.heap[b]? = w.heap[b]? := fun b hb => hev.heap b hb fun _ _ _ _ h => by cases h
 have hFo : ∀ ad y, E'.F ad = some y → E.F ad = some y ∨ w.heap.size ≤ ad.block := fun ad y hy => by
  rcases hev.F _ _ hy with h | h | ⟨_, _, _, _, h⟩
  ·exact .inl h
  ·exact .inr h
  ·cases h
 have hlo : ∀ k v, k < mem.length → (⟨E'.F, fun k v => if k < mem.length then E.blk k v else E'.blk (k - mem.length) v, E'.gl⟩ : Env).blk k v = E.blk k v := fun k v hk => if_pos hk
 have hhi : ∀ k v, mem.length ≤ k → (⟨E'.F, fun k v => if k < mem.length then E.blk k v else E'.blk (k - mem.length) v, E'.gl⟩ : Env).blk k v = E'.blk (k - mem.length) v := fun k v hk => if_neg (by omega)
 generalize hE2 : (⟨E'.F, fun k v => if k < mem.length then E.blk k v else E'.blk (k - mem.length) v, E'.gl⟩ : Env) = E2 at hlo hhi
 have hF2 : E2.F = E'.F := by rw [← hE2]
 have hpure : E2.pure = E'.pure := Env.ext2 hF2 rfl
 have hle : E.le E2 := ⟨fun ad y hy => by rw [hF2]; exact hev.le.F _ _ hy, fun k v t hk => by
  rcases Nat.lt_or_ge k mem.length with hkk | hkk
  ·rw [hlo k v hkk]; exact hk
  ·rw [hs.top k hkk v] at hk; cases hk⟩
 have get : ∀ {k : Nat} {B : Blk}, (mem ++ mem')[k]? = some B → (k < mem.length ∧ mem[k]? = some B) ∨ (mem.length ≤ k ∧ mem'[k - mem.length]? = some B) := fun {k B} h => by
  rcases Nat.lt_or_ge k mem.length with hk | hk
  ·rw [List.getElem?_append_left hk] at h; exact .inl ⟨hk, h⟩
  ·rw [List.getElem?_append_right hk] at h; exact .inr ⟨hk, h⟩
 refine ⟨E2, x, rfl, ⟨hle, fun k v g e c hk => ?_, fun ad y hy => ?_, hev.os, hev.tape, hev.output, hev.size, fun b hb _ => hold b hb⟩, ⟨fun ad y hy => hs'.F _ _ (by rw [← hF2]; exact hy), fun k v g e c hk => ?_, fun k B hk => ?_, fun k hk v => ?_, fun k B hk v hv => ?_, fun k k' v v' g e1 c1 e2 c2 h5 h6 => ?_, .nil _⟩, ?_⟩
 ·rcases Nat.lt_or_ge k mem.length with hkk | hkk
  ·rw [hlo k v hkk] at hk; exact .inl ⟨k, v, e, c, hk⟩
  ·rw [hhi k v hkk] at hk; exact .inr (hnew _ _ _ _ _ hk)
 ·rw [hF2] at hy
  rcases hFo ad y hy with h | h
  ·exact .inl h
  ·exact .inr (.inl h)
 ·rcases Nat.lt_or_ge k mem.length with hkk | hkk
  ·rw [hlo k v hkk] at hk; have := hs.lt _ _ _ _ _ hk; have := hev.size; omega
  ·rw [hhi k v hkk] at hk; exact hs'.lt _ _ _ _ _ hk
 ·rcases get hk with ⟨hkk, hB⟩ | ⟨hkk, hB⟩
  ·refine (hs.mem k B hB).mono hle (fun v hv => by rw [hlo k v hkk]; exact hv) (fun g e c hb => hold g (hs.lt _ _ _ _ _ hb)) fun g e c o hb hn => ?_
   rw [hF2]
   cases hy : E'.F ⟨g, o, none⟩ with
   | none => rfl
   | some y =>
    rcases hFo _ y hy with h | h
    ·rw [hn] at h; cases h
    ·have := hs.lt _ _ _ _ _ hb; simp at h; omega
  ·have hl := List.all_eq_true.1 hm B (List.mem_of_getElem? hB)
   have h0 := hs'.mem _ B hB
   cases B with
   | hole => exact fun v => by rw [hhi k v hkk]; exact h0 v
   | dead => trivial
   | box cs => simp [liveBlk] at hl
   | loop s p fr ps a b => simp [liveBlk] at hl
   | map kvs clock => simp [liveBlk] at hl
   | miter m since seen last => simp [liveBlk] at hl
   | siter s pos => simp [liveBlk] at hl
   | niter => simp [liveBlk] at hl
   | rows v e rs =>
    rcases h0 with ⟨h1, h2⟩ | ⟨g, T, ys, c, h1, h2, h3, h4, h5, h6⟩
    ·exact .inl ⟨h1, by rw [hhi k v hkk]; exact h2⟩
    ·exact .inr ⟨g, T, ys, c, by rw [hhi k v hkk]; exact h1, h2, h3, h4, by rw [hpure]; exact h5, fun o => by rw [hF2]; exact h6 o⟩
   | frz v e rs =>
    rcases h0 with ⟨h1, h2⟩ | ⟨g, c, h1, h2, h3⟩
    ·exact .inl ⟨h1, by rw [hhi k v hkk]; exact h2⟩
    ·exact .inr ⟨g, c, by rw [hhi k v hkk]; exact h1, h2, by rw [hpure, hF2]; exact h3⟩
 ·dsimp only at hk
  simp only [List.length_append] at hk
  rw [hhi k v (by omega)]; exact hs'.top _ (by dsimp only; omega) v
 ·rcases get hk with ⟨hkk, hB⟩ | ⟨hkk, hB⟩
  ·rw [hlo k v hkk]; exact hs.ver k B hB v hv
  ·rw [hhi k v hkk]; exact hs'.ver _ B hB v hv
 ·rcases Nat.lt_or_ge k mem.length with hk1 | hk1 <;> rcases Nat.lt_or_ge k' mem.length with hk2 | hk2
  ·rw [hlo k _ hk1] at h5; rw [hlo k' _ hk2] at h6
   exact hs.apart _ _ _ _ _ _ _ _ _ h5 h6
  ·rw [hlo k _ hk1] at h5; rw [hhi k' _ hk2] at h6
   have := hs.lt _ _ _ _ _ h5; have := hnew _ _ _ _ _ h6; omega
  ·rw [hhi k _ hk1] at h5; rw [hlo k' _ hk2] at h6
   have := hs.lt _ _ _ _ _ h6; have := hnew _ _ _ _ _ h5; omega
  ·rw [hhi k _ hk1] at h5; rw [hhi k' _ hk2] at h6
   have := hs'.apart _ _ _ _ _ _ _ _ _ h5 h6
   omega
 ·cases hr with
  | ms _ b v s l g e c a cap hb hl h0 hc => exact .ms _ _ _ _ _ g e c _ _ (by rw [hhi _ v (by omega), Nat.add_sub_cancel_left]; exact hb) hl h0 hc
  | msnil => exact .msnil _ _ _ _

theorem Sim.nilRowsV {E : Env} {w : World} {a : Act} {st : St} (hs : Sim E w a st) (v e : Nat) : Sim E w a { st with mem := st.mem ++ [.rows v e []] } := by
 have get : ∀ {k : Nat} {B : Blk}, (st.mem ++ [Blk.rows v e []])[k]? = some B → st.mem[k]? = some B ∨ (B = Blk.rows v e [] ∧ st.mem.length ≤ k) := fun {k B} h => by
  rcases Nat.lt_or_ge k st.mem.length with hk | hk
  ·rw [List.getElem?_append_left hk] at h; exact .inl h
  ·rw [List.getElem?_append_right hk] at h
   cases hkk : k - st.mem.length with
   | zero => rw [hkk] at h; cases h; exact .inr ⟨rfl, hk⟩
   | succ j => rw [hkk] at h; cases h
 refine ⟨hs.F, hs.lt, fun k B hk => ?_, fun k hk => hs.top k (by simp at hk; omega), fun k B hk v hv => ?_, hs.apart, hs.fr⟩
 ·rcases get hk with h | ⟨rfl, hkk⟩
  ·exact hs.mem k B h
  ·exact .inl ⟨rfl, hs.top k hkk v⟩
 ·rcases get hk with h | ⟨rfl, hkk⟩
  ·exact hs.ver k B h v hv
  ·exact hs.top k hkk v
theorem Sim.slotNilV {E : Env} {w : World} {a : Act} {st : St} (hs : Sim E w a st) {i : Nat} (b v : Nat) (h : st.fr[i]? = some (.sc (.slice none 0 0))) : Sim E w a { st with fr := st.fr.set i (.ms b v 0 0) } := hs.slotNil h
end Go.Eng
end

section
namespace Go.Eng
variable [Glob]
open Go.RowKit (Below)

theorem frame_core {E E' : Env} {w w' : World} {mem mem' l : List Blk} (hs : Sim E w { tmps := #[], defers := [] } { fr := [], mem := mem ++ l }) (hev0 : Evo (E.cut mem.length) w E' w') (hs0 : Sim E' w' { tmps := #[], defers := [] } { fr := [], mem := mem' })
  (hlen : mem'.length = mem.length) (hb : mem'.all (belowB mem.length) = true) : ∃ E2, Evo E w E2 w' ∧ Sim E2 w' { tmps := #[], defers := [] } { fr := [], mem := mem' ++ l } ∧ (E'.cut mem.length).le E2 := by
 have hs1 := hs0.cut (n := mem.length) rfl (by rw [List.take_of_length_le (by dsimp only; omega)]; exact hb)
 rw [List.take_of_length_le (by dsimp only; omega)] at hs1
 dsimp only at hs1
 have hcutnone : ∀ k, mem.length ≤ k → ∀ v, (E.cut mem.length).blk k v = none := fun k hk v => if_neg (by omega)
 have hev : Evo (E.cut mem.length) w (E'.cut mem.length) w' := hev0.cut hcutnone
 have hin : ∀ k v t, (E.cut mem.length).blk k v = some t → k < mem.length ∧ E.blk k v = some t := fun k v t h => by
  rcases Nat.lt_or_ge k mem.length with hk | hk
  ·exact ⟨hk, (if_pos hk).symm.trans h⟩
  ·rw [hcutnone k hk] at h; cases h
 have hin' : ∀ k v t, (E'.cut mem.length).blk k v = some t → k < mem.length := fun k v t h => by
  rcases Nat.lt_or_ge k mem.length with hk | hk
  ·exact hk
  ·have h0 : (E'.cut mem.length).blk k v = none := if_neg (by omega)
   rw [h0] at h; cases h
 generalize hE'' : E'.cut mem.length = E'' at hs1 hev hin'
 have hlo : ∀ k v, k < mem.length → (⟨E''.F, fun k v => if k < mem.length then E''.blk k v else E.blk k v, E''.gl⟩ : Env).blk k v = E''.blk k v := fun k v hk => if_pos hk
 have hhi : ∀ k v, mem.length ≤ k → (⟨E''.F, fun k v => if k < mem.length then E''.blk k v else E.blk k v, E''.gl⟩ : Env).blk k v = E.blk k v := fun k v hk => if_neg (by omega)
 generalize hE2 : (⟨E''.F, fun k v => if k < mem.length then E''.blk k v else E.blk k v, E''.gl⟩ : Env) = E2 at hlo hhi
 have hF2 : E2.F = E''.F := by rw [← hE2]
 have hcl : ∀ k v t, k < mem.length → E.blk k v = some t → (E.cut mem.length).blk k v = some t := fun k v t hk h => (if_pos hk).trans h
 have hle : E.le E2 := ⟨fun ad y hy => by rw [hF2]; exact hev.le.F _ _ hy, fun k v t hk => by
  rcases Nat.lt_or_ge k mem.length with hkk | hkk
  ·rw [hlo k v hkk]; exact hev.le.blk _ _ _ (hcl _ _ _ hkk hk)
  ·rw [hhi k v hkk]; exact hk⟩
 have hle2 : E''.le E2 := ⟨fun ad y hy => by rw [hF2]; exact hy, fun k v t hk => by rw [hlo k v (hin' _ _ _ hk)]; exact hk⟩
 have hnot : ∀ k v g e c, mem.length ≤ k → E.blk k v = some (g, e, c) → ∀ k0 v0 e0 c0, (E.cut mem.length).blk k0 v0 ≠ some (g, e0, c0) := fun k v g e c hk hb k0 v0 e0 c0 h => by
  obtain ⟨h1, h2⟩ := hin _ _ _ h
  have := hs.apart _ _ _ _ _ _ _ _ _ h2 hb
  omega
 have get : ∀ {k : Nat} {B : Blk}, (mem' ++ l)[k]? = some B → (k < mem.length ∧ mem'[k]? = some B) ∨ (mem.length ≤ k ∧ (mem ++ l)[k]? = some B) := fun {k B} h => by
  rcases Nat.lt_or_ge k mem.length with hk | hk
  ·rw [List.getElem?_append_left (by omega)] at h; exact .inl ⟨hk, h⟩
  ·rw [List.getElem?_append_right (by omega), hlen] at h
   exact .inr ⟨hk, by rw [List.getElem?_append_right hk]; exact h⟩
 refine ⟨E2, ⟨hle, fun k v g e c hk => ?_, fun ad y hy => ?_, hev.os, hev.tape, hev.output, hev.size, fun b hb hne => hev.heap b hb fun k v e c h => hne _ _ _ _ (hin _ _ _ h).2⟩, ⟨fun ad y hy => hs1.F _ _ (by rw [← hF2]; exact hy), fun k v g e c hk => ?_, fun k B hk => ?_, fun k hk v => ?_, fun k B hk v hv => ?_, fun k k' v v' g e1 c1 e2 c2 h5 h6 => ?_, .nil _⟩, hle2⟩
 ·rcases Nat.lt_or_ge k mem.length with hkk | hkk
  ·rw [hlo k v hkk] at hk
   rcases hev.blk _ _ _ _ _ hk with ⟨k0, v0, e0, c0, h⟩ | h
   ·exact .inl ⟨_, _, _, _, (hin _ _ _ h).2⟩
   ·exact .inr h
  ·rw [hhi k v hkk] at hk; exact .inl ⟨_, _, _, _, hk⟩
 ·rw [hF2] at hy
  rcases hev.F _ _ hy with h | h | ⟨k0, v0, e0, c0, h⟩
  ·exact .inl h
  ·exact .inr (.inl h)
  ·exact .inr (.inr ⟨_, _, _, _, (hin _ _ _ h).2⟩)
 ·rcases Nat.lt_or_ge k mem.length with hkk | hkk
  ·rw [hlo k v hkk] at hk; exact hs1.lt _ _ _ _ _ hk
  ·rw [hhi k v hkk] at hk; exact Nat.lt_of_lt_of_le (hs.lt _ _ _ _ _ hk) hev.size
 ·rcases get hk with ⟨hkk, hB⟩ | ⟨hkk, hB⟩
  ·exact (hs1.mem k B hB).mono hle2 (fun v hv => by rw [hlo k v hkk]; exact hv) (fun _ _ _ _ => rfl) fun g e c o _ hn => by rw [hF2]; exact hn
  ·refine (hs.mem k B hB).mono hle (fun v hv => by rw [hhi k v hkk]; exact hv) (fun g e c hb => hev.heap g (hs.lt _ _ _ _ _ hb) fun k0 v0 e0 c0 h => hnot _ _ _ _ _ hkk hb _ _ _ _ h) fun g e c o hb hn => ?_
   rw [hF2]
   cases hy : E''.F ⟨g, o, none⟩ with
   | none => rfl
   | some y =>
    rcases hev.F _ _ hy with h | h | ⟨k0, v0, e0, c0, h⟩
    ·have h' : E.F ⟨g, o, none⟩ = some y := h
     rw [hn] at h'; cases h'
    ·have := hs.lt _ _ _ _ _ hb; simp at h; omega
    ·exact absurd h (hnot _ _ _ _ _ hkk hb _ _ _ _)
 ·dsimp only at hk
  simp only [List.length_append] at hk
  rw [hhi k v (by omega)]; exact hs.top k (by simp; omega) v
 ·rcases get hk with ⟨hkk, hB⟩ | ⟨hkk, hB⟩
  ·rw [hlo k v hkk]; exact hs1.ver k B hB v hv
  ·rw [hhi k v hkk]; exact hs.ver k B hB v hv
 ·have mixed : ∀ k k' v v' g e1 c1 e2 c2, k < mem.length → mem.length ≤ k' → E''.blk k v = some (g, e1, c1) → E.blk k' v' = some (g, e2, c2) → k = k' := fun k k' v v' g e1 c1 e2 c2 hk hk' h h' => by
   rcases hev.blk _ _ _ _ _ h with ⟨k0, v0, e0, c0, h0⟩ | h0
   ·exact absurd h0 (hnot _ _ _ _ _ hk' h' _ _ _ _)
   ·have := hs.lt _ _ _ _ _ h'; omega
  rcases Nat.lt_or_ge k mem.length with hk1 | hk1 <;> rcases Nat.lt_or_ge k' mem.length with hk2 | hk2
  ·rw [hlo k _ hk1] at h5; rw [hlo k' _ hk2] at h6
   exact hs1.apart _ _ _ _ _ _ _ _ _ h5 h6
  ·rw [hlo k _ hk1] at h5; rw [hhi k' _ hk2] at h6
   exact mixed _ _ _ _ _ _ _ _ _ hk1 hk2 h5 h6
  ·rw [hhi k _ hk1] at h5; rw [hlo k' _ hk2] at h6
   exact (mixed _ _ _ _ _ _ _ _ _ hk2 hk1 h6 h5).symm
  ·rw [hhi k _ hk1] at h5; rw [hhi k' _ hk2] at h6
   exact hs.apart _ _ _ _ _ _ _ _ _ h5 h6

theorem frame_in {E : Env} {w : World} {mem l : List Blk} (hs : Sim E w { tmps := #[], defers := [] } { fr := [], mem := mem ++ l }) (hb : mem.all (belowB mem.length) = true) : Sim (E.cut mem.length) w { tmps := #[], defers := [] } { fr := [], mem := mem } := by
 have h := hs.cut (n := mem.length) rfl (by rw [List.take_left]; exact hb)
 rwa [List.take_left] at h
theorem RepL.below {E : Env} {n : Nat} {vs : List V} {xs : List Value} (h : RepL E vs xs) (hb : vs.all (belowV n) = true) : RepL (E.cut n) vs xs :=
 ⟨h.1, fun i v x hv hx => belowV_rep (h.2 i v x hv hx) (List.all_eq_true.1 hb v (List.mem_of_getElem? hv))⟩

theorem FnOkS.frame {P : Program} {f : FuncId} {vs : List V} {r : V} {mem mem' : List Blk} (h : FnOkS P f vs mem r mem') (hv : vs.all (belowV mem.length) = true) (hm : mem.all (belowB mem.length) = true) (hr : belowV mem.length r = true) (hlen : mem'.length = mem.length) (hm' : mem'.all (belowB mem.length) = true) (l : List Blk) :
  FnOkS P f vs (mem ++ l) r (mem' ++ l) := by
 refine ⟨h.1, fun E w xs hs hx => ?_⟩
 refine (h.2 _ w xs (frame_in hs hm) (hx.below hv)).mono ?_
 rintro en w' ⟨E', x, rfl, hev, hs', hrep⟩
 obtain ⟨E2, h1, h2, h3⟩ := frame_core hs hev hs' hlen hm'
 exact ⟨E2, x, rfl, h1, h2, (belowV_rep hrep hr).mono h3⟩
theorem YOk.frame {P : Program} {k : Nat} {vs : List V} {mem mem' : List Blk} {b : Bool} (h : YOk P k vs mem b mem') (hk : k < mem.length) (hv : vs.all (belowV mem.length) = true) (hm : mem.all (belowB mem.length) = true) (hlen : mem'.length = mem.length) (hm' : mem'.all (belowB mem.length) = true) (l : List Blk) :
  YOk P k vs (mem ++ l) b (mem' ++ l) := by
 intro E w xs lp e c hs hx hb
 obtain ⟨fn, tmps, assign, body, h1, h2⟩ := h _ w xs lp e c (frame_in hs hm) (hx.below hv) ((if_pos hk).trans hb)
 refine ⟨fn, tmps, assign, body, h1, h2.mono ?_⟩
 rintro en w' ⟨E', rfl, hev, hs'⟩
 obtain ⟨E2, h3, h4, -⟩ := frame_core hs hev hs' hlen hm'
 exact ⟨E2, rfl, h3, h4⟩
mutual
theorem belowV_mono {n m : Nat} (h : n ≤ m) : ∀ {v : V}, belowV n v = true → belowV m v = true
 | .ms _ _ _ _, hv => by simp [belowV] at hv ⊢; omega
 | .ptr _ _, hv => by simp [belowV] at hv ⊢; omega
 | .yld _, hv => by simp [belowV] at hv ⊢; omega
 | .mp _, hv => by simp [belowV] at hv ⊢; omega
 | .rptr _ _ _ _, hv => by simp [belowV] at hv ⊢; omega
 | .undef, _ => rfl
 | .sc _, _ => rfl
 | .slice _, _ => rfl
 | .eptr _, _ => rfl
 | .gn, _ => rfl
 | .full _, _ => rfl
 | .agg cs, hv => by simp only [belowV] at hv ⊢; exact belowL_mono h hv
 | .tup cs, hv => by simp only [belowV] at hv ⊢; exact belowL_mono h hv
 | .clo f a b, hv => by simp only [belowV,Bool.and_eq_true] at hv ⊢; exact ⟨belowL_mono h hv.1, belowL_mono h hv.2⟩
theorem belowL_mono {n m : Nat} (h : n ≤ m) : ∀ {l : List V}, belowL n l = true → belowL m l = true
 | [], _ => rfl
 | c :: r, hv => by simp only [belowL,Bool.and_eq_true] at hv ⊢; exact ⟨belowV_mono h hv.1, belowL_mono h hv.2⟩
end
theorem belowB_mono {n m : Nat} (h : n ≤ m) {B : Blk} (hv : belowB n B = true) : belowB m B = true := by
 cases B with
 | box cs => simp only [belowB,List.all_eq_true] at hv ⊢; exact fun x hx => belowV_mono h (hv x hx)
 | loop a b fr c d e => simp only [belowB,List.all_eq_true] at hv ⊢; exact fun x hx => belowV_mono h (hv x hx)
 | map kvs c => simp only [belowB,List.all_eq_true] at hv ⊢; exact fun x hx => belowV_mono h (hv x hx)
 | miter m s se l => simp only [belowB,decide_eq_true_eq] at hv ⊢; omega
 | _ => rfl
theorem belowBs_mono {n m : Nat} (h : n ≤ m) {l : List Blk} (hv : l.all (belowB n) = true) : l.all (belowB m) = true := List.all_eq_true.2 fun x hx => belowB_mono h (List.all_eq_true.1 hv x hx)
theorem ev_ft : (false == true) = false := rfl
theorem ev_tf : (true == false) = false := rfl
theorem ev_len1 (mem : List Blk) (ts : Array TypeId) (P : Program) (r : List V) : lenM mem ts P [.slice r] = none := rfl
theorem ev_len2 (mem : List Blk) (ts : Array TypeId) (P : Program) (b v s l : Nat) : lenM mem ts P [.ms b v s l] = none := rfl
theorem ev_len3 (mem : List Blk) (ts : Array TypeId) (P : Program) (x : Value) : lenM mem ts P [.sc x] = none := rfl
end Go.Eng
end
