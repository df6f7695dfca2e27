/-
  THE ENGINE, L: the steps are sound; code; functions.
  THE ENGINE, M: a table of types, checked by the kernel.
  THE ENGINE, N: rules and facts for carrying it out by simp.
  THE ENGINE, O: closures' contracts; a range over a function.
  THE ENGINE, P: regions that draw their order.
  THE ENGINE, Q: regions that draw their order are sound.
  THE ENGINE, R: a region that draws its order comes to what it comes to in the order of its text.
  THE ENGINE, S: functions that hand back rows that their caller may write.
  THE ENGINE, U: what a contract does not speak of stays.
-/
import Derived.Test.YtefbaladomfccaaGreatDoorE2
import Derived.RangeFuncRecord
import Derived.OrdersIn
set_option linter.all false
section
namespace Go.Eng
variable [aK]
open Go.RowKit (Below)

theorem ed {P : Program} {s : Sem Value} {w w' : World} {x : Value} (h : s.run P w = .ok x w') : (do pure (Next.value (← s)) : Sem Next).run P w = .ok (.value x) w' := by
 simp [h]

def x9 (E : Env) (w : World) (a : Act) (dst : Option Tmp) (Q : St → Prop) (v : Value) (w' : World) : Prop := ∃ E' st', bc E' w' (a.put dst v) st' ∧ dO E w E' w' ∧ Q st'

def WF (ρ : Option Nat) : Fence := { fn := fun _ => True, depth := none, alive := false, round := ρ }
theorem sb {ρ : Option Nat} {n : Nat} {P : Program} {f : FuncId} {xs : Array Value} {w : World} {R : Ending → World → Prop} (h : Calls P f xs w R) : CallsIn (WF ρ) n P f xs w R := by
 have h1 : CallsIn Fence.wide n P f xs w R := callsIn_wide.2 h
 cases ρ with
 | none => exact h1
 | some l => exact h1.inRound l
theorem ya {n : Nat} {P : Program} {f : FuncId} {xs : Array Value} {w : World} {R : Ending → World → Prop} (h : CallsIn (WF none) n P f xs w R) : Calls P f xs w R := callsIn_wide.1 h
theorem AN {ρ : Option Nat} {n : Nat} {P : Program} {l : Nat} {f : FuncId} {tmps : Array Value} {assign body : Code} {w : World} {R : Ending → World → Prop} (h : RoundIn Fence.wide 0 P l f tmps assign body w R) : RoundIn (WF ρ) n P l f tmps assign body w R := by
 refine ⟨trivial, fun c cs _ => ?_⟩
 exact h.2 c cs (room_wide _)
section
variable {P : Program} {ρ : Option Nat} {n : Nat} {o : Oper} {a : Act} {w w' : World} {next : Act → World → Prop} {Q : Exit → Act → World → Prop} (j3 : ∀ c, o.op ≠ .defer c)
include j3
theorem bd {v : Value} (h : (execOp a.eval o).run P w = .ok (.value v) w') (hn : next (a.put o.dst v) w') : o.wpIn (WF ρ) n P a w next Q := by
 refine ⟨fun _ _ => trivial, ?_⟩
 rw [Oper.semAt_eq _ _ _ j3, h]; exact hn
theorem jk (h : (execOp a.eval o).run P w = .ok .skip w') (hn : next (a.put o.dst undef) w') : o.wpIn (WF ρ) n P a w next Q := by
 refine ⟨fun _ _ => trivial, ?_⟩
 rw [Oper.semAt_eq _ _ _ j3, h]; exact hn
theorem qz {f : FuncId} {xs : Array Value} {R : Ending → World → Prop} (h : (execOp a.eval o).run P w = .ok (.enter f xs) w) (hc : Calls P f xs w R) (hR : ∀ e w', R e w' → ∃ v, e = .returned v ∧ next (a.put o.dst v) w') :
  o.wpIn (WF ρ) n P a w next Q := by
 refine ⟨fun _ _ => trivial, ?_⟩
 rw [Oper.semAt_eq _ _ _ j3, h]
 refine ⟨fun h => by simp [WF] at h, (sb hc).mono fun e w' he => ?_⟩
 obtain ⟨v, rfl, hn⟩ := hR e w' he
 exact hn
theorem qA {l : Nat} {f : FuncId} {tmps : Array Value} {assign body : Code} {R : Ending → World → Prop} (h : (execOp a.eval o).run P w = .ok (.round l f tmps assign body) w) (hc : RoundIn Fence.wide 0 P l f tmps assign body w R)
  (hR : ∀ e w', R e w' → ∃ v, e = .returned v ∧ next (a.put o.dst v) w') : o.wpIn (WF ρ) n P a w next Q := by
 refine ⟨fun _ _ => trivial, ?_⟩
 rw [Oper.semAt_eq _ _ _ j3, h]
 refine ⟨fun h => by simp [WF] at h, (AN hc).mono fun e w' he => ?_⟩
 obtain ⟨v, rfl, hn⟩ := hR e w' he
 exact hn
end

theorem qB {P : Program} {E : Env} {w : World} {a : Act} {st : St} (hs : bc E w a st) {f : FuncId} {vs : List V} {dst : Option Tmp} {Q : St → Prop} (h : uL P f vs st dst Q) {xs : Array Value} (hx : aV E vs xs.toList) :
  ((callFunc f xs).run P w = .ok (.enter f xs) w ∧ Calls P f xs w fun e w' => ∃ v, e = .returned v ∧ x9 E w a dst Q v w') ∨ ∃ v, (callFunc f xs).run P w = .ok (.value v) w ∧ x9 E w a dst Q v w := by
 rcases h with ⟨vs', r, hp, hf, hQ⟩ | ⟨r, aF, hf, hQ⟩ | ⟨R, hf, hQ⟩ | ⟨r, hf, hQ⟩
 ·refine .inl ⟨hf.1 xs w, (Ef hs hx hp hf).mono ?_⟩
  rintro e w' ⟨E', x, rfl, dX, kc, hr⟩
  exact ⟨x, rfl, E', _, kc.put dst hr, dX, hQ⟩
 ·refine .inl ⟨hf.1 xs w, (hf.2 E w xs hs.bare hx).mono ?_⟩
  rintro e w' ⟨E', x, rfl, dX, kc, hr⟩
  exact ⟨x, rfl, E', _, (hs.x7 kc dX.le).put dst hr, dX, hQ⟩
 ·refine .inl ⟨hf.1 xs w, (hf.2 E w xs hs.bare hx).mono ?_⟩
  rintro e w' ⟨E', x, r, aF, rfl, hR, dX, kc, hr⟩
  exact ⟨x, rfl, E', _, (hs.x7 kc dX.le).put dst hr, dX, hQ _ _ hR⟩
 ·obtain ⟨x, h1, h2⟩ := hf E w xs hs.F hx
  exact .inr ⟨x, h1, E, _, hs.put dst h2, dO.refl E w, hQ⟩

theorem cY {P : Program} {tt : Table} (ht : TT P tt) {E : Env} {w : World} {a : Act} {st : St} (hs : bc E w a st) {key : Nat} (hk : ei st.mem key) {o : Oper} {Q : St → Prop} (h : bI P tt key o st Q)
  {ρ : Option Nat} {n : Nat} {next : Act → World → Prop} {Q' : Exit → Act → World → Prop} (hn : ∀ v w', x9 E w a o.dst Q v w' → next (a.put o.dst v) w') : o.wpIn (WF ρ) n P a w next Q' := by
 obtain ⟨dst, op, type, pos, after, guard⟩ := o
 have j3 : ∀ c, op ≠ .defer c := by
  rintro c rfl
  simp [bI, gp] at h
 unfold bI at h
 dsimp only at h
 split at h
 ·-- alloc
  rename_i T
  split at h
  ·rename_i i hi
   obtain ⟨info, oe, -, -, z, hz, xS⟩ := ht.size T i hi
   have hr : aV E (i.zero.map V.sc) z.cells.toList := by
    rw [xS]; exact ⟨by simp, fun k c x hc hx => by
     simp only [List.getElem?_map,hx,Option.map_some,Option.some.injEq] at hc; subst hc; exact .sc _ _⟩
   obtain ⟨E', h1, h2, h3⟩ := hs.Gh hk hr T
   refine bd j3 (v := .pointer (some ⟨w.heap.size, 0, none⟩)) (w' := w.alloc (.cells z.cells T (0, 0))) ?_ (hn _ _ ⟨E', _, h1.put dst h3, h2, h⟩)
   have Nt : (zeroValue T).run P w = .ok z w := by simp [zeroValue, cy oe, hz]
   simp [execOp, Instr.alloc, Nt, newVar, newRow]
  ·exact h.elim
 ·-- box
  rename_i T x
  split at h
  ·rename_i cs pC
   obtain ⟨hr, -⟩ := kO (hs.eval x) pC
   obtain ⟨E', h1, h2, h3⟩ := hs.Gh hk hr T
   refine bd j3 (v := .pointer (some ⟨w.heap.size, 0, none⟩)) (w' := w.alloc (.cells (a.eval x).cells T (0, 0))) ?_ (hn _ _ ⟨E', _, h1.put dst h3, h2, h⟩)
   simp [execOp, Instr.box, newVar, newRow]
  ·exact h.elim
 ·-- build
  split at h
  ·rename_i v hv
   obtain ⟨x, h1, h2⟩ := oC ht hs hv
   exact bd j3 (bh h1) (hn _ _ ⟨E, _, hs.put dst h2, dO.refl E w, h⟩)
  ·exact h.elim
 ·-- buildSlice
  rename_i T len parts
  split at h
  ·rename_i size rs hl
   obtain ⟨Z, e, h1, h2, h3, h4⟩ := wg ht (fun p _ => hs.eval p.2) hl
   obtain ⟨E', h5, h6, h7⟩ := hs.ot hk (xs := Z) (rs := rs) (c := len) e h2 (by omega) h4
   rw [h3] at h7
   exact bd j3 (ed h1) (hn _ _ ⟨E', _, h5.put dst h7, h6, h⟩)
  ·split at h
   ·rename_i size rs hl
    unfold J0 at hl
    split at hl
    ·rename_i vs' Mb
     obtain ⟨E1, kF, J1, GC⟩ := hs.freeze Mb
     have hpa : ∀ (l : List (Nat × Operand)) (us L8 : List V), us = l.map (fun p => st.eval p.2) → dx st.mem us = some L8 → aV E1 L8 (l.map fun p => a.eval p.2) → ∀ p ∈ l, a8 E1 (VN st.mem st.eval p.2) (a.eval p.2) := by
      intro l
      induction l with
      | nil => intro us L8 _ _ _ p hp; simp at hp
      | cons q r ih =>
       intro us L8 hu hp hr p Ny
       subst hu
       simp only [List.map_cons,dx] at hp
       split at hp
       ·rename_i c' hc
        split at hp
        ·rename_i r' uI
         cases hp
         obtain ⟨y, ys, hy, g1, g2⟩ := hr.of_cons
         simp only [List.map_cons,List.cons.injEq] at hy
         obtain ⟨rfl, rfl⟩ := hy
         rcases List.mem_cons.1 Ny with rfl | Ny
         ·unfold VN; rw [hc]; exact g1
         ·exact ih _ _ rfl uI g2 p Ny
        ·cases hp
       ·cases hp
     have kG : aV E (parts.toList.map fun p => st.eval p.2) (parts.toList.map fun p => a.eval p.2) := by
      refine ⟨by simp, fun i v x hv hx => ?_⟩
      simp only [List.getElem?_map,Option.map_eq_some_iff] at hv hx
      obtain ⟨q, hq, rfl⟩ := hv
      obtain ⟨q', D6, rfl⟩ := hx
      rw [hq] at D6; cases D6
      exact hs.eval q.2
     have VQ := hpa parts.toList _ _ rfl Mb (GC _ kG)
     have dP : ei ({ st with mem := cL st.mem (wx st.eval parts.toList) } : St).mem key := by
      unfold ei
      dsimp only
      rw [kR, nn]
      rcases hk with hk | hk
      ·rw [hk]; exact .inl rfl
      ·exact .inr hk
     obtain ⟨Z, e, h1, h2, h3, h4⟩ := wg ht (w := w) VQ hl
     obtain ⟨E', h5, h6, h7⟩ := kF.ot dP (xs := Z) (rs := rs) (c := len) e h2 (by omega) h4
     rw [h3] at h7
     exact bd j3 (ed h1) (hn _ _ ⟨E', _, h5.put dst h7, J1.trans h6, h⟩)
    ·cases hl
   ·exact h.elim
 ·-- store
  rename_i T p x
  split at h
  ·rename_i aF hm
   obtain ⟨w', h1, h2, h3⟩ := ov ht hs (hs.eval _) (hs.eval _) hm
   refine jk j3 (w' := w') ?_ (hn _ _ ⟨E, _, h2.put dst (.sc _ _), h3, h⟩)
   simp [execOp, h1]
  ·split at h
   ·rename_i aF hm
    unfold wy at hm
    split at hm
    ·rename_i v' rI
     obtain ⟨E1, kF, J1, GC⟩ := hs.freeze (vs := [st.eval x]) (vs' := [v']) (by simp [dx, rI])
     simp only [List.flatMap_cons,List.flatMap_nil,List.append_nil] at kF
     obtain ⟨z, r, hz, h4, -⟩ := (GC [a.eval x] (.cons (hs.eval x) (.nil _))).of_cons
     simp only [List.cons.injEq] at hz
     obtain ⟨rfl, -⟩ := hz
     obtain ⟨w', h1, h2, h3⟩ := ov ht kF ((hs.eval p).mono J1.le) h4 hm
     refine jk j3 (w' := w') ?_ (hn _ _ ⟨E1, _, h2.put dst (.sc _ _), J1.trans h3, h⟩)
     simp [execOp, h1]
    ·cases hm
   ·exact h.elim
 ·-- append
  rename_i xs ts
  split at h
  ·rename_i s x Nz
   split at h
   ·rename_i size ka rows ha
    have he := hs.jL xs
    rw [Nz] at he
    obtain ⟨y, r1, hy, AE, he⟩ := he.of_cons
    obtain ⟨z, r2, hz, Ea, he⟩ := he.of_cons
    have := he.of_nil
    subst this; subst hz
    have kG : xs.map a.eval = #[y, z] := by rw [← Array.toArray_toList (xs := xs.map a.eval), hy]
    obtain ⟨v, w', E', h1, h2, h3, h4⟩ := ub ht hs (ty := type) hk AE Ea ha
    refine bd j3 (v := v) (w' := w') ?_ (hn _ _ ⟨E', _, h2.put dst h4, h3, h⟩)
    simp only [execOp,resolve,Sem.run_bind,Sem.run_pure,Result.andThen_ok,invoke,builtin,kG,h1]
   ·unfold qy at h
    split at h
    ·rename_i size b v l rs news ha
     have he := hs.jL xs
     rw [Nz] at he
     obtain ⟨y, r1, hy, AE, he⟩ := he.of_cons
     obtain ⟨z, r2, hz, Ea, he⟩ := he.of_cons
     have := he.of_nil
     subst this; subst hz
     have kG : xs.map a.eval = #[y, z] := by rw [← Array.toArray_toList (xs := xs.map a.eval), hy]
     obtain ⟨u, w', E', o', rs', h1, Mc, yb, h2, h3, h4⟩ := uf ht hs (ty := type) AE Ea ha
     refine bd j3 (v := u) (w' := w') ?_ (hn _ _ ⟨E', _, h2.put dst h4, h3, h o' rs' Mc yb⟩)
     simp only [execOp,resolve,Sem.run_bind,Sem.run_pure,Result.andThen_ok,invoke,builtin,kG,h1]
    ·exact h.elim
  ·exact h.elim
 ·-- a call
  rename_i f xs ts
  split at h
  ·-- yield
   rename_i k Qw
   have hf := hs.eval f
   rw [Qw] at hf
   generalize YN : a.eval f = fx at hf
   cases hf with
   | gr _ _ l e c hb =>
    rcases h with ⟨b, aF, hy, hQ⟩ | ⟨R, hy, hQ⟩
    rotate_left
    ·obtain ⟨fn, tmps, assign, body, h1, h2⟩ := hy E w (xs.map a.eval) l e c hs.bare (hs.jL xs) hb
     refine qA j3 (l := l) (f := fn) (tmps := tmps) (assign := assign) (body := body) ?_ h2 fun e w' ⟨E', b, aF, he, hR, dX, kc⟩ => ⟨_, he, hn _ _ ⟨E', _, (hs.x7 kc dX.le).put dst (.sc _ _), dX, hQ _ _ hR⟩⟩
     rw [← h1]
     simp [execOp, resolve, YN, Deferred.ofValue, invoke]
    obtain ⟨fn, tmps, assign, body, h1, h2⟩ := hy E w (xs.map a.eval) l e c hs.bare (hs.jL xs) hb
    refine qA j3 (l := l) (f := fn) (tmps := tmps) (assign := assign) (body := body) ?_ h2 fun e w' ⟨E', he, dX, kc⟩ => ⟨_, he, hn _ _ ⟨E', _, (hs.x7 kc dX.le).put dst (.sc _ _), dX, hQ⟩⟩
    rw [← h1]
    simp [execOp, resolve, YN, Deferred.ofValue, invoke]
  ·rename_i Qw
   split at h
   ·rename_i g vs hg
    obtain ⟨ys, h1, h2⟩ := lW (P := P) (w := w) (hs.eval f) (hs.jL xs) hg
    rcases qB hs h h1 with ⟨h3, h4⟩ | ⟨v, h3, h4⟩
    ·refine qz j3 (f := g) (xs := ys) ?_ h4 fun e w' ⟨v, hv, ha⟩ => ⟨v, hv, hn _ _ ha⟩
     rw [← h3, ← h2]
     simp only [execOp,resolve]
    ·refine bd j3 (v := v) ?_ (hn _ _ h4)
     rw [← h3, ← h2]
     simp only [execOp,resolve]
   ·exact h.elim
 ·split at h
  ·rename_i size rs cap hm
   obtain ⟨E', w', h1, h2, h3, h4⟩ := xY (P := P) ht hs hk (hs.eval _) (hs.eval _) hm
   exact bd j3 (ed h1) (hn _ _ ⟨E', _, h2.put dst h4, h3, h⟩)
  ·exact h.elim
 ·-- a map
  obtain ⟨E', w', h1, h2, h3, h4⟩ := ud (P := P) hs hk _
  exact bd j3 (ed h1) (hn _ _ ⟨E', _, h2.put dst h4, h3, h⟩)
 ·split at h
  ·rename_i aF hm
   obtain ⟨w', h1, h2, h3⟩ := nj (P := P) hs (hs.eval _) (hs.eval _) (hs.eval _) hm
   refine jk j3 (w' := w') ?_ (hn _ _ ⟨E, _, h2.put dst (.sc _ _), h3, h⟩)
   simp [execOp, h1]
  ·exact h.elim
 ·split at h
  ·rename_i aF hm
   obtain ⟨w', h1, h2, h3⟩ := nj (P := P) hs (hs.eval _) (hs.eval _) (hs.eval _) hm
   refine jk j3 (w' := w') ?_ (hn _ _ ⟨E, _, h2.put dst (.sc _ _), h3, h⟩)
   simp [execOp, h1]
  ·exact h.elim
 ·split at h
  ·rename_i aF v hm
   obtain ⟨z, w', h1, h2, h3, h4⟩ := wj (P := P) hs (hs.eval _) (hs.eval _) hm
   exact bd j3 (ed h1) (hn _ _ ⟨E, _, h2.put dst h4, h3, h⟩)
  ·exact h.elim
 ·rename_i T m s x
  split at h
  ·rename_i aF hm
   obtain ⟨w', h1, h2, h3⟩ := wm (P := P) (T := T) hs (hs.eval _) (hs.eval _) (hs.eval _) hm
   refine jk j3 (w' := w') ?_ (hn _ _ ⟨E, _, h2.put dst (.sc _ _), h3, h⟩)
   simp [execOp, h1]
  ·exact h.elim
 ·rename_i xs ts
  split at h
  ·rename_i aF hm
   obtain ⟨w', h1, h2, h3⟩ := uc (ty := type) hs (hs.jL xs) hm
   refine bd j3 (v := .tuple #[]) (w' := w') ?_ (hn _ _ ⟨E, _, h2.put dst (.sc _ _), h3, h⟩)
   simp only [execOp,resolve,Sem.run_bind,Sem.run_pure,Result.andThen_ok,invoke,builtin,h1]
  ·exact h.elim
 ·split at h
  ·rename_i B hB
   obtain ⟨E', w', h1, h2, h3, h4⟩ := rY (P := P) hs hk (hs.eval _) hB
   exact bd j3 (ed h1) (hn _ _ ⟨E', _, h2.put dst h4, h3, h⟩)
  ·exact h.elim
 ·obtain ⟨z, w', st', h1, h2, h3, h4⟩ := xX (P := P) (ty := type) hs (hs.eval _) h
  exact bd j3 (ed h1) (hn _ _ ⟨E, st', h2, h3, h4⟩)
 ·-- a NA
  rename_i op T x y yT
  split at h
  ·rename_i m hm
   obtain ⟨b, hb, di⟩ := wv (P := P) (w := w) ht x y (hs.eval x) (hs.eval y) hm
   exact bd j3 (bh di) (hn _ _ ⟨E, _, hs.put dst (.sc _ _), dO.refl E w, h b hb⟩)
  ·split at h
   ·rename_i v hv
    obtain ⟨x, h1, h2⟩ := mF ht hs hv
    exact bd j3 h1 (hn _ _ ⟨E, _, hs.put dst h2, dO.refl E w, h⟩)
   ·exact h.elim
 ·split at h
  ·rename_i v hv
   obtain ⟨x, h1, h2⟩ := mF ht hs hv
   exact bd j3 h1 (hn _ _ ⟨E, _, hs.put dst h2, dO.refl E w, h⟩)
  ·exact h.elim

def dq (all : Array Oper) (fr : List V) (o : Oper) : Option Bool :=
 match o.guard with
 | none => some true
 | some (j, want) => match (all[j]?).bind (·.dst) with
  | none => some false
  | some d => match fr[d]? with
   | some (.sc (.bool b)) => some (b == want)
   | some (.sc _) => some false
   | some _ => none
   | none => some false

theorem eL {E : Env} {w : World} {a : Act} {st : St} (hs : bc E w a st) {all : Array Oper} {o : Oper} {b : Bool} (h : dq all st.fr o = some b) : Region.wanted o (yielded all a.tmps) = b := by
 unfold dq at h
 unfold Region.wanted
 split at h
 ·rename_i hg; rw [hg]; simpa using h
 ·rename_i j want hg
  rw [hg]
  dsimp only
  unfold yielded
  split at h
  ·rename_i hd; rw [hd]; simp at h; subst h; rfl
  ·rename_i d hd
   rw [hd]
   split at h
   ·rename_i bb hf
    obtain ⟨x, hx, hr⟩ := hs.fr.get hf
    obtain rfl := bS hr
    simp only [Option.some.injEq] at h; subst h
    have : a.tmps[d]? = some (.bool bb) := by simpa using hx
    simp [this]
   ·rename_i v bL hf
    obtain ⟨x, hx, hr⟩ := hs.fr.get hf
    obtain rfl := bS hr
    simp only [Option.some.injEq] at h; subst h
    have : a.tmps[d]? = some x := by simpa using hx
    simp only [Option.bind_some,this]
    cases x <;> first | rfl | exact absurd rfl (bL _)
   ·cases h
   ·rename_i hf
    simp only [Option.some.injEq] at h; subst h
    have hl : st.fr.length = a.tmps.size := by have := hs.fr.1; simpa using this
    have : a.tmps[d]? = none := by
     rw [List.getElem?_eq_none_iff] at hf
     exact Array.getElem?_eq_none (by omega)
    simp [this]

def cZ (P : Program) (tt : Table) (all : Array Oper) : List Oper → St → (St → Prop) → Prop
 | [], st, Q => Q st
 | o :: r, st, Q => match dq all st.fr o with
  | some true => bI P tt st.mem.length o st fun st' => cZ P tt all r st' Q
  | some false => cZ P tt all r (st.put o.dst (.sc undef)) Q
  | none => False

@[congr] theorem J2 {P : Program} {tt : Table} {key Rs : Nat} {o : Oper} {st st' : St} {Q : St → Prop} (hk : key = Rs) (h : st = st') : bI P tt key o st Q = bI P tt Rs o st' Q := by rw [hk, h]
theorem put_defers (a : Act) (dst : Option Tmp) (v : Value) : (a.put dst v).defers = a.defers := by cases dst <;> rfl
theorem wz {P : Program} {tt : Table} (ht : TT P tt) {ρ : Option Nat} {n : Nat} {all : Array Oper} {Q : St → Prop} {Q' : Exit → Act → World → Prop} : ∀ (F1 pre : List Oper), all.toList = pre ++ F1 →
  ∀ {E : Env} {w : World} {a : Act} {st : St}, bc E w a st → cZ P tt all F1 st Q → (∀ a' w', a'.defers = a.defers → (∃ E' st', bc E' w' a' st' ∧ dO E w E' w' ∧ Q st') → Q' .normal a' w') → wpOpsIn (WF ρ) n P all Q' (List.range' pre.length F1.length) a w := by
 intro F1
 induction F1 with
 | nil => intro pre _ E w a st hs h hq; exact hq _ _ rfl ⟨E, st, hs, dO.refl E w, h⟩
 | cons o r ih =>
  intro pre bp E w a st hs h hq
  have eC : all[pre.length]? = some o := by
   rw [← Array.getElem?_toList, bp, List.getElem?_append_right (Nat.le_refl _)]; simp
  have GF : all.toList = (pre ++ [o]) ++ r := by rw [bp]; simp
  have NB := @ih (pre ++ [o]) GF
  simp only [List.length_append,List.length_cons,List.length_nil,Nat.zero_add] at NB
  rw [List.length_cons, List.range'_succ, wpOpsIn, eC]
  dsimp only
  simp only [cZ] at h
  split at h
  ·rename_i hw
   rw [if_pos (eL hs hw)]
   refine cY ht hs (.inr rfl) h ?_
   rintro v w' ⟨E', st', h1, h2, h3⟩
   exact NB h1 h3 fun Rt Me hd ⟨tU, AO, h4, h5, h6⟩ => hq _ _ (hd.trans (put_defers _ _ _)) ⟨tU, AO, h4, h2.trans h5, h6⟩
  ·rename_i hw
   rw [if_neg (by rw [eL hs hw]; simp)]
   exact ⟨fun _ _ => trivial, NB (hs.put o.dst (.sc _ _)) h fun Rt Me hd h => hq _ _ (hd.trans (put_defers _ _ _)) h⟩
  ·exact h.elim

def Marks (E : Env) (w : World) (base : Nat) (ds : List Deferred) : Prop :=
 ∃ rs : List Nat, ds = rs.map (fun r => { target := .collected r, args := #[] }) ∧ rs.Nodup ∧ ∀ r ∈ rs, base ≤ r ∧ w.heap[r]? = some (.deferred (some [])) ∧ ∀ k v e c, E.aM k v ≠ some (r, e, c)
theorem Marks.Eh {E E' : Env} {w w' : World} {base : Nat} {ds : List Deferred} (h : Marks E w base ds) (he : dO E w E' w') : Marks E' w' base ds := by
 obtain ⟨rs, h1, h2, h3⟩ := h
 refine ⟨rs, h1, h2, fun r hr => ?_⟩
 obtain ⟨h6, h4, h5⟩ := h3 r hr
 have aL : r < w.heap.size := by
  rcases Nat.lt_or_ge r w.heap.size with h | h
  ·exact h
  ·rw [Array.getElem?_eq_none h] at h4; cases h4
 refine ⟨h6, (he.heap r aL h5).trans h4, fun k v e c hk => ?_⟩
 rcases he.aM _ _ _ _ _ hk with ⟨k0, v0, e0, c0, h⟩ | h
 ·exact h5 _ _ _ _ h
 ·omega
theorem Marks.nil (E : Env) (w : World) (base : Nat) : Marks E w base [] := ⟨[], rfl, .nil, fun r h => by simp at h⟩

def NC (E0 : Env) (w0 : World) (Q : Exit → St → Prop) : Exit → Act → World → Prop := fun ex a' w' => ∃ E' st', bc E' w' a' st' ∧ dO E0 w0 E' w' ∧ Marks E' w' w0.heap.size a'.defers ∧ Q ex st'

def dA (P : Program) (ρ : Option Nat) (n0 : Nat) (c : Code) (st : St) (Q : Exit → St → Prop) : Prop :=
 ∀ (E0 : Env) (w0 : World), (∀ k, n0 ≤ k → ∀ v, E0.aM k v = none) → ∀ (E : Env) (w : World) (a : Act), dO E0 w0 E w → bc E w a st → Marks E w w0.heap.size a.defers → c.wpIn (WF ρ) 0 P (NC E0 w0 Q) a w

def ee (next : St → Prop) (Q : Exit → St → Prop) : Exit → St → Prop
 | .normal, st => next st
 | e, st => Q e st
def eX (id : Nat) (Q : Exit → St → Prop) : Exit → St → Prop
 | .exit j, st => if j = id then Q .normal st else Q (.exit j) st
 | e, st => Q e st

section
variable {P : Program} {tt : Table} {ρ : Option Nat} {n0 : Nat} {st : St} {Q : Exit → St → Prop}
theorem dA.mono {c : Code} {Q' : Exit → St → Prop} (h : dA P ρ n0 c st Q) (hq : ∀ e st', Q e st' → Q' e st') : dA P ρ n0 c st Q' :=
 fun E0 w0 h0 E w a he hs hm => wpIn_mono (h E0 w0 h0 E w a he hs hm) fun _ _ _ ⟨E', st', h1, h2, h4, h3⟩ => ⟨E', st', h1, h2, h4, hq _ _ h3⟩
theorem cq (h : Q .normal st) : dA P ρ n0 .skip st Q := fun E0 w0 h0 E w a he hs hm => wpIn_skip ⟨E, st, hs, he, hm, h⟩
theorem fb (h : Q .ret st) : dA P ρ n0 .ret st Q := fun E0 w0 h0 E w a he hs hm => wpIn_ret ⟨E, st, hs, he, hm, h⟩
theorem ib {id : Nat} (h : Q (.exit id) st) : dA P ρ n0 (.exit id) st Q := fun E0 w0 h0 E w a he hs hm => wpIn_exit ⟨E, st, hs, he, hm, h⟩
theorem bN {x y : Code} (h : dA P ρ n0 x st (ee (fun st' => dA P ρ n0 y st' Q) Q)) : dA P ρ n0 (.seq x y) st Q := fun E0 w0 h0 E w a he hs hm => by
 refine wpIn_seq (wpIn_mono (h E0 w0 h0 E w a he hs hm) ?_)
 rintro e a' w' ⟨E', st', h1, h2, h4, h3⟩
 cases e with
 | normal => exact h3 E0 w0 h0 E' w' a' h2 h1 h4
 | _ => exact ⟨E', st', h1, h2, h4, h3⟩
theorem bG {c : Operand} {x y : Code} {b : Bool} (hc : st.eval c = .sc (.bool b)) (h : dA P ρ n0 (if b = true then x else y) st Q) : dA P ρ n0 (.cond c x y) st Q := fun E0 w0 h0 E w a he hs hm => by
 have := hs.eval c
 rw [hc] at this
 exact wpIn_cond (t := b) (bS this) (h E0 w0 h0 E w a he hs hm)
theorem b9 {id : Nat} {c : Code} (h : dA P ρ n0 c st (eX id Q)) : dA P ρ n0 (.block id c) st Q := fun E0 w0 h0 E w a he hs hm => by
 refine wpIn_block (wpIn_mono (h E0 w0 h0 E w a he hs hm) ?_)
 rintro e a' w' ⟨E', st', h1, h2, h4, h3⟩
 cases e with
 | exit j =>
  simp only [Exit.inBlock,eX] at h3 ⊢
  split
  ·rename_i hj; rw [if_pos hj] at h3; exact ⟨E', st', h1, h2, h4, h3⟩
  ·rename_i hj; rw [if_neg hj] at h3; exact ⟨E', st', h1, h2, h4, h3⟩
 | _ => exact ⟨E', st', h1, h2, h4, h3⟩
theorem gE (ht : TT P tt) {id : Nat} {ops : Array Oper} (h : cZ P tt ops ops.toList st (Q .normal)) : dA P ρ n0 (.region id ops false) st Q := fun E0 w0 h0 E w a he hs hm => by
 refine wpIn_region ?_
 have := wz ht (ρ := ρ) (n := 0) (Q' := NC E0 w0 Q) ops.toList [] (by simp) hs h (fun a' w' hd ⟨E', st', h1, h2, h3⟩ => ⟨E', st', h1, he.trans h2, by rw [hd]; exact hm.Eh h2, h3⟩)
 rw [List.range_eq_range']
 simpa using this

def jO (P : Program) (ρ : Option Nat) (n0 : Nat) (c : Code) : Nat → St → (Exit → St → Prop) → Prop
 | 0, _, _ => False
 | n + 1, st, Q => dA P ρ n0 c st (ee (fun st' => jO P ρ n0 c n st' Q) Q)
theorem oD {c : Code} (n : Nat) (h : jO P ρ n0 c n st Q) : dA P ρ n0 (.loop c) st Q := fun E0 w0 h0 E w a he hs hm => by
 refine wpIn_loop_rounds n ?_
 have key : ∀ (n : Nat) (E1 : Env) (w1 : World) (a1 : Act) (st1 : St), bc E1 w1 a1 st1 → dO E0 w0 E1 w1 → Marks E1 w1 w0.heap.size a1.defers → jO P ρ n0 c n st1 Q → Code.roundsIn (WF ρ) 0 P c (NC E0 w0 Q) n a1 w1 := by
  intro n
  induction n with
  | zero => intro E1 w1 a1 st1 _ _ _ h; exact h.elim
  | succ n ih =>
   intro E1 w1 a1 st1 h1 h2 h5 h3
   refine wpIn_mono (h3 E0 w0 h0 E1 w1 a1 h2 h1 h5) ?_
   rintro e a' w' ⟨E', st', h4, h5, h7, h6⟩
   cases e with
   | normal => exact ih E' w' a' st' h4 h5 h7 h6
   | _ => exact ⟨E', st', h4, h5, h7, h6⟩
 exact key n E w a st hs he hm h

theorem oE {c : Code} {st' : St} (hw : ∀ E w a, bc E w a st → bc E w a st') (h : dA P ρ n0 c st' Q) : dA P ρ n0 c st Q :=
 fun E0 w0 h0 E w a he hs hm => h E0 w0 h0 E w a he (hw E w a hs) hm


mutual
def ah (n : Nat) : V → Bool
 | .ms b _ _ _ => decide (b < n)
 | .ptr b _ => decide (b < n)
 | .gr b => decide (b < n)
 | .mp b => decide (b < n)
 | .dw b _ _ _ => decide (b < n)
 | .undef => true
 | .sc _ => true
 | .slice _ => true
 | .cn _ => true
 | .gn => true
 | .full _ => true
 | .agg cs => bA n cs
 | .ch cs => bA n cs
 | .iw _ first cap => bA n first && bA n cap
def bA (n : Nat) : List V → Bool
 | [] => true
 | c :: r => ah n c && bA n r
end
theorem cM (n : Nat) (l : List V) : bA n l = l.all (ah n) := by
 induction l with
 | nil => rfl
 | cons c r ih => simp [bA, ih]
def aB (n : Nat) : aC → Bool
 | .box cs => cs.all (ah n)
 | .loop _ _ fr _ _ _ => fr.all (ah n)
 | .map bK _ => bK.all (fun k => ah n k.2.2)
 | .eA m _ _ _ => decide (m < n)
 | _ => true
def Env.cut (E : Env) (n : Nat) : Env := { F := E.F, aM := fun k v => if k < n then E.aM k v else none, gl := E.gl }

theorem fG {E : Env} {n : Nat} {v : V} {x : Value} (h : a8 E v x) (hb : ah n v = true) : a8 (E.cut n) v x := by
 induction h with
 | undef => exact .undef _ _
 | sc => exact .sc _ _
 | slice E rows a cap nB ad xf ha iS hz hF h1 hR ih => exact .slice _ _ _ _ nB ad xf ha iS hz hF h1 hR
 | ms E b v s l g e c a cap fh hl h0 CE => exact .ms _ _ _ _ _ g e c _ _ ((if_pos (by simpa [ah] using hb)).trans fh) hl h0 CE
 | dg => exact .dg _ _ _ _
 | ptr E b o g e c fh => exact .ptr _ _ _ g e c ((if_pos (by simpa [ah] using hb)).trans fh)
 | gr E b l e c fh => exact .gr _ _ l e c ((if_pos (by simpa [ah] using hb)).trans fh)
 | mp E b l e c fh => exact .mp _ _ l e c ((if_pos (by simpa [ah] using hb)).trans fh)
 | dw E b v i o g e c fh => exact .dw _ _ _ _ _ g e c ((if_pos (by simpa [ah] using hb)).trans fh)
 | cn E cs ad xf hF hR ih => exact .cn _ _ _ xf hF hR
 | gn => exact .gn _
 | full E rows a h ih => exact .full _ _ _ (ih rfl)
 | agg E cs xs hl hh ih =>
  rw [ah, cM] at hb
  exact .agg _ _ _ hl fun i c x hc hx => ih i c x hc hx (List.all_eq_true.1 hb c (List.mem_of_getElem? hc))
 | ch E cs xs hl hh ih =>
  rw [ah, cM] at hb
  exact .ch _ _ _ hl fun i c x hc hx => ih i c x hc hx (List.all_eq_true.1 hb c (List.mem_of_getElem? hc))
 | iw E f first cap xs ys hx hy h1 h2 Nb Nc =>
  rw [ah, cM, cM, Bool.and_eq_true] at hb
  exact .iw _ _ _ _ _ _ hx hy (fun i c x hc hx => Nb i c x hc hx (List.all_eq_true.1 hb.1 c (List.mem_of_getElem? hc))) fun i c x hc hx => Nc i c x hc hx (List.all_eq_true.1 hb.2 c (List.mem_of_getElem? hc))

theorem bc.cut {E : Env} {w : World} {a : Act} {st : St} (hs : bc E w a st) {n : Nat} (hf : st.fr.all (ah n) = true) (hm : (st.mem.take n).all (aB n) = true) : bc (E.cut n) w a { st with mem := st.mem.take n } := by
 have hblk : ∀ k v, k < n → (E.cut n).aM k v = E.aM k v := fun k v h => if_pos h
 have cP : ∀ k v, n ≤ k → (E.cut n).aM k v = none := fun k v h => if_neg (by omega)
 have aL : ∀ {k v t}, (E.cut n).aM k v = some t → k < n ∧ E.aM k v = some t := fun {k v t} h => by
  by_cases hk : k < n
  ·rw [hblk k v hk] at h; exact ⟨hk, h⟩
  ·rw [cP k v (by omega)] at h; cases h
 have eC : ∀ {k : Nat} {B : aC}, (st.mem.take n)[k]? = some B → k < n ∧ st.mem[k]? = some B := fun {k B} h => by
  rw [List.getElem?_take] at h
  split at h
  ·exact ⟨by assumption, h⟩
  ·cases h
 refine ⟨hs.F, fun k v g e c h => hs.lt _ _ _ _ _ (aL h).2, fun k B hk => ?_, fun k hk v => ?_, fun k B hk v hv => ?_, fun k k' v v' g e1 c1 e2 c2 h5 h6 => hs.apart _ _ _ _ _ _ _ _ _ (aL h5).2 (aL h6).2, ⟨hs.fr.1, fun i v x hv hx => fG (hs.fr.2 i v x hv hx) (List.all_eq_true.1 hf v (List.mem_of_getElem? hv))⟩⟩
 ·obtain ⟨gF, fF⟩ := eC hk
  have bp := List.all_eq_true.1 hm B (List.mem_of_getElem? hk)
  have h := hs.mem k B fF
  cases B with
  | hole => exact fun v => by rw [hblk k v gF]; exact h v
  | dead => trivial
  | box cs =>
   obtain ⟨g, T, xs, h1, h2, h3, h4⟩ := h
   exact ⟨g, T, xs, (hblk k 0 gF).trans h1, h2, ⟨h3.1, fun i v x hv hx => fG (h3.2 i v x hv hx) (List.all_eq_true.1 bp v (List.mem_of_getElem? hv))⟩, h4⟩
  | loop s iU fr params assign body =>
   obtain ⟨l, fn, tmps, db, h1, h2, h3, h4⟩ := h
   exact ⟨l, fn, tmps, db, (hblk k 0 gF).trans h1, h2, ⟨h3.1, fun i v x hv hx => fG (h3.2 i v x hv hx) (List.all_eq_true.1 bp v (List.mem_of_getElem? hv))⟩, h4⟩
  | map bK clock =>
   obtain ⟨g, es, h1, h2, h3, h4⟩ := h
   exact ⟨g, es, (hblk k 0 gF).trans h1, h2, ⟨h3.1, fun i kb e hk he => let ⟨p1, p2, p3⟩ := h3.2 i kb e hk he; ⟨p1, p2, fG p3 (List.all_eq_true.1 bp kb (List.mem_of_getElem? hk))⟩⟩, h4⟩
  | eA m since seen last =>
   obtain ⟨g, gm, e, c, h1, h2, h3, h4⟩ := h
   have qX : m < n := by simpa [aB] using bp
   exact ⟨g, gm, e, c, (hblk k 0 gF).trans h1, (hblk m 0 qX).trans h2, h3, h4⟩
  | iO s pos =>
   obtain ⟨g, h1, h2, h3⟩ := h
   exact ⟨g, (hblk k 0 gF).trans h1, h2, h3⟩
  | je =>
   obtain ⟨g, h1, h2, h3⟩ := h
   exact ⟨g, (hblk k 0 gF).trans h1, h2, h3⟩
  | rows v e rs =>
   rcases h with ⟨h1, h2⟩ | ⟨g, T, xs, c, h1, h2⟩
   ·exact .inl ⟨h1, (hblk k v gF).trans h2⟩
   ·exact .inr ⟨g, T, xs, c, (hblk k v gF).trans h1, h2⟩
  | pB v e rs =>
   rcases h with ⟨h1, h2⟩ | ⟨g, c, h1, h2⟩
   ·exact .inl ⟨h1, (hblk k v gF).trans h2⟩
   ·exact .inr ⟨g, c, (hblk k v gF).trans h1, h2⟩
 ·by_cases gF : k < n
  ·rw [hblk k v gF]
   refine hs.top k ?_ v
   dsimp only at hk
   rw [List.length_take] at hk; omega
  ·exact cP k v (by omega)
 ·obtain ⟨gF, fF⟩ := eC hk
  rw [hblk k v gF]; exact hs.bW k B fF v hv

def forget (qC : List Nat) (fr : List V) : List V := qC.foldl (fun fr i => fr.set i .undef) fr
theorem bc.forget {E : Env} {w : World} {a : Act} (qC : List Nat) : ∀ {st : St}, bc E w a st → bc E w a { st with fr := Eng.forget qC st.fr } := by
 induction qC with
 | nil => intro st hs; exact hs
 | cons i r ih =>
  intro st hs
  have : bc E w a { st with fr := st.fr.set i .undef } := by
   refine ⟨hs.F, hs.lt, hs.mem, hs.top, hs.bW, hs.apart, ⟨by simpa using hs.fr.1, fun j v x hv hx => ?_⟩⟩
   dsimp only at hv
   rw [List.getElem?_set] at hv
   split at hv
   ·split at hv
    ·cases hv; exact .undef _ _
    ·cases hv
   ·exact hs.fr.2 j v x hv hx
  exact ih this

theorem sd {c : Code} (n : Nat) (qC : List Nat) (hn : n0 ≤ n) (hf : (forget qC st.fr).all (ah n) = true) (hm : (st.mem.take n).all (aB n) = true)
  (h : dA P ρ n0 c { fr := forget qC st.fr, mem := st.mem.take n } Q) : dA P ρ n0 c st Q := fun E0 w0 h0 E w a he hs mI => by
 have h1 := (hs.forget qC).cut (n := n) hf hm
 refine h E0 w0 h0 (E.cut n) w a ⟨⟨he.le.F, fun k v t hk => ?_⟩, fun k v g e c hk => ?_, he.F, he.os, he.tape, he.output, he.size, he.heap⟩ h1 ?_
 rotate_left 2
 ·obtain ⟨rs, m1, m2, m3⟩ := mI
  refine ⟨rs, m1, m2, fun r hr => ⟨(m3 r hr).1, (m3 r hr).2.1, fun k v e c hk => ?_⟩⟩
  have : E.aM k v = some (r, e, c) := by
   by_cases gF : k < n
   ·exact ((if_pos gF).symm.trans hk : E.aM k v = _)
   ·have h2 : (E.cut n).aM k v = none := if_neg gF
    rw [h2] at hk; cases hk
  exact (m3 r hr).2.2 _ _ _ _ this
 ·have : k < n := by
   rcases Nat.lt_or_ge k n with aL | cP
   ·exact aL
   ·rw [h0 k (by omega) v] at hk; cases hk
  exact (if_pos this).trans (he.le.aM _ _ _ hk)
 ·have : E.aM k v = some (g, e, c) := by
   by_cases gF : k < n
   ·exact ((if_pos gF).symm.trans hk : E.aM k v = _)
   ·have h2 : (E.cut n).aM k v = none := if_neg gF
    rw [h2] at hk; cases hk
  exact he.aM _ _ _ _ _ this

theorem bc.J3 {E : Env} {w : World} {a : Act} {st : St} (hs : bc E w a st) {i b v : Nat} (h : st.fr[i]? = some (.sc (.slice none 0 0))) : bc E w a { st with fr := st.fr.set i (.ms b v 0 0) } := by
 refine ⟨hs.F, hs.lt, hs.mem, hs.top, hs.bW, hs.apart, ⟨by simpa using hs.fr.1, fun j u x hu hx => ?_⟩⟩
 dsimp only at hu
 rw [List.getElem?_set] at hu
 split at hu
 ·rename_i qW
  subst qW
  split at hu
  ·cases hu
   have := hs.fr.2 _ _ _ h hx
   rw [bS this]
   exact .dg _ _ _ _
  ·cases hu
 ·exact hs.fr.2 j u x hu hx
end

def Ei (tt : Table) (st : St) : ResultVar → Option V
 | .tmp t => some (st.fr.getD t .undef)
 | .cell a T => lj tt st.mem T (st.fr.getD a .undef)
def wA (tt : Table) (st : St) : List ResultVar → Option (List V)
 | [] => some []
 | r :: rs => match Ei tt st r with
  | some v => match wA tt st rs with | some l => some (v :: l) | none => none
  | none => none
def wB (tt : Table) (rs : Array ResultVar) (st : St) : Option V :=
 match wA tt st rs.toList with
 | some [v] => Nu st.mem v
 | some vs => Nu st.mem (.ch vs)
 | none => none

theorem jl {P : Program} {tt : Table} (ht : TT P tt) {E : Env} {w : World} {a : Act} {st : St} (hs : bc E w a st) : ∀ (rs : List ResultVar) (vs : List V), wA tt st rs = some vs →
  ∃ xs : List Value, (rs.mapM (fun | .tmp t => pure (a.tmps.getD t undef) | .cell p t => do loadVar t (← asAddr (a.tmps.getD p undef))) : Sem (List Value)).run P w = .ok xs w ∧ aV E vs xs
 | [], vs, h => by simp [wA] at h; subst h; exact ⟨[], rfl, .nil _⟩
 | r :: rs, vs, h => by
  simp only [wA] at h
  split at h
  ·rename_i v hv
   split at h
   ·rename_i l hl
    simp only [Option.some.injEq] at h; subst h
    obtain ⟨xs, h1, h2⟩ := jl ht hs rs l hl
    have hx : ∃ x, ((match r with | .tmp t => pure (a.tmps.getD t undef) | .cell p t => do loadVar t (← asAddr (a.tmps.getD p undef))) : Sem Value).run P w = .ok x w ∧ a8 E v x := by
     cases r with
     | tmp t =>
      simp only [Ei,Option.some.injEq] at hv; subst hv
      exact ⟨_, rfl, hs.eval (.tmp t)⟩
     | cell p t =>
      simp only [Ei] at hv
      have hp := hs.eval (.tmp p)
      obtain ⟨y, h3, h4⟩ := qo ht hs hp hv
      refine ⟨y, ?_, h4⟩
      have Mf : ∃ ad, a.tmps.getD p undef = .pointer (some ad) := by
       have AP : a8 E (st.fr.getD p .undef) (a.tmps.getD p undef) := hp
       revert AP hv
       generalize st.fr.getD p .undef = q
       generalize a.tmps.getD p undef = z
       intro hv AP
       cases AP with
       | ptr => exact ⟨_, rfl⟩
       | dw => exact ⟨_, rfl⟩
       | cn => exact ⟨_, rfl⟩
       | _ => simp [lj] at hv
      obtain ⟨ad, UF⟩ := Mf
      have UG : (Instr.loadAt t (a.tmps.getD p undef)).run P w = .ok y w := h3
      show ((do loadVar t (← asAddr (a.tmps.getD p undef))) : Sem Value).run P w = _
      rw [UF] at UG ⊢
      simpa [Instr.loadAt, Instr.sureAddr, asAddr] using UG
    obtain ⟨x, h3, h4⟩ := hx
    refine ⟨x :: xs, ?_, .cons h4 h2⟩
    simp only [List.mapM_cons,Sem.run_bind]
    rw [h3]
    simp only [Result.andThen_ok]
    rw [h1]
    rfl
   ·cases h
  ·cases h

theorem AQ {P : Program} {tt : Table} (ht : TT P tt) {E : Env} {w : World} {a : Act} {st : St} (hs : bc E w a st) {fn : Func} {r : V} (h : wB tt fn.results st = some r) :
  ∃ keys x, (results fn a.tmps).run P w = .ok x w ∧ a8 (E.kH w keys).pure r x := by
 unfold wB at h
 have run : ∀ xs : List Value, (fn.results.toList.mapM (fun | .tmp t => pure (a.tmps.getD t undef) | .cell p t => do loadVar t (← asAddr (a.tmps.getD p undef))) : Sem (List Value)).run P w = .ok xs w →
   (results fn a.tmps).run P w = .ok (if h : xs.toArray.size = 1 then xs.toArray[0] else .tuple xs.toArray) w := fun xs hx => by
  unfold results
  rw [Array.mapM_eq_mapM_toList]
  simp only [Sem.run_bind,Sem.run_map]
  erw [hx]
  rfl
 split at h
 ·rename_i v hv
  obtain ⟨xs, h1, h2⟩ := jl ht hs _ _ hv
  obtain ⟨x, ys, rfl, h3, h4⟩ := h2.of_cons
  have := h4.of_nil; subst this
  exact ⟨refs v, x, run _ h1, uJ hs h3 h fun k hk => hk⟩
 ·rename_i vs bL hv
  obtain ⟨xs, h1, h2⟩ := jl ht hs _ _ hv
  have hl : xs.toArray.size ≠ 1 := by
   have := h2.1
   intro he
   match vs, xs, this, he with
   | [v], _, _, _ => exact bL v rfl
   | [], [], _, he => simp at he
   | [], _ :: _, h, _ => simp at h
   | _ :: _ :: _, [], h, _ => simp at h
   | _ :: _ :: _, _ :: [], h, _ => simp at h
   | _ :: _ :: _, _ :: _ :: _, _, he => simp at he
  have h3 := run _ h1
  rw [dif_neg hl] at h3
  exact ⟨refs (.ch vs), _, h3, uJ hs (.ch _ _ _ (by simpa using h2.1) fun i c x hc hx => h2.2 i c x hc (by simpa using hx)) h fun k hk => hk⟩
 ·cases h

def cE (fn : Func) (args : List V) (mem : List aC) : St := { fr := args ++ List.replicate (fn.ntmps - args.length) (.sc undef), mem := mem }
theorem qD {E : Env} (fn : Func) {args : List V} {mem : List aC} {xs : Array Value} (hx : aV E args xs.toList) : aV E (cE fn args mem).fr (xs ++ Array.replicate (fn.ntmps - xs.size) undef).toList := by
 have hl : args.length = xs.size := by have := hx.1; simpa using this
 simp only [cE,Array.toList_append,Array.toList_replicate,hl]
 refine hx.append ⟨by simp, fun i v x hv hx => ?_⟩
 rw [List.getElem?_replicate] at hv hx
 split at hv
 ·rename_i hi; rw [if_pos hi] at hx; cases hv; cases hx; exact .sc _ _
 ·cases hv

theorem wC {P : Program} {w : World} {r : Nat} (h : w.heap[r]? = some (.deferred (some []))) : (Instr.takeDeferred r).run P w = .ok [] { w with heap := w.heap.setIfInBounds r (.deferred none) } := by
 simp [Instr.takeDeferred, getObj, setObj, Sem.run, h, bind, Sem.bind, pure]

theorem kS {P : Program} {fn : Func} {tmps : Array Value} {R : Ending → World → Prop} : ∀ (rs : List Nat) (w : World), rs.Nodup → (∀ r ∈ rs, w.heap[r]? = some (.deferred (some []))) →
  (∀ w', w'.os = w.os → w'.tape = w.tape → w'.output = w.output → w'.heap.size = w.heap.size → (∀ b, b ∉ rs → w'.heap[b]? = w.heap[b]?) → ∃ v, (results fn tmps).run P w' = .ok v w' ∧ R (.returned v) w') →
  LeavesInM (WF none) 0 P fn tmps R (rs.map (fun r => { target := .collected r, args := #[] })) .returning w
 | [], w, _, _, h => by
  obtain ⟨v, h1, h2⟩ := h w rfl rfl rfl rfl fun _ _ => rfl
  exact ⟨v, h1, h2⟩
 | r :: rs, w, hn, hr, h => by
  refine ⟨by simp, .inl ⟨r, _, rfl, wC (hr r (List.mem_cons_self ..)), ?_⟩⟩
  rw [List.nodup_cons] at hn
  have ug : ∀ b, b ≠ r → (w.heap.setIfInBounds r (.deferred none))[b]? = w.heap[b]? := fun b hb => Array.getElem?_setIfInBounds_ne (fun e => hb e.symm)
  refine kS rs _ hn.2 (fun r' uI => ?_) fun w' h1 h2 h3 h4 h5 => ?_
  ·rw [ug r' (fun e => hn.1 (e ▸ uI))]; exact hr r' (List.mem_cons_of_mem _ uI)
  ·exact h w' h1 h2 h3 (by rw [h4]; simp) fun b hb => by
    simp only [List.mem_cons,not_or] at hb
    rw [h5 b hb.2, ug b hb.1]

theorem bc.GG {E : Env} {w w' : World} {a : Act} {st : St} (hs : bc E w a st) {rs : List Nat} (hr : ∀ r ∈ rs, w.heap[r]? = some (.deferred (some [])) ∧ ∀ k v e c, E.aM k v ≠ some (r, e, c)) (jW : w'.heap.size = w.heap.size)
  (hh : ∀ b, b ∉ rs → w'.heap[b]? = w.heap[b]?) : bc E w' a st := by
 refine ⟨fun ad x hx => ?_, fun k v g e c h => by rw [jW]; exact hs.lt _ _ _ _ _ h, fun k B hk => ?_, hs.top, hs.bW, hs.apart, hs.fr⟩
 ·have hc := hs.F ad x hx
  have : ad.block ∉ rs := fun jg => by
   have := (hr _ jg).1
   simp [World.cell?, this] at hc
  rw [← hc]; simp [World.cell?, hh _ this]
 ·exact (hs.mem k B hk).mono E.le_refl (fun _ h => h) (fun g e c h => hh g fun jg => (hr g jg).2 _ _ _ _ h) fun _ _ _ _ _ h => h

theorem GH {P : Program} {tt : Table} (ht : TT P tt) {f : FuncId} {fn : Func} {body : Code} {args : List V} {r : V} (hf : P.funcs[f]? = some fn) (hb : fn.body = some body)
  (bO : ∀ (xs : Array Value) (w : World), (callFunc f xs).run P w = .ok (.enter f xs) w)
  (h : dA P none 0 body (cE fn args []) fun ex st' => (ex = .ret ∨ ex = .normal) ∧ wB tt fn.results st' = some r) : aR P f args r := by
 refine ⟨bO, fun F hg w xs hF hx => ya (n := 0) (callsIn_of_wp_marks hf hb trivial ?_)⟩
 have hs : bc ⟨F, fun _ _ => none, hg⟩ w { tmps := xs ++ Array.replicate (fn.ntmps - xs.size) undef, defers := [] } (cE fn args []) := by
  refine ⟨hF, (fun k v g e c h => by cases h), (fun k B h => by simp [cE] at h), (fun k _ v => rfl), (fun k B h => by simp [cE] at h), (fun k k' v v' g e c e' c' h => by cases h), qD fn hx⟩
 refine wpIn_mono (h _ w (fun k _ v => rfl) _ w _ (dO.refl _ w) hs (.nil _ _ _)) ?_
 rintro e a' w' ⟨E', st', h1, h2, ⟨rs, hd, j3, Gj⟩, he, hr⟩
 have post : LeavesInM (WF none) 0 P fn a'.tmps (fun e w' => ∃ F' x, e = .returned x ∧ (∀ ad y, F ad = some y → F' ad = some y) ∧ (∀ ad y, F' ad = some y → w'.cell? ad = some y) ∧ (∀ ad y, F' ad = some y → F ad = some y ∨ w.heap.size ≤ ad.block) ∧
   (∃ JY, a8 ⟨F', fun _ _ => none, JY⟩ r x) ∧ Below w.heap.size w w') a'.defers .returning w' := by
  rw [hd]
  refine kS rs w' j3 (fun r hr => (Gj r hr).2.1) fun w2 k1 k2 k3 k4 k5 => ?_
  have Aw := h1.GG (fun r hr => (Gj r hr).2) k4 k5
  obtain ⟨keys, x, h3, h4⟩ := AQ ht Aw hr
  have hold : ∀ r ∈ rs, w.heap.size ≤ r := fun r hr => (Gj r hr).1
  refine ⟨x, h3, (E'.kH w2 keys).F, x, rfl, fun ad y hy => (Env.pK E' w2 keys).F _ _ (h2.le.F _ _ hy), fun ad y hy => Env.CP Aw.F hy, fun ad y hy => ?_, ⟨_, h4⟩, ⟨k1.trans h2.os, k2.trans h2.tape, k3.trans h2.output, by rw [k4]; exact h2.size, fun b hb => (k5 b fun jg => by have := hold b jg; omega).trans (h2.heap b hb (by simp))⟩⟩
  rcases Env.wu hy with h | ⟨k, -, e, c, h⟩
  ·rcases h2.F _ _ h with h | h | ⟨k0, v0, e0, c0, h⟩
   ·exact .inl h
   ·exact .inr h
   ·cases h
  ·rcases h2.aM _ _ _ _ _ h with ⟨k0, v0, e0, c0, h⟩ | h
   ·cases h
   ·exact .inr h
 rcases he with rfl | rfl <;> exact post
end Go.Eng
end

section
namespace Go.Eng
variable [aK]

def mJ : List (Nat × Ti) → Table
 | [], _ => none
 | (k, i) :: r, t => if t = k then some i else mJ r t

def wD : Value → Value → Bool
 | .bool a, .bool b => a == b
 | .int k n, .int k' n' => k == k' && n == n'
 | .string a, .string b => a.data == b.data
 | .pointer none, .pointer none => true
 | .slice none a b, .slice none c d => a == c && b == d
 | .map none, .map none => true
 | .nilFunc, .nilFunc => true
 | .nilIface, .nilIface => true
 | _, _ => false
def jP : List Value → List Value → Bool
 | [], [] => true
 | a :: r, b :: s => wD a b && jP r s
 | _, _ => false
theorem uM {a b : Value} (h : wD a b = true) : a = b := by
 unfold wD at h
 split at h
 ·simp at h; rw [h]
 ·simp at h; rw [h.1, h.2]
 ·rename_i a b
  have : a.data = b.data := by simpa using h
  congr 1
  cases a; cases b; simp_all
 ·rfl
 ·simp at h; rw [h.1, h.2]
 ·rfl
 ·rfl
 ·rfl
 ·cases h
theorem kT : ∀ {a b : List Value}, jP a b = true → a = b
 | [], [], _ => rfl
 | x :: r, y :: s, h => by
  simp only [jP,Bool.and_eq_true] at h
  rw [uM h.1, kT h.2]
 | [], _ :: _, h => by simp [jP] at h
 | _ :: _, [], h => by simp [jP] at h

def pM (P : Program) : List Field → List (Nat × Nat) → Bool
 | [], [] => true
 | f :: r, p :: s => f.offset == p.1 && p.2 != 0 && (match P.info? f.type with | some i => i.size == p.2 | none => false) && pM P r s
 | _, _ => false

def J4 (P : Program) (t : TypeId) (i : Ti) : Bool :=
 match P.info? t with
 | none => false
 | some info => info.size == i.size && info.bytes == i.bytes && (match info.zero with | some z => jP z.cells.toList i.zero | none => false) &&
  match P.underlying t with
  | none => false
  | some d => (i.agg == (match d with | .struct _ => true | .array _ _ => true | _ => false)) &&
   (match i.elem with | none => true | some e => (match d with | .slice e' => e' == e | _ => false)) &&
   (match i.aO with | [] => true | fl => (match d with | .struct fs => pM P fs.toList fl | _ => false))

def CQ (P : Program) : List (Nat × Ti) → Bool
 | [] => true
 | (t, i) :: r => J4 P t i && CQ P r

theorem sf {P : Program} : ∀ {fs : List Field} {fl : List (Nat × Nat)}, pM P fs fl = true → fs.length = fl.length ∧ ∀ (k off sz : Nat), fl[k]? = some (off, sz) → ∃ f inf, fs[k]? = some f ∧ f.offset = off ∧ P.info? f.type = some inf ∧ inf.size = sz ∧ sz ≠ 0
 | [], [], _ => ⟨rfl, fun k off sz h => by simp at h⟩
 | f :: r, p :: s, h => by
  simp only [pM,Bool.and_eq_true,beq_iff_eq,bne_iff_ne] at h
  obtain ⟨⟨⟨h1, h2⟩, h3⟩, h4⟩ := h
  obtain ⟨h5, h6⟩ := sf h4
  refine ⟨by simp [h5], fun k off sz hk => ?_⟩
  cases k with
  | zero =>
   simp only [List.getElem?_cons_zero,Option.some.injEq] at hk; subst hk
   split at h3
   ·rename_i inf hi
    exact ⟨f, inf, rfl, h1, hi, by simpa using h3, h2⟩
   ·cases h3
  | succ k => exact h6 k off sz (by simpa using hk)
 | [], _ :: _, h => by simp [pM] at h
 | _ :: _, [], h => by simp [pM] at h

theorem CR {P : Program} {t : TypeId} {i : Ti} (h : J4 P t i = true) :
  (∃ info, P.info? t = some info ∧ info.size = i.size ∧ info.bytes = i.bytes ∧ ∃ z, info.zero = some z ∧ z.cells.toList = i.zero) ∧
  (∃ d, P.underlying t = some d ∧ (i.agg = true ↔ ((∃ fs, d = .struct fs) ∨ ∃ n e, d = .array n e)) ∧ (∀ e, i.elem = some e → d = .slice e) ∧
   (∀ (f off sz : Nat), i.aO[f]? = some (off, sz) → ∃ fs fd inf, d = .struct fs ∧ fs.size = i.aO.length ∧ fs[f]? = some fd ∧ fd.offset = off ∧ P.info? fd.type = some inf ∧ inf.size = sz ∧ sz ≠ 0)) := by
 unfold J4 at h
 split at h
 ·cases h
 ·rename_i info Ru
  simp only [Bool.and_eq_true,beq_iff_eq] at h
  obtain ⟨⟨⟨h1, h2⟩, h3⟩, h4⟩ := h
  split at h3
  ·rename_i z hz
   refine ⟨⟨info, Ru, h1, h2, z, hz, kT h3⟩, ?_⟩
   split at h4
   ·cases h4
   ·rename_i d hd
    simp only [Bool.and_eq_true,beq_iff_eq] at h4
    obtain ⟨⟨h5, h6⟩, h7⟩ := h4
    refine ⟨d, hd, ?_, ?_, ?_⟩
    ·rw [h5]
     cases d <;> simp
    ·intro e he
     rw [he] at h6
     dsimp only at h6
     split at h6
     ·simp at h6; rw [h6]
     ·cases h6
    ·intro f off sz hf
     split at h7
     ·rename_i Ma; rw [Ma] at hf; simp at hf
     ·split at h7
      ·rename_i fs
       obtain ⟨h8, h9⟩ := sf h7
       obtain ⟨fd, inf, UH, UI⟩ := h9 f off sz hf
       exact ⟨fs, fd, inf, rfl, by simpa using h8, by simpa using UH, UI⟩
      ·cases h7
  ·cases h3

theorem pO {P : Program} : ∀ {l : List (Nat × Ti)}, CQ P l = true → ∀ t i, mJ l t = some i → J4 P t i = true
 | [], _, t, i, h => by simp [mJ] at h
 | (k, j) :: r, h, t, i, ht => by
  simp only [CQ,Bool.and_eq_true] at h
  simp only [mJ] at ht
  split at ht
  ·rename_i hk; subst hk; cases ht; exact h.1
  ·exact pO h.2 t i ht
theorem tt_of {P : Program} {l : List (Nat × Ti)} (h : CQ P l = true) : TT P (mJ l) :=
 ⟨fun t i ht => (CR (pO h t i ht)).1, fun t i ht => (CR (pO h t i ht)).2⟩
end Go.Eng
end

section
namespace Go.Eng
variable [aK]

section
variable {P : Program} {tt : Table} {ρ : Option Nat} {n0 : Nat} {st : St} {Q : Exit → St → Prop}
theorem af (ht : TT P tt) {id : Nat} {ops : Array Oper} {y : Code} (h : ∀ K : St → Prop, (∀ st', dA P ρ n0 y st' Q → K st') → cZ P tt ops ops.toList st K) : dA P ρ n0 (.seq (.region id ops false) y) st Q :=
 bN (gE ht (h (fun st' => dA P ρ n0 y st' Q) fun _ h => h))
theorem bQ (ht : TT P tt) {id : Nat} {ops : Array Oper} (h : ∀ K : St → Prop, (∀ st', Q .normal st' → K st') → cZ P tt ops ops.toList st K) : dA P ρ n0 (.region id ops false) st Q :=
 gE ht (h (Q .normal) fun _ h => h)
def c5 : List Bool → List V → List V
 | _, [] => []
 | [], _ :: r => .undef :: c5 [] r
 | b :: m, v :: r => (if b = true then v else .undef) :: c5 m r
theorem nH {E : Env} : ∀ (m : List Bool) {vs : List V} {xs : List Value}, aV E vs xs → aV E (c5 m vs) xs
 | m, [], xs, h => by rw [h.of_nil]; cases m <;> exact .nil _
 | [], v :: r, xs, h => by
  obtain ⟨x, ys, rfl, h1, h2⟩ := h.of_cons
  exact .cons (.undef _ _) (nH [] h2)
 | b :: m, v :: r, xs, h => by
  obtain ⟨x, ys, rfl, h1, h2⟩ := h.of_cons
  refine .cons ?_ (nH m h2)
  cases b
  ·exact .undef _ _
  ·exact h1
theorem bc.mask {E : Env} {w : World} {a : Act} {st : St} (hs : bc E w a st) (m : List Bool) : bc E w a { st with fr := c5 m st.fr } :=
 ⟨hs.F, hs.lt, hs.mem, hs.top, hs.bW, hs.apart, nH m hs.fr⟩
theorem sg {c : Code} (n : Nat) (m : List Bool) (hn : n0 ≤ n) (hf : (c5 m st.fr).all (ah n) = true) (hm : (st.mem.take n).all (aB n) = true)
  (h : dA P ρ n0 c { fr := c5 m st.fr, mem := st.mem.take n } Q) : dA P ρ n0 c st Q :=
 oE (st' := { st with fr := c5 m st.fr }) (fun E w a hs => hs.mask m) (sd n [] hn hf hm h)
def GI (n0 : Nat) (st : St) (I : St → Prop) : Prop :=
 ∃ (n : Nat) (m : List Bool), n0 ≤ n ∧ (c5 m st.fr).all (ah n) = true ∧ (st.mem.take n).all (aB n) = true ∧ I { fr := c5 m st.fr, mem := st.mem.take n }
theorem nI {c : Code} : ∀ {n n' : Nat} {st : St}, n ≤ n' → jO P ρ n0 c n st Q → jO P ρ n0 c n' st Q
 | 0, _, _, _, h => h.elim
 | n + 1, 0, _, hn, _ => by omega
 | n + 1, n' + 1, st, hn, h => dA.mono h fun e st' hq => by
  cases e with
  | normal => exact nI (by omega) hq
  | _ => exact hq
theorem fY {c : Code} (I : Nat → St → Prop) (N : Nat) (h0 : GI n0 st (I N))
  (step : ∀ n st, I n st → dA P ρ n0 c st (ee (fun st' => ∃ k, k < n ∧ GI n0 st' (I k)) Q)) : dA P ρ n0 (.loop c) st Q := by
 have key : ∀ (n : Nat) (st : St), I n st → jO P ρ n0 c (n + 1) st Q := by
  intro n
  induction n using Nat.strongRecOn with
  | _ n ih =>
   intro st hi
   refine dA.mono (step n st hi) fun e st' hq => ?_
   cases e with
   | normal =>
    obtain ⟨k, hk, n1, m, h1, h2, h3, h4⟩ := hq
    have := ih k hk _ h4
    have : jO P ρ n0 c n { fr := c5 m st'.fr, mem := st'.mem.take n1 } Q := nI (by omega) this
    cases n with
    | zero => omega
    | succ n => exact sg n1 m h1 h2 h3 this
   | _ => exact hq
 obtain ⟨n1, m, h1, h2, h3, h4⟩ := h0
 exact sg n1 m h1 h2 h3 (oD (N + 1) (key N _ h4))
end

theorem bB {α β : Type} (P : Program) (s : Sem α) (f : α → Sem β) : aU P (s >>= f) = (aU P s).bind fun a => aU P (f a) := by
 show aU P (s.bind f) = _
 induction s with
 | pure a => rfl
 | program k ih => exact ih P
 | mark m k ih => exact ih
 | _ => rfl
theorem eU {P : Program} {T : TypeId} {d : TypeDesc} (h : P.underlying T = some d) : aU P (underlying T) = some d := by
 simp [underlying, bB, program, aU, h, pure]

section ints
variable (P : Program) (T : TypeId) (x y : Operand) (k : IntKind) (a b : Int)
theorem ND : bE P (kM .add T x y) (.sc (.int k a)) (.sc (.int k b)) = some (.sc (.int k (k.wrap (a + b)))) := by
 simp [bE, cb, kM, binOp, Op.intArith, eqGuard, aU, fg, bind, pure, Sem.bind]
theorem NF : bE P (kM .sub T x y) (.sc (.int k a)) (.sc (.int k b)) = some (.sc (.int k (k.wrap (a - b)))) := by
 simp [bE, cb, kM, binOp, Op.intArith, eqGuard, aU, fg, bind, pure, Sem.bind]
theorem NG : bE P (kM .mul T x y) (.sc (.int k a)) (.sc (.int k b)) = some (.sc (.int k (k.wrap (a * b)))) := by
 simp [bE, cb, kM, binOp, Op.intArith, eqGuard, aU, fg, bind, pure, Sem.bind]
theorem NH : bE P (kM .lss T x y) (.sc (.int k a)) (.sc (.int k b)) = some (.sc (.bool (decide (a < b)))) := by
 simp [bE, cb, kM, binOp, Op.intCmp, eqGuard, aU, fg, bind, pure, Sem.bind]
theorem NI : bE P (kM .leq T x y) (.sc (.int k a)) (.sc (.int k b)) = some (.sc (.bool (decide (a ≤ b)))) := by
 simp [bE, cb, kM, binOp, Op.intCmp, eqGuard, aU, fg, bind, pure, Sem.bind]
theorem NJ : bE P (kM .gtr T x y) (.sc (.int k a)) (.sc (.int k b)) = some (.sc (.bool (decide (b < a)))) := by
 simp [bE, cb, kM, binOp, Op.intCmp, eqGuard, aU, fg, bind, pure, Sem.bind]
theorem NK : bE P (kM .geq T x y) (.sc (.int k a)) (.sc (.int k b)) = some (.sc (.bool (decide (b ≤ a)))) := by
 simp [bE, cb, kM, binOp, Op.intCmp, eqGuard, aU, fg, bind, pure, Sem.bind]
theorem NL : bE P (kM .eql T x y) (.sc (.int k a)) (.sc (.int k b)) = some (.sc (.bool (decide (a = b)))) := by
 simp [bE, cb, kM, binOp, Op.intCmp, eqGuard, aU, fg, bind, pure, Sem.bind]
 rfl
theorem NM : bE P (kM .neq T x y) (.sc (.int k a)) (.sc (.int k b)) = some (.sc (.bool (!decide (a = b)))) := by
 simp [bE, cb, kM, binOp, Op.intCmp, eqGuard, aU, fg, bind, pure, Sem.bind]
 rfl
theorem NN (ts : Array TypeId) (ty : TypeId) : dh P (Builtin.max_ ts ty) [.sc (.int k a), .sc (.int k b)] = some (.sc (.int k (if a < b then b else a))) := by
 simp [dh, jY, cb, Builtin.max_, Builtin.max2, aU, fg, bind, pure, Sem.bind]
theorem NO (ts : Array TypeId) (ty : TypeId) : dh P (Builtin.min_ ts ty) [.sc (.int k a), .sc (.int k b)] = some (.sc (.int k (if b < a then b else a))) := by
 simp [dh, jY, cb, Builtin.min_, Builtin.min2, aU, fg, bind, pure, Sem.bind]
theorem NP (t : Bool) : nd P (Op.unary .not) (.sc (.bool t)) = some (.sc (.bool (!t))) := by
 simp [nd, cb, Op.unary, aU, fg, pure]
end ints

section strings
variable (P : Program) (T : TypeId) (x y : Operand) (a b : ByteArray)
theorem J5 : bE P (kM .eql T x y) (.sc (.string a)) (.sc (.string b)) = some (.sc (.bool (a.toList == b.toList))) := by
 simp [bE, cb, kM, binOp, Op.stringOp, eqGuard, aU, fg, bind, pure, Sem.bind]
theorem J6 : bE P (kM .neq T x y) (.sc (.string a)) (.sc (.string b)) = some (.sc (.bool (!(a.toList == b.toList)))) := by
 simp [bE, cb, kM, binOp, Op.stringOp, eqGuard, aU, fg, bind, pure, Sem.bind]
theorem J7 : bE P (kM .lss T x y) (.sc (.string a)) (.sc (.string b)) = some (.sc (.bool (Op.bytesLess a.toList b.toList))) := by
 simp [bE, cb, kM, binOp, Op.stringOp, eqGuard, aU, fg, bind, pure, Sem.bind]
theorem wE (h : ((a.size + b.size : Nat) : Int) ≤ IntKind.i64.max) : bE P (kM .add T x y) (.sc (.string a)) (.sc (.string b)) = some (.sc (.string (a ++ b))) := by
 have h' : ¬ ((a.size + b.size : Nat) : Int) > IntKind.i64.max := by omega
 simp only [bE,cb,kM,binOp,Op.stringOp,if_neg h']
 simp [eqGuard, aU, fg, bind, pure, Sem.bind]
theorem dI {P : Program} {T : TypeId} (hT : P.underlying T = some .string) (k : IntKind) (n : Int) (h0 : 0 ≤ n) {c : UInt8} (hc : a[n.toNat]? = some c) : bE P (Instr.index T) (.sc (.string a)) (.sc (.int k n)) = some (.sc (.int .u8 c.toNat)) := by
 simp [bE, cb, Instr.index, asIntOf, underlying, hT, h0, hc, aU, fg, bind, pure, Sem.bind, program]
theorem cH {P : Program} {tt : Table} {T : TypeId} (hT : P.underlying T = some .string) (ty : TypeId) : vR P tt #[T] ty [.sc (.string a)] = some (.sc (.int .i64 a.size)) := by
 simp [vR, dh, jY, cb, Builtin.len_, underlying, hT, aU, fg, bind, pure, Sem.bind, program, goInt]
theorem sh {P : Program} {tt : Table} {mem : List aC} {T : TypeId} (hT : P.underlying T = some .string) (k : IntKind) (n : Int) (h0 : 0 ≤ n) (hn : n ≤ a.size) :
  vP P tt mem T (.sc (.string a)) none (some (.sc (.int k n))) = some (.sc (.string (a.extract 0 n.toNat))) := by
 simp [vP, bE, cb, Instr.sliceAt, Instr.slice, Instr.sliceBounds, Instr.sliceBound, asIntOf, underlying, hT, h0, hn, aU, fg, bind, pure, Sem.bind, program]
theorem CS {P : Program} {src dst : TypeId} {d : TypeDesc} {k' : IntKind} (hs : P.underlying src = some d) (hd : P.underlying dst = some (.int k')) (k : IntKind) (n : Int) : nd P (convert src dst) (.sc (.int k n)) = some (.sc (.int k' (k'.wrap n))) := by
 simp [nd, cb, convert, underlying, hs, hd, Conv.intToInt, aU, fg, bind, pure, Sem.bind, program]
end strings
end Go.Eng
end

section
namespace Go.Eng
variable [aK]
open Go.RowKit (Below)

theorem dO.cut {E E' : Env} {w w' : World} (h : dO E w E' w') {n : Nat} (hn : ∀ k, n ≤ k → ∀ v, E.aM k v = none) : dO E w (E'.cut n) w' := by
 refine ⟨⟨h.le.F, fun k v t hk => ?_⟩, fun k v g e c hk => ?_, h.F, h.os, h.tape, h.output, h.size, h.heap⟩
 ·have : k < n := by
   rcases Nat.lt_or_ge k n with aL | cP
   ·exact aL
   ·rw [hn k cP v] at hk; cases hk
  exact (if_pos this).trans (h.le.aM _ _ _ hk)
 ·have : E'.aM k v = some (g, e, c) := by
   by_cases gF : k < n
   ·exact ((if_pos gF).symm.trans hk : E'.aM k v = _)
   ·have h2 : (E'.cut n).aM k v = none := if_neg gF
    rw [h2] at hk; cases hk
  exact h.aM _ _ _ _ _ this

def kU (tt : Table) (rs : Array ResultVar) (st : St) : Option V :=
 match wA tt st rs.toList with
 | some [v] => some v
 | some vs => some (.ch vs)
 | none => none

theorem wF {P : Program} {tt : Table} (ht : TT P tt) {E : Env} {w : World} {a : Act} {st : St} (hs : bc E w a st) {fn : Func} {r : V} (h : kU tt fn.results st = some r) : ∃ x, (results fn a.tmps).run P w = .ok x w ∧ a8 E r x := by
 unfold kU at h
 have run : ∀ xs : List Value, (fn.results.toList.mapM (fun | .tmp t => pure (a.tmps.getD t undef) | .cell p t => do loadVar t (← asAddr (a.tmps.getD p undef))) : Sem (List Value)).run P w = .ok xs w →
   (results fn a.tmps).run P w = .ok (if h : xs.toArray.size = 1 then xs.toArray[0] else .tuple xs.toArray) w := fun xs hx => by
  unfold results
  rw [Array.mapM_eq_mapM_toList]
  simp only [Sem.run_bind,Sem.run_map]
  erw [hx]
  rfl
 split at h
 ·rename_i v hv
  simp only [Option.some.injEq] at h; subst h
  obtain ⟨xs, h1, h2⟩ := jl ht hs _ _ hv
  obtain ⟨x, ys, rfl, h3, h4⟩ := h2.of_cons
  have := h4.of_nil; subst this
  exact ⟨x, run _ h1, h3⟩
 ·rename_i vs bL hv
  simp only [Option.some.injEq] at h; subst h
  obtain ⟨xs, h1, h2⟩ := jl ht hs _ _ hv
  have hl : xs.toArray.size ≠ 1 := by
   have := h2.1
   intro he
   match vs, xs, this, he with
   | [v], _, _, _ => exact bL v rfl
   | [], [], _, he => simp at he
   | [], _ :: _, h, _ => simp at h
   | _ :: _ :: _, [], h, _ => simp at h
   | _ :: _ :: _, _ :: [], h, _ => simp at h
   | _ :: _ :: _, _ :: _ :: _, _, he => simp at he
  have h3 := run _ h1
  rw [dif_neg hl] at h3
  exact ⟨_, h3, .ch _ _ _ (by simpa using h2.1) fun i c x hc hx => h2.2 i c x hc (by simpa using hx)⟩
 ·cases h

theorem AR {P : Program} {tt : Table} (ht : TT P tt) {f : FuncId} {fn : Func} {body : Code} {args : List V} {mem : List aC} {R : V → List aC → Prop} (hf : P.funcs[f]? = some fn) (hb : fn.body = some body)
  (bO : ∀ (xs : Array Value) (w : World), (callFunc f xs).run P w = .ok (.enter f xs) w)
  (h : dA P none mem.length body (cE fn args mem) fun ex st' => (ex = .ret ∨ ex = .normal) ∧ ∃ r n, mem.length ≤ n ∧ kU tt fn.results st' = some r ∧ ah n r = true ∧ (st'.mem.take n).all (aB n) = true ∧ R r (st'.mem.take n)) : fm P f args mem R := by
 refine ⟨bO, fun E w xs F3 hx => ya (n := 0) (callsIn_of_wp_marks hf hb trivial ?_)⟩
 have hs : bc E w { tmps := xs ++ Array.replicate (fn.ntmps - xs.size) undef, defers := [] } (cE fn args mem) := ⟨F3.F, F3.lt, F3.mem, F3.top, F3.bW, F3.apart, qD fn hx⟩
 refine wpIn_mono (h E w F3.top E w _ (dO.refl _ w) hs (.nil _ _ _)) ?_
 rintro e a' w' ⟨E', st', h1, h2, ⟨rs, hd, j3, Gj⟩, he, r, n, hn, hr, hbr, Ju, hR⟩
 have post : LeavesInM (WF none) 0 P fn a'.tmps (fun e w' => ∃ E' x r aF, e = .returned x ∧ R r aF ∧ dO E w E' w' ∧ bc E' w' { tmps := #[], defers := [] } { fr := [], mem := aF } ∧ a8 E' r x) a'.defers .returning w' := by
  rw [hd]
  refine kS rs w' j3 (fun r hr => (Gj r hr).2.1) fun w2 k1 k2 k3 k4 k5 => ?_
  have Aw := h1.GG (fun r hr => (Gj r hr).2) k4 k5
  obtain ⟨x, h3, h4⟩ := wF ht Aw hr
  have dX : dO E w E' w2 := ⟨h2.le, h2.aM, h2.F, k1.trans h2.os, k2.trans h2.tape, k3.trans h2.output, by rw [k4]; exact h2.size, fun b hb bL => (k5 b fun jg => by have := (Gj b jg).1; omega).trans (h2.heap b hb bL)⟩
  exact ⟨x, h3, E'.cut n, x, r, _, rfl, hR, dX.cut fun k hk v => F3.top k (by dsimp only; omega) v, Aw.bare.cut (by rfl) Ju, fG h4 hbr⟩
 rcases he with rfl | rfl <;> exact post

theorem lY {P : Program} {tt : Table} (ht : TT P tt) {f : FuncId} {fn : Func} {body : Code} {args : List V} {mem : List aC} {r : V} {aF : List aC} (n : Nat) (hn : mem.length ≤ n) (hf : P.funcs[f]? = some fn) (hb : fn.body = some body)
  (bO : ∀ (xs : Array Value) (w : World), (callFunc f xs).run P w = .ok (.enter f xs) w)
  (h : dA P none mem.length body (cE fn args mem) fun ex st' => (ex = .ret ∨ ex = .normal) ∧ kU tt fn.results st' = some r ∧ ah n r = true ∧ (st'.mem.take n).all (aB n) = true ∧ aF = st'.mem.take n) : bF P f args mem r aF :=
 (AR ht hf hb bO (R := fun r' m' => r' = r ∧ m' = aF) (h.mono fun ex st' ⟨h1, h2, h3, h4, h5⟩ => ⟨h1, r, n, hn, h2, h3, h4, rfl, h5.symm⟩)).VM

def oF : List Tmp → List V → List V → List V
 | t :: ts, v :: vs, fr => oF ts vs (fr.set t v)
 | _, _, fr => fr
theorem uN {E : Env} : ∀ (ts : List Tmp) {vs : List V} {xs : List Value} {fr : List V} {tmps : Array Value}, aV E vs xs → aV E fr tmps.toList → aV E (oF ts vs fr) ((ts.zip xs).foldl (fun (tmps : Array Value) (p : Tmp × Value) => tmps.setIfInBounds p.1 p.2) tmps).toList
 | [], vs, xs, fr, tmps, _, h => by cases vs <;> exact h
 | t :: ts, [], xs, fr, tmps, hv, h => by rw [hv.of_nil]; exact h
 | t :: ts, v :: vs, xs, fr, tmps, hv, h => by
  obtain ⟨x, ys, rfl, h1, h2⟩ := hv.of_cons
  simp only [oF,List.zip_cons_cons,List.foldl_cons]
  exact uN ts h2 (by simpa using h.set t h1)

def si : Exit → Option (Option Code)
 | .normal => some none
 | .ret => some (some .ret)
 | .exit id => some (some (.exit id))
 | .goto l => some (some (.goto l))
 | _ => none

theorem oG {P : Program} {k : Nat} {fr vs : List V} {params : Array Tmp} {assign body : Code} {mem : List aC} {R : Bool → List aC → Prop} (hk : mem[k]? = some (.loop .ready none fr params assign body)) (hlen : vs.length = params.size)
  (h : ∀ l, dA P (some l) mem.length assign { fr := oF params.toList vs fr, mem := mem } fun ex st1 => ex = .normal ∧ ∃ Mh p1 J8 J9, st1.mem[k]? = some (.loop .ready none Mh p1 J8 J9) ∧
   dA P (some l) mem.length body { st1 with mem := st1.mem.set k (.loop .busy none Mh p1 J8 J9) } fun ex st2 => ∃ n jump s2 UJ Ka p2 GJ GK, mem.length ≤ n ∧ si ex = some jump ∧ st2.mem[k]? = some (.loop s2 UJ Ka p2 GJ GK) ∧
    ((st2.mem.set k (.loop (if jump.isNone then .ready else .done) jump Ka p2 GJ GK)).take n).all (aB n) = true ∧
    R jump.isNone ((st2.mem.set k (.loop (if jump.isNone then .ready else .done) jump Ka p2 GJ GK)).take n)) :
  Eg P k vs mem R := by
 intro E w xs l e c hs hx hb
 obtain ⟨l', fn, tmps, db, dt, hh, hr, hf⟩ := hs.mem k _ hk
 rw [hb] at dt; cases dt
 have eC : ∀ {W : World} {R : Loop}, W.heap[l]? = some (.loop R) → (Instr.getLoop l).run P W = .ok R W := fun {W R} hW => by
  simp [Instr.getLoop, getObj, Sem.run, hW, bind, Sem.bind, pure]
 have ug : ∀ {W : World} {R : Loop} {o : Obj}, W.heap[l]? = some (.loop R) → (setObj l o).run P W = .ok () { W with heap := W.heap.setIfInBounds l o } := fun {W R o} hW => by
  simp [setObj, Sem.run, hW]
 have xC : xs.size = params.size := by have := hx.1; simp at this; omega
 refine ⟨fn, (params.zip xs).foldl (fun tmps (p : Tmp × Value) => tmps.setIfInBounds p.1 p.2) tmps, assign, body, ?_, ?_⟩
 ·simp only [Instr.yield,Sem.run_bind,eC hh,Result.andThen_ok,xC,ne_eq,not_true_eq_false,if_false]
  rfl
 ·refine roundIn_of_wpIn trivial ?_
  have kF : bc E w { tmps := (params.zip xs).foldl (fun tmps (p : Tmp × Value) => tmps.setIfInBounds p.1 p.2) tmps, defers := [] } { fr := oF params.toList vs fr, mem := mem } := by
   refine ⟨hs.F, hs.lt, hs.mem, hs.top, hs.bW, hs.apart, ?_⟩
   have := uN (E := E) params.toList hx hr
   rw [← Array.foldl_toList, Array.toList_zip]
   exact this
  refine wpIn_mono (h l E w hs.top E w _ (dO.refl E w) kF (.nil _ _ _)) ?_
  rintro ex a1 w1 ⟨E1, st1, h1, h2, VR, rfl, Mh, p1, J8, J9, dP, h3⟩
  obtain ⟨l1, YO, Mi, YP, oA, Qu, AE, Gy⟩ := h1.mem k _ dP
  have qE : E1.aM k 0 = some (l, 0, 0) := h2.le.aM _ _ _ hb
  rw [qE] at oA; cases oA
  have only : ∀ (W : World) (o : Obj), ou W { W with heap := W.heap.setIfInBounds l o } l := fun W o => ⟨rfl, rfl, rfl, by simp, fun b hb => Array.getElem?_setIfInBounds_ne (fun e => hb e.symm)⟩
  have aL : ∀ {W : World} {o : Obj}, W.heap[l]? = some o → l < W.heap.size := fun {W o} hW => (Array.getElem?_eq_some_iff.1 hW).1
  have t1 := h1.v8 dP rfl (B' := .loop .busy none Mh p1 J8 J9) rfl qE Gy (only w1 (.loop { state := .busy, pending := none, fn := YO, tmps := Mi, params := p1, assign := J8, body := J9, defers := YP }))
   ⟨l, YO, Mi, YP, qE, by simp [aL Qu], AE, Gy⟩
  refine ⟨_, by simp [Instr.beginRound, eC Qu, ug Qu]; rfl, ?_⟩
  refine wpIn_mono (h3 E w hs.top E1 _ a1 (h2.trans t1.2) t1.1 ?_) ?_
  ·exact VR.Eh t1.2
  ·rintro ex a2 w2 ⟨E2, st2, h4, h5, -, n, jump, s2, UJ, Ka, p2, GJ, GK, qX, hj, iz, Ju, hR⟩
   obtain ⟨l2, VS, GL, VT, wq, L4, Ea, F0⟩ := h4.mem k _ iz
   have NQ : E2.aM k 0 = some (l, 0, 0) := h5.le.aM _ _ _ hb
   rw [NQ] at wq; cases wq
   have t2 := h4.v8 iz rfl (B' := .loop (if jump.isNone then .ready else .done) jump Ka p2 GJ GK) rfl NQ F0
    (only w2 (.loop { state := if jump.isNone then .ready else .done, pending := jump, fn := VS, tmps := GL, params := p2, assign := GJ, body := GK, defers := VT })) ⟨l, VS, GL, VT, NQ, by simp [aL L4], Ea, F0⟩
   have run : (Instr.endRound l jump).run P w2 = .ok (.bool jump.isNone) { w2 with heap := w2.heap.setIfInBounds l (.loop { state := if jump.isNone then .ready else .done, pending := jump, fn := VS, tmps := GL, params := p2, assign := GJ, body := GK, defers := VT }) } := by
    simp [Instr.endRound, eC L4, ug L4]
   have fin : ∃ v w', (Instr.endRound l jump).run P w2 = .ok v w' ∧ ∃ E' b aF, Ending.returned v = .returned (.bool b) ∧ R b aF ∧ dO E w E' w' ∧ bc E' w' { tmps := #[], defers := [] } { fr := [], mem := aF } :=
    ⟨_, _, run, E2.cut n, _, _, rfl, hR, (h5.trans t2.2).cut (fun k hk v => hs.top k (Nat.le_trans qX hk) v), t2.1.bare.cut (by rfl) Ju⟩
   cases ex <;> simp only [si,Option.some.injEq,reduceCtorEq] at hj <;> subst hj <;> exact fin

theorem yc {P : Program} {k : Nat} {fr vs : List V} {params : Array Tmp} {assign body : Code} {mem aF : List aC} {b : Bool} (hk : mem[k]? = some (.loop .ready none fr params assign body)) (hlen : vs.length = params.size)
  (h : ∀ l, dA P (some l) mem.length assign { fr := oF params.toList vs fr, mem := mem } fun ex st1 => ex = .normal ∧ st1.mem[k]? = some (.loop .ready none fr params assign body) ∧
   dA P (some l) mem.length body { st1 with mem := st1.mem.set k (.loop .busy none fr params assign body) } fun ex st2 => ∃ jump, si ex = some jump ∧ b = jump.isNone ∧ st2.mem[k]? = some (.loop .busy none fr params assign body) ∧
    ((st2.mem.set k (.loop (if jump.isNone then .ready else .done) jump fr params assign body)).take mem.length).all (aB mem.length) = true ∧
    aF = (st2.mem.set k (.loop (if jump.isNone then .ready else .done) jump fr params assign body)).take mem.length) :
  Jz P k vs mem b aF :=
 (oG hk hlen (R := fun b' m' => b' = b ∧ m' = aF) fun l => (h l).mono fun ex st1 ⟨h1, h2, h3⟩ => ⟨h1, _, _, _, _, h2, h3.mono fun ex st2 ⟨j, h4, h5, h6, h7, h8⟩ => ⟨_, j, _, _, _, _, _, _, Nat.le_refl _, h4, h6, h7, h5.symm, h8.symm⟩⟩).VM

theorem lZ {P : Program} {n0 : Nat} {st : St} {Q : Exit → St → Prop} {f : Operand} {params : Array Tmp} {assign body : Code} {g : FuncId} {vs : List V} {R : V → List aC → Prop} (hc : bw (st.eval f) [.gr st.mem.length] = some (g, vs))
  (Qx : fm P g vs (st.mem ++ [.loop .ready none st.fr params assign body]) R)
  (hq : ∀ r qY, R r qY → ∃ s iU Qy JA JB JC, qY[st.mem.length]? = some (.loop s iU Qy JA JB JC) ∧ s ≠ .busy ∧ (match iU with | none => Q .normal { st with mem := qY.set st.mem.length .dead } | some c => dA P none n0 c { st with mem := qY.set st.mem.length .dead } Q)) :
  dA P none n0 (.rangeFunc f params assign body) st Q := fun E0 w0 h0 E w a he hs mI => by
 refine wpIn_rangeFunc fun fn _ => ?_
 -- cz VU block, cz VV record
 let w1 : World := w.alloc (.deferred (some []))
 let L : Loop := { state := .ready, pending := none, fn := fn, tmps := a.tmps, params := params, assign := assign, body := body, defers := w.heap.size }
 let w2 : World := w1.alloc (.loop L)
 have gF : ∀ v, E.aM st.mem.length v = none := hs.top _ (Nat.le_refl _)
 have hle : E.le (E.with st.mem.length 0 (w.heap.size + 1, 0, 0)) := Env.gO (gF 0) _
 have cp : (E.with st.mem.length 0 (w.heap.size + 1, 0, 0)).aM st.mem.length 0 = some (w.heap.size + 1, 0, 0) := if_pos ⟨rfl, rfl⟩
 have hblk : ∀ k v, ¬ (k = st.mem.length ∧ v = 0) → (E.with st.mem.length 0 (w.heap.size + 1, 0, 0)).aM k v = E.aM k v := fun k v h => if_neg h
 have hold : ∀ b, b < w.heap.size → w2.heap[b]? = w.heap[b]? := fun b hb => (Go.RowKit.Below.heap_alloc w1 _ b (by simp [w1]; omega)).trans (Go.RowKit.Below.heap_alloc w _ b hb)
 have gq : w2.heap[w.heap.size + 1]? = some (.loop L) := by
  have : w1.heap.size = w.heap.size + 1 := by simp [w1]
  show (w1.alloc (.loop L)).heap[w.heap.size + 1]? = _
  rw [← this]; exact heap_alloc_new w1 _
 have dX : dO E w (E.with st.mem.length 0 (w.heap.size + 1, 0, 0)) w2 := by
  refine ⟨hle, fun k v g e c hk => ?_, fun ad x hx => .inl hx, rfl, rfl, rfl, by simp [w2, w1]; omega, fun b hb _ => hold b hb⟩
  by_cases ck : k = st.mem.length ∧ v = 0
  ·obtain ⟨rfl, rfl⟩ := ck; rw [cp] at hk; cases hk; exact .inr (by omega)
  ·rw [hblk k v ck] at hk; exact .inl ⟨_, _, _, _, hk⟩
 have hFn : ∀ o, E.F ⟨w.heap.size + 1, o, none⟩ = none := fun o => by
  cases hx : E.F ⟨w.heap.size + 1, o, none⟩ with
  | none => rfl
  | some x => have := World.block_lt_of_cell? w _ (hs.F _ _ hx); simp at this; omega
 have Aw : bc (E.with st.mem.length 0 (w.heap.size + 1, 0, 0)) w2 { tmps := #[], defers := [] } { fr := [], mem := st.mem ++ [.loop .ready none st.fr params assign body] } := by
  have eC : ∀ {k : Nat} {B : aC}, (st.mem ++ [aC.loop .ready none st.fr params assign body])[k]? = some B → (k < st.mem.length ∧ st.mem[k]? = some B) ∨ (k = st.mem.length ∧ B = .loop .ready none st.fr params assign body) := fun {k B} h => by
   rw [List.getElem?_append] at h
   split at h
   ·rename_i aL; exact .inl ⟨aL, h⟩
   ·have Kb : k - st.mem.length = 0 := by
     rcases Nat.eq_zero_or_pos (k - st.mem.length) with h0 | h0
     ·exact h0
     ·rw [List.getElem?_eq_none (by simp; omega)] at h; cases h
    rw [Kb] at h; simp at h
    exact .inr ⟨by omega, h.symm⟩
  refine ⟨fun ad x hx => ?_, fun k v g e c hk => ?_, fun k B hk => ?_, fun k hk v => ?_, fun k B hk v hv => ?_, fun k k' v v' g e1 c1 e2 c2 h5 h6 => ?_, .nil _⟩
  ·have hc := hs.F ad x hx
   rw [← hc]; simp [World.cell?, hold _ (World.block_lt_of_cell? w ad hc)]
  ·by_cases ck : k = st.mem.length ∧ v = 0
   ·obtain ⟨rfl, rfl⟩ := ck; rw [cp] at hk; cases hk; simp [w2, w1]
   ·rw [hblk k v ck] at hk; have := hs.lt _ _ _ _ _ hk; simp [w2, w1]; omega
  ·rcases eC hk with ⟨aL, fF⟩ | ⟨rfl, rfl⟩
   ·exact (hs.mem k B fF).mono hle (fun v h => by rw [hblk k v (by omega)]; exact h) (fun g e c h => hold g (hs.lt _ _ _ _ _ h)) fun _ _ _ _ _ h => h
   ·exact ⟨w.heap.size + 1, fn, a.tmps, w.heap.size, cp, gq, hs.fr.mono hle, hFn⟩
  ·dsimp only at hk
   simp at hk
   rw [hblk k v (by omega)]; exact hs.top k (by omega) v
  ·rcases eC hk with ⟨aL, fF⟩ | ⟨rfl, rfl⟩
   ·rw [hblk k v (by omega)]; exact hs.bW k B fF v hv
   ·rw [hblk _ v (by simp [aC.bW] at hv; omega)]; exact gF v
  ·by_cases ck : k = st.mem.length ∧ v = 0 <;> by_cases vY : k' = st.mem.length ∧ v' = 0
   ·rw [ck.1, vY.1]
   ·obtain ⟨rfl, rfl⟩ := ck; rw [cp] at h5; cases h5; rw [hblk k' _ vY] at h6; have := hs.lt _ _ _ _ _ h6; omega
   ·obtain ⟨rfl, rfl⟩ := vY; rw [cp] at h6; cases h6; rw [hblk k _ ck] at h5; have := hs.lt _ _ _ _ _ h5; omega
   ·rw [hblk k _ ck] at h5; rw [hblk k' _ vY] at h6
    exact hs.apart _ _ _ _ _ _ _ _ _ h5 h6
 have vL : aV (E.with st.mem.length 0 (w.heap.size + 1, 0, 0)) [.gr st.mem.length] (#[Value.func (.yield (w.heap.size + 1)) #[] #[]] : Array Value).toList := .cons (.gr _ _ _ 0 0 cp) (.nil _)
 obtain ⟨d, ys, hy, Mc, yb⟩ := r9 (P := P) (w := w2) ((hs.eval f).mono hle) vL hc
 have VW := mI.Eh dX
 refine ⟨w.heap.size + 1, [{ target := .collected w.heap.size, args := #[] }], w2, d, w2, g, ys, w2, ?_, ?_, fun _ _ => trivial, yb.trans (Qx.1 ys w2), fun h => by simp [WF] at h, ?_⟩
 ·exact run_enterLoop_outer _ _ _ _ _
 ·refine Eq.trans ?_ Mc
  simp only [rangeCall,resolve]
  simp [Act.eval]
 ·refine sb ((Qx.2 _ w2 ys Aw hy).mono ?_)
  rintro e w3 ⟨E3, x, r, qY, rfl, hRR, GM, YQ, -⟩
  obtain ⟨s, iU, Qy, JA, JB, JC, Kc, Rv, Mj⟩ := hq r qY hRR
  obtain ⟨l3, UK, CT, UL, Rw, VX, hr3, VP⟩ := YQ.mem _ _ Kc
  have Rx : E3.aM st.mem.length 0 = some (w.heap.size + 1, 0, 0) := GM.le.aM _ _ _ cp
  rw [Rx] at Rw; cases Rw
  have aal : w.heap.size + 1 < w3.heap.size := (Array.getElem?_eq_some_iff.1 VX).1
  have hsb : (s == LoopState.busy) = false := by cases s <;> first | rfl | exact absurd rfl Rv
  have VY := hs.x7 YQ (Env.le_trans hle GM.le)
  have t := VY.v8 Kc rfl (B' := .dead) rfl Rx VP (w' := { w3 with heap := w3.heap.setIfInBounds (w.heap.size + 1) (.loop { state := .exhausted, pending := iU, fn := UK, tmps := CT, params := JA, assign := JB, body := JC, defers := UL }) })
   ⟨rfl, rfl, rfl, by simp, fun b hb => Array.getElem?_setIfInBounds_ne (fun e => hb e.symm)⟩ trivial
  have Ry : dO E0 w0 E3 _ := (he.trans (dX.trans GM)).trans t.2
  have Rz : Marks E3 { w3 with heap := w3.heap.setIfInBounds (w.heap.size + 1) (.loop { state := .exhausted, pending := iU, fn := UK, tmps := CT, params := JA, assign := JB, body := JC, defers := UL }) } w0.heap.size ({ target := .collected w.heap.size, args := #[] } :: a.defers) := by
   obtain ⟨rs, m1, m2, m3⟩ := (VW.Eh GM).Eh t.2
   have Qz : w2.heap[w.heap.size]? = some (.deferred (some [])) := (Go.RowKit.Below.heap_alloc w1 _ _ (by simp [w1])).trans (heap_alloc_new w _)
   have Jw : ∀ k v e c, (E.with st.mem.length 0 (w.heap.size + 1, 0, 0)).aM k v ≠ some (w.heap.size, e, c) := fun k v e c hk => by
    by_cases ck : k = st.mem.length ∧ v = 0
    ·obtain ⟨rfl, rfl⟩ := ck; rw [cp] at hk; simp at hk
    ·rw [hblk k v ck] at hk; have := hs.lt _ _ _ _ _ hk; omega
   have one : Marks (E.with st.mem.length 0 (w.heap.size + 1, 0, 0)) w2 w0.heap.size [{ target := .collected w.heap.size, args := #[] }] := ⟨[w.heap.size], rfl, by simp, fun r hr => by
    simp at hr; subst hr; exact ⟨he.size, Qz, Jw⟩⟩
   obtain ⟨rs', n1, n2, n3⟩ := (one.Eh GM).Eh t.2
   have Nj : rs' = [w.heap.size] := by
    match rs', n1 with
    | [r], h => simp at h; rw [h]
    | [], h => simp at h
    | _ :: _ :: _, h => simp at h
   subst Nj
   refine ⟨w.heap.size :: rs, by rw [m1]; rfl, ?_, fun r hr => ?_⟩
   ·rw [List.nodup_cons]
    refine ⟨fun jg => ?_, m2⟩
    -- an elder mark bz below
    obtain ⟨UD, q1, q2, q3⟩ := mI
    have uE : rs = UD := by
     have := m1.symm.trans q1
     have inj : ∀ (xs ys : List Nat), xs.map (fun r => ({ target := .collected r, args := #[] } : Deferred)) = ys.map (fun r => { target := .collected r, args := #[] }) → xs = ys := by
      intro xs
      induction xs with
      | nil => intro ys h; cases ys with | nil => rfl | cons y ys => simp at h
      | cons x xs ih => intro ys h; cases ys with | nil => simp at h | cons y ys => simp at h; rw [h.1, ih ys (by simpa using h.2)]
     exact inj _ _ this
    subst uE
    have := (q3 _ jg).2.1
    rw [Array.getElem?_eq_none (Nat.le_refl _)] at this; cases this
   ·rcases List.mem_cons.1 hr with rfl | hr
    ·exact n3 _ (by simp)
    ·exact m3 r hr
  refine ⟨iU, { w3 with heap := w3.heap.setIfInBounds (w.heap.size + 1) (.loop { state := .exhausted, pending := iU, fn := UK, tmps := CT, params := JA, assign := JB, body := JC, defers := UL }) }, ?_, ?_⟩
  ·have hg : (Instr.getLoop (w.heap.size + 1)).run P w3 = .ok { state := s, pending := iU, fn := UK, tmps := CT, params := JA, assign := JB, body := JC, defers := UL } w3 := by
    simp [Instr.getLoop, getObj, Sem.run, VX, bind, Sem.bind, pure]
   simp only [Instr.endLoop,Sem.run_bind,hg,Result.andThen_ok,hsb,Bool.false_eq_true,if_false]
   simp [setObj, Sem.run, VX]
  ·cases iU with
   | none => exact ⟨E3, _, ⟨t.1.F, t.1.lt, t.1.mem, t.1.top, t.1.bW, t.1.apart, t.1.fr⟩, Ry, Rz, Mj⟩
   | some c => exact Mj E0 w0 h0 E3 _ { a with defers := { target := .collected w.heap.size, args := #[] } :: a.defers } Ry ⟨t.1.F, t.1.lt, t.1.mem, t.1.top, t.1.bW, t.1.apart, t.1.fr⟩ Rz
theorem uh {P : Program} {n0 : Nat} {st : St} {Q : Exit → St → Prop} {f : Operand} {params : Array Tmp} {assign body : Code} {g : FuncId} {vs : List V} {r : V} {qY : List aC} (hc : bw (st.eval f) [.gr st.mem.length] = some (g, vs))
  (Qx : bF P g vs (st.mem ++ [.loop .ready none st.fr params assign body]) r qY)
  (hq : ∃ s iU Qy JA JB JC, qY[st.mem.length]? = some (.loop s iU Qy JA JB JC) ∧ s ≠ .busy ∧ (match iU with | none => Q .normal { st with mem := qY.set st.mem.length .dead } | some c => dA P none n0 c { st with mem := qY.set st.mem.length .dead } Q)) :
  dA P none n0 (.rangeFunc f params assign body) st Q :=
 lZ hc Qx.rel fun r' m' ⟨_, h2⟩ => by subst h2; exact hq
end Go.Eng
end

section
namespace Go.Eng
variable [aK]
open Go.RowKit (Below)

inductive Cls where
 | n | r | a | w | s | b | z | e
 deriving DecidableEq
structure Pl where
 cls : Cls
 key : Nat
 mask : List Nat
 Mk : List Nat := []
 abs : List Nat := []

def yd (m : List aC) (k : Nat) : List aC := match m[k]? with
 | some B => if B.bW = 0 then m.set k .dead else m
 | none => m
def dJ : List Nat → List aC → List aC
 | [], m => m
 | k :: r, m => dJ r (yd m k)
def iE (b : Bool) (B : aC) : aC := if b = true ∧ B.bW = 0 then .dead else B
theorem Ej (m : List aC) (k q : Nat) : (yd m k)[q]? = (m[q]?).map (iE (q == k)) := by
 unfold yd
 by_cases hq : q = k
 ·subst hq
  cases h : m[q]? with
  | none => simp [h]
  | some B =>
   have aL : q < m.length := (List.getElem?_eq_some_iff.1 h).1
   simp only [beq_self_eq_true,Option.map_some,iE,true_and]
   split
   ·rename_i hv; simp [List.getElem?_set, aL]
   ·rename_i hv; exact h
 ·have hb : (q == k) = false := by simpa using hq
  have hid : (m[q]?).map (iE (q == k)) = m[q]? := by rw [hb]; cases m[q]? <;> simp [iE]
  rw [hid]
  cases h : m[k]? with
  | none => rfl
  | some B =>
   dsimp only
   split
   ·exact List.getElem?_set_ne (fun e => hq e.symm)
   ·rfl
theorem ui (b c : Bool) (B : aC) : iE b (iE c B) = iE (b || c) B := by
 have hd : aC.dead.bW = 0 := rfl
 unfold iE
 cases b <;> cases c <;> by_cases hv : B.bW = 0 <;> simp [hv, hd]
theorem mK : ∀ (ks : List Nat) (m : List aC) (q : Nat), (dJ ks m)[q]? = (m[q]?).map (iE (ks.contains q))
 | [], m, q => by cases h : m[q]? <;> simp [dJ, h, iE]
 | k :: r, m, q => by
  rw [dJ, mK r, Ej]
  cases m[q]? with
  | none => rfl
  | some B =>
   simp only [Option.map_some,ui,List.contains_cons]
   rw [Bool.or_comm]
theorem oH : ∀ (ks : List Nat) (m : List aC), (dJ ks m).length = m.length
 | [], m => rfl
 | k :: r, m => by
  rw [dJ, oH r]
  unfold yd
  split
  ·split <;> simp
  ·rfl
theorem mL {ks : List Nat} {m : List aC} {k : Nat} {B0 B : aC} (hk : k ∈ ks) (hm : m[k]? = some B0) (h0 : B0.bW = 0) (hB : B.bW = 0) : dJ ks (m.set k B) = dJ ks m := by
 refine List.ext_getElem? fun q => ?_
 rw [mK, mK]
 by_cases hq : q = k
 ·subst hq
  have aL : q < m.length := (List.getElem?_eq_some_iff.1 hm).1
  have hc : ks.contains q = true := by simpa using hk
  rw [List.getElem?_set, if_pos rfl, if_pos aL, hm]
  simp [iE, hB, h0, hk]
 ·rw [List.getElem?_set_ne (fun e => hq e.symm)]

theorem bc.dJ {E : Env} {w : World} {a : Act} {st : St} (hs : bc E w a st) (ks : List Nat) : bc E w a { st with mem := Eng.dJ ks st.mem } := by
 have get : ∀ {k : Nat} {B : aC}, (Eng.dJ ks st.mem)[k]? = some B → ∃ B0 : aC, st.mem[k]? = some B0 ∧ (B = B0 ∨ B = aC.dead ∧ B0.bW = 0) := fun {k B} h => by
  rw [mK] at h
  cases h0 : st.mem[k]? with
  | none => rw [h0] at h; cases h
  | some B0 =>
   rw [h0] at h
   simp only [Option.map_some,Option.some.injEq] at h
   refine ⟨B0, rfl, ?_⟩
   unfold iE at h
   split at h
   ·rename_i hc; exact .inr ⟨h.symm, hc.2⟩
   ·exact .inl h.symm
 refine ⟨hs.F, hs.lt, fun k B hk => ?_, fun k hk => hs.top k (by simpa [oH] using hk), fun k B hk v hv => ?_, hs.apart, hs.fr⟩
 ·obtain ⟨B0, h0, rfl | ⟨rfl, -⟩⟩ := get hk
  ·exact hs.mem k _ h0
  ·trivial
 ·obtain ⟨B0, h0, rfl | ⟨rfl, h1⟩⟩ := get hk
  ·exact hs.bW k _ h0 v hv
  ·exact hs.bW k _ h0 v (by rw [h1]; exact hv)

/-! ### what one operation makes -/

def wG (P : Program) (f : FuncId) (vs : List V) (r : V) : Prop := aR P f vs r ∨ r8 P f vs r
def RA (P : Program) (f : FuncId) (vs : List V) (Q : V → Prop) : Prop := ∃ vs' r, dx [] vs = some vs' ∧ wG P f vs' r ∧ Q r

def qZ (P : Program) (tt : Table) (o : Oper) (st : St) : Option V :=
 match o.op with
 | .build T parts => iD P tt T parts.toList st.eval
 | .buildSlice T len parts => match pH tt T len parts.toList st.eval with
  | some (_, rs) => some (.slice rs)
  | none => none
 | _ => gp P tt st o
def mZ (P : Program) (tt : Table) (o : Oper) (st : St) (Q : V → Prop) : Prop :=
 match o.op with
 | .call { callee := .value f, args := xs, .. } => match bw (st.eval f) (xs.toList.map st.eval) with
  | some (g, vs) => RA P g vs Q
  | none => False
 | _ => match qZ P tt o st with
  | some v => Q v
  | none => False
def RB (P : Program) (f : FuncId) (vs : List V) (st : St) (dst : Option Tmp) (Q : St → Prop) : Prop := ∃ vs' r, dx [] vs = some vs' ∧ wG P f vs' r ∧ Q (st.put dst r)
def q5 (P : Program) (tt : Table) (o : Oper) (uj st : St) (Q : St → Prop) : Prop :=
 match o.op with
 | .call { callee := .value f, args := xs, .. } => match bw (uj.eval f) (xs.toList.map uj.eval) with
  | some (g, vs) => RB P g vs st o.dst Q
  | none => False
 | _ => match qZ P tt o uj with
  | some v => Q (st.put o.dst v)
  | none => False
theorem ry {P : Program} {tt : Table} {o : Oper} {uj st : St} {Q : St → Prop} : q5 P tt o uj st Q = mZ P tt o uj fun v => Q (st.put o.dst v) := by
 unfold q5 mZ
 split <;> rfl
def eR (tt : Table) (o : Oper) (key : Nat) (st : St) : Option (aC × V) :=
 match o.op with
 | .alloc T => match tt T with
  | some i => some (.box (i.zero.map V.sc), .ptr key 0)
  | none => none
 | .box _ x => match fU (st.eval x) with
  | some cs => some (.box cs, .ptr key 0)
  | none => none
 | .buildSlice T len parts => match pH tt T len parts.toList st.eval with
  | some (size, rs) => some (.rows 0 size rs, .ms key 0 0 len)
  | none => none
 | .makeMap _ none => some (.map [] 0, .mp key)
 | .makeSlice T l c => match nk tt T (st.eval l) (st.eval c) with
  | some (size, rs, _) => some (.rows 0 size rs, .ms key 0 0 rs.length)
  | none => none
 | _ => none
def oI (P : Program) (tt : Table) (key : Nat) (o : Oper) (st : St) : Option (List aC × V) :=
 match o.op with
 | .store T p x => match iC tt st.mem T (st.eval p) (st.eval x) with
  | some aF => some (aF, .sc undef)
  | none => none
 | .call { callee := .builtin .append, args := xs, argTypes := ts } => match xs.toList.map st.eval with
  | [s, x] => match dS tt st.mem ts.toList s x with
   | some (size, ka, rows) => some (cK st.mem key size rows ka)
   | none => none
  | _ => none
 | .mapUpdate T m k x => match cD P st.mem T (st.eval m) (st.eval k) (st.eval x) with
  | some aF => some (aF, .sc undef)
  | none => none
 | .insert T m k x => match cD P st.mem T (st.eval m) (st.eval k) (st.eval x) with
  | some aF => some (aF, .sc undef)
  | none => none
 | _ => none
def q6 (tt : Table) (key : Nat) (o : Oper) (st : St) : Option (List aC) :=
 match o.op with
 | .store T p x => match st.eval p with
  | .ptr b off => if b = key then iC tt st.mem T (.ptr key off) (st.eval x) else none
  | _ => none
 | _ => none
def isHole (mem : List aC) (k : Nat) : Bool := match mem[k]? with | some .hole => true | _ => false
theorem gG {mem : List aC} {k : Nat} : isHole mem k = true ↔ mem[k]? = some .hole := by
 unfold isHole
 split
 ·rename_i h; simp [h]
 ·rename_i h; simp; exact fun e => h e

def sj (P : Program) (f : FuncId) (vs : List V) (e : Nat) (rs : List V) : Prop := ∃ v, bF P f vs [] (.ms 0 v 0 rs.length) [.rows v e rs]
def lr (P : Program) (o : Oper) (ev : Operand → V) (Q : Nat → List V → Prop) : Prop :=
 match o.op with
 | .call { callee := .value f, args := xs, .. } => match bw (ev f) (xs.toList.map ev) with
  | some (g, vs) => ∃ vs' e rs, dx [] vs = some vs' ∧ sj P g vs' e rs ∧ Q e rs
  | none => False
 | _ => False
theorem iZ {P : Program} {o : Oper} {ev : Operand → V} {Q : Nat → List V → Prop} : lr P o ev Q ↔ ∃ e rs, lr P o ev (fun e' rs' => e' = e ∧ rs' = rs) ∧ Q e rs := by
 unfold lr
 split
 ·split
  ·constructor
   ·rintro ⟨vs', e, rs, h1, h2, h3⟩; exact ⟨e, rs, ⟨vs', e, rs, h1, h2, rfl, rfl⟩, h3⟩
   ·rintro ⟨e, rs, ⟨vs', e', rs', h1, h2, h3, h4⟩, h5⟩; subst h3; subst h4; exact ⟨vs', _, _, h1, h2, h5⟩
  ·exact ⟨fun h => h.elim, fun ⟨_, _, h, _⟩ => h⟩
 ·exact ⟨fun h => h.elim, fun ⟨_, _, h, _⟩ => h⟩
def sk (st : St) (key : Nat) (dst : Option Tmp) (e : Nat) (rs : List V) : St := { st with mem := st.mem.set key (.rows 0 e rs) }.put dst (.ms key 0 0 rs.length)
def RC (P : Program) (f : FuncId) (vs : List V) (st : St) (key : Nat) (dst : Option Tmp) (Q : St → Prop) : Prop := ∃ vs' e rs, dx [] vs = some vs' ∧ sj P f vs' e rs ∧ Q (sk st key dst e rs)
def nJ (P : Program) (o : Oper) (key : Nat) (st : St) (Q : St → Prop) : Prop :=
 match o.op with
 | .call { callee := .value f, args := xs, .. } => match bw (st.eval f) (xs.toList.map st.eval) with
  | some (g, vs) => RC P g vs st key o.dst Q
  | none => False
 | _ => False
theorem uO {P : Program} {o : Oper} {key : Nat} {st : St} {Q : St → Prop} : nJ P o key st Q = lr P o st.eval fun e rs => Q (sk st key o.dst e rs) := by
 unfold nJ lr
 split <;> rfl
def dr : aC → aC
 | .box cs => .box cs
 | _ => .dead
def lu (tt : Table) (o : Oper) (st : St) : Option V :=
 match o.op with
 | .load T x => lj tt (st.mem.map dr) T (st.eval x)
 | _ => none
def isApp (o : Oper) : Bool := match o.op with | .call { callee := .builtin .append, .. } => true | _ => false
def CU (o : Oper) : Bool := match o.op with | .alloc _ => false | .box _ _ => false | _ => true
theorem Ek {P : Program} {tt : Table} {o : Oper} {st : St} {v : V} (h : lu tt o st = some v) : gp P tt st o = some v := by
 unfold lu at h
 split at h
 ·rename_i T x ho
  unfold gp
  rw [ho]
  dsimp only
  unfold lj at h ⊢
  split
  ·rename_i b off he
   rw [he] at h
   dsimp only at h
   rw [List.getElem?_map] at h
   cases hb : st.mem[b]? with
   | none => rw [hb] at h; simp at h
   | some B =>
    rw [hb] at h
    cases B <;> simp [dr] at h <;> exact h
  ·rename_i b bW i off he
   rw [he] at h
   dsimp only at h
   have : rowOf (st.mem.map dr) b bW i = none := by
    unfold rowOf
    rw [List.getElem?_map]
    cases hb : st.mem[b]? with
    | none => rfl
    | some B => cases B <;> rfl
   rw [this] at h; cases h
  ·rename_i cs he
   rw [he] at h; exact h
  ·rename_i h1 h2 h3
   split at h
   ·rename_i he; exact absurd he (h1 _ _)
   ·rename_i he; exact absurd he (h2 _ _ _ _)
   ·rename_i he; exact absurd he (h3 _)
   ·cases h
 ·cases h
theorem ye {tt : Table} {mem : List aC} {ts : List TypeId} {s x : V} {size b bW : Nat} {rows : List V} (h : dS tt mem ts s x = some (size, some (b, bW), rows)) : ∃ e rs, mem[b]? = some (.rows bW e rs) := by
 have hl : ∀ {sz : Nat} {rs : List V}, lQ mem sz s = some (some (b, bW), rs) → ∃ e rs, mem[b]? = some (.rows bW e rs) := fun {sz rs} h => by
  unfold lQ at h
  split at h
  ·cases h
  ·split at h <;> cases h
  ·split at h
   ·rename_i v' e rs' hb
    split at h
    ·rename_i hc
     simp only [Option.some.injEq,Prod.mk.injEq] at h
     obtain ⟨⟨rfl, rfl⟩, rfl⟩ := h
     exact ⟨_, _, by rw [hb, hc.1]⟩
    ·cases h
   ·cases h
  ·cases h
 unfold dS at h
 split at h
 ·split at h
  ·split at h
   ·split at h
    ·split at h
     ·split at h
      ·split at h
       ·rename_i ka rs hlr
        split at h
        ·split at h
         ·split at h
          case isFalse => cases h
          simp only [Option.some.injEq,Prod.mk.injEq] at h
          obtain ⟨-, rfl, -⟩ := h
          exact hl hlr
         ·cases h
        ·cases h
       ·cases h
      ·cases h
     ·cases h
    ·cases h
   ·cases h
  ·cases h
 ·cases h
theorem GN {P : Program} {tt : Table} {key : Nat} {o : Oper} {st : St} {m : List aC} {v : V} (ha : isApp o = true) (hh : st.mem[key]? = some .hole) (h : oI P tt key o st = some (m, v)) : m.map dr = st.mem.map dr := by
 have ug : ∀ (k : Nat) (B0 B : aC), st.mem[k]? = some B0 → dr B = dr B0 → (st.mem.set k B).map dr = st.mem.map dr := fun k B0 B h0 hB => by
  apply List.ext_getElem?
  intro q
  rw [List.getElem?_map, List.getElem?_map, List.getElem?_set]
  split
  ·rename_i hq; subst hq
   rw [if_pos (List.getElem?_eq_some_iff.1 h0).1, h0, Option.map_some, Option.map_some, hB]
  ·rfl
 unfold isApp at ha
 split at ha
 ·rename_i ho
  unfold oI at h
  rw [ho] at h
  dsimp only at h
  split at h
  ·split at h
   ·rename_i size ka rows VZ
    simp only [Option.some.injEq] at h
    cases ka with
    | none =>
     simp only [cK,Prod.mk.injEq] at h
     obtain ⟨rfl, -⟩ := h
     unfold bj
     rw [if_pos (List.getElem?_eq_some_iff.1 hh).1]
     exact ug _ _ _ hh rfl
    | some p =>
     obtain ⟨b, bW⟩ := p
     simp only [cK,Prod.mk.injEq] at h
     obtain ⟨rfl, -⟩ := h
     have hb : ∃ e rs, st.mem[b]? = some (.rows bW e rs) := by
      exact ye VZ
     obtain ⟨e, rs, hb⟩ := hb
     exact ug _ _ _ hb rfl
   ·cases h
  ·cases h
 ·cases ha
def l4 (P : Program) (o : Oper) (st : St) (Q : St → Prop) : Prop :=
 match o.op with
 | .call { callee := .value f, args := xs, .. } => match bw (st.eval f) (xs.toList.map st.eval) with
  | some (g, vs) => ∃ vs' r, dx st.mem vs = some vs' ∧ aR P g vs' r ∧ Q ({ st with mem := eH st.mem (vs.flatMap de) r }.put o.dst r)
  | none => False
 | _ => False
theorem sm {P : Program} {o : Oper} {st : St} {K K' : St → Prop} (h : l4 P o st K) (hk : ∀ s, K s → K' s) : l4 P o st K' := by
 unfold l4 at h ⊢
 split at h
 ·split at h
  ·obtain ⟨vs', r, h1, h2, h3⟩ := h
   exact ⟨vs', r, h1, h2, hk _ h3⟩
  ·exact h.elim
 ·exact h.elim
def GO (P : Program) (g : FuncId) (vs : List V) (k : Nat) (st : St) (dst : Option Tmp) (Q : St → Prop) : Prop :=
 ∃ v B0 B, B0.bW = 0 ∧ B.bW = 0 ∧ st.mem[k]? = some B0 ∧ (∀ mem : List aC, mem[k]? = some B0 → bF P g vs mem v (mem.set k B)) ∧ Q ({ st with mem := st.mem.set k B }.put dst v)
def uP (P : Program) (o : Oper) (k : Nat) (st : St) (Q : St → Prop) : Prop :=
 match o.op with
 | .call { callee := .value f, args := xs, .. } => match bw (st.eval f) (xs.toList.map st.eval) with
  | some (g, vs) => GO P g vs k st o.dst Q
  | none => False
 | _ => False
def uk (P : Program) (o : Oper) (k : Nat) (st : St) (v : V) (m : List aC) : Prop :=
 match o.op with
 | .call { callee := .value f, args := xs, .. } => match bw (st.eval f) (xs.toList.map st.eval) with
  | some (g, vs) => ∃ B0 B, B0.bW = 0 ∧ B.bW = 0 ∧ st.mem[k]? = some B0 ∧ (∀ mem : List aC, mem[k]? = some B0 → bF P g vs mem v (mem.set k B)) ∧ m = st.mem.set k B
  | none => False
 | _ => False
theorem El {P : Program} {o : Oper} {k : Nat} {st : St} {Q : St → Prop} : uP P o k st Q ↔ ∃ v m, uk P o k st v m ∧ Q ({ st with mem := m }.put o.dst v) := by
 unfold uP uk
 split
 ·split
  ·constructor
   ·rintro ⟨v, B0, B, h1, h2, h3, h4, h5⟩; exact ⟨v, _, ⟨B0, B, h1, h2, h3, h4, rfl⟩, h5⟩
   ·rintro ⟨v, m, ⟨B0, B, h1, h2, h3, h4, rfl⟩, h5⟩; exact ⟨v, B0, B, h1, h2, h3, h4, h5⟩
  ·exact ⟨fun h => h.elim, fun ⟨_, _, h, _⟩ => h.elim⟩
 ·exact ⟨fun h => h.elim, fun ⟨_, _, h, _⟩ => h.elim⟩
theorem AS {P : Program} {o : Oper} {k : Nat} {st st' : St} {v : V} {m : List aC} (h : ∀ x ∈ o.op.operands, st.eval x = st'.eval x) (hm : st.mem = st'.mem) : uk P o k st v m = uk P o k st' v m := by
 unfold uk
 split
 ·rename_i f xs ts heq
  rw [heq] at h
  have jQ : xs.toList.map st.eval = xs.toList.map st'.eval := List.map_congr_left fun x hx => h x (by simp [Op.operands, Call.operands]; exact .inr (by simpa using hx))
  have hf : st.eval f = st'.eval f := h f (by simp [Op.operands, Call.operands])
  rw [jQ, hf, hm]
 ·rfl
theorem GQ {P : Program} {o : Oper} {k : Nat} {st : St} {v : V} {m : List aC} (h : uk P o k st v m) : ∃ B0 B : aC, B0.bW = 0 ∧ B.bW = 0 ∧ st.mem[k]? = some B0 ∧ m = st.mem.set k B ∧ ∀ mem : List aC, mem[k]? = some B0 → uk P o k { st with mem := mem } v (mem.set k B) := by
 have ev : ∀ (mem : List aC), St.eval { st with mem := mem } = st.eval := fun mem => funext fun x => by cases x <;> rfl
 unfold uk at h
 split at h
 ·rename_i f xs ts heq
  split at h
  ·rename_i g vs hg
   obtain ⟨B0, B, h1, h2, h3, h4, h5⟩ := h
   refine ⟨B0, B, h1, h2, h3, h5, fun mem hm => ?_⟩
   unfold uk
   simp only [heq,ev,hg]
   exact ⟨B0, B, h1, h2, hm, h4, rfl⟩
  ·exact h.elim
 ·exact h.elim
def dV (P : Program) (tt : Table) (all : Array Oper) (base : Nat) (o : Oper) (p : Pl) (st : St) (Q : St → Prop) : Prop :=
 match dq all st.fr o with
 | some true => match p.cls with
  | .n => q5 P tt o { st with mem := [] } st Q
  | .r => q5 P tt o { st with mem := dJ (p.mask.map (base + ·) ++ p.abs) st.mem } st Q
  | .a => isHole st.mem (base + p.key) = true ∧ match eR tt o (base + p.key) st with
   | some (B, v) => Q ({ st with mem := st.mem.set (base + p.key) B }.put o.dst v)
   | none => nJ P o (base + p.key) st Q
  | .w => isHole st.mem (base + p.key) = true ∧ match oI P tt (base + p.key) o st with
   | some (m, v) => Q ({ st with mem := m }.put o.dst v)
   | none => False
  | .s => match q6 tt (base + p.key) o st with
   | some m => Q ({ st with mem := m }.put o.dst (.sc undef))
   | none => False
  | .b => match lu tt o st with
   | some v => Q (st.put o.dst v)
   | none => False
  | .z => l4 P o st Q
  | .e => uP P o p.key st Q
 | some false => Q (st.put o.dst (.sc undef))
 | none => False

@[congr] theorem NR {P : Program} {tt : Table} {o : Oper} {sv YR st st' : St} {Q : St → Prop} (hv : sv = YR) (h : st = st') : q5 P tt o sv st Q = q5 P tt o YR st' Q := by rw [hv, h]
def lB (P : Program) (tt : Table) (all : Array Oper) (base : Nat) (o : Oper) (p : Pl) (st : St) (v : V) (m : List aC) : Prop :=
 match dq all st.fr o with
 | some true => match p.cls with
  | .n => mZ P tt o { st with mem := [] } (fun u => u = v) ∧ m = st.mem
  | .r => mZ P tt o { st with mem := dJ (p.mask.map (base + ·) ++ p.abs) st.mem } (fun u => u = v) ∧ m = st.mem
  | .a => isHole st.mem (base + p.key) = true ∧ ∃ B, (eR tt o (base + p.key) st = some (B, v) ∨ eR tt o (base + p.key) st = none ∧ lr P o st.eval (fun e rs => B = .rows 0 e rs ∧ v = .ms (base + p.key) 0 0 rs.length)) ∧ m = st.mem.set (base + p.key) B
  | .w => isHole st.mem (base + p.key) = true ∧ oI P tt (base + p.key) o st = some (m, v)
  | .s => v = .sc undef ∧ q6 tt (base + p.key) o st = some m
  | .b => lu tt o st = some v ∧ m = st.mem
  | .z => False
  | .e => uk P o p.key st v m
 | some false => v = .sc undef ∧ m = st.mem
 | none => False

theorem yf {P : Program} {tt : Table} {o : Oper} {st : St} {Q : V → Prop} : mZ P tt o st Q ↔ ∃ v, mZ P tt o st (fun u => u = v) ∧ Q v := by
 unfold mZ
 split
 ·split
  ·constructor
   ·rintro ⟨vs', r, h1, h2, h3⟩; exact ⟨r, ⟨vs', r, h1, h2, rfl⟩, h3⟩
   ·rintro ⟨v, ⟨vs', r, h1, h2, rfl⟩, h3⟩; exact ⟨vs', r, h1, h2, h3⟩
  ·exact ⟨fun h => h.elim, fun ⟨_, h, _⟩ => h⟩
 ·split
  ·exact ⟨fun h => ⟨_, rfl, h⟩, fun ⟨_, h, hq⟩ => by subst h; exact hq⟩
  ·exact ⟨fun h => h.elim, fun ⟨_, h, _⟩ => h⟩

theorem eM {P : Program} {tt : Table} {all : Array Oper} {base : Nat} {o : Oper} {p : Pl} {st : St} {Q : St → Prop} (hz : p.cls ≠ .z) :
  dV P tt all base o p st Q ↔ ∃ v m, lB P tt all base o p st v m ∧ Q ({ st with mem := m }.put o.dst v) := by
 unfold dV lB
 split
 ·split
  ·rw [ry, yf]; exact ⟨fun ⟨v, h1, h2⟩ => ⟨v, st.mem, ⟨h1, rfl⟩, h2⟩, fun ⟨v, m, ⟨h1, h2⟩, h3⟩ => ⟨v, h1, by subst h2; exact h3⟩⟩
  ·rw [ry, yf]; exact ⟨fun ⟨v, h1, h2⟩ => ⟨v, st.mem, ⟨h1, rfl⟩, h2⟩, fun ⟨v, m, ⟨h1, h2⟩, h3⟩ => ⟨v, h1, by subst h2; exact h3⟩⟩
  ·split
   ·rename_i B v hb
    refine ⟨fun ⟨h1, h2⟩ => ⟨v, _, ⟨h1, B, .inl hb, rfl⟩, h2⟩, fun ⟨u, m, ⟨h1, B', h2, h3⟩, h4⟩ => ?_⟩
    rcases h2 with h2 | ⟨h2, -⟩
    ·rw [hb] at h2; cases h2; subst h3; exact ⟨h1, h4⟩
    ·rw [hb] at h2; cases h2
   ·rename_i hb
    rw [uO]
    constructor
    ·rintro ⟨h1, h2⟩
     obtain ⟨e, rs, h3, h4⟩ := iZ.1 h2
     exact ⟨_, _, ⟨h1, .rows 0 e rs, .inr ⟨hb, iZ.2 ⟨e, rs, h3, rfl, rfl⟩⟩, rfl⟩, h4⟩
    ·rintro ⟨u, m, ⟨h1, B', h2, h3⟩, h4⟩
     rcases h2 with h2 | ⟨-, h2⟩
     ·rw [hb] at h2; cases h2
     ·obtain ⟨e, rs, h5, h6, h7⟩ := iZ.1 h2
      subst h6; subst h7; subst h3
      exact ⟨h1, iZ.2 ⟨e, rs, h5, h4⟩⟩
  ·split
   ·rename_i m v hb; exact ⟨fun ⟨h1, h2⟩ => ⟨v, m, ⟨h1, hb⟩, h2⟩, fun ⟨u, m', ⟨h1, h2⟩, h4⟩ => by rw [hb] at h2; cases h2; exact ⟨h1, h4⟩⟩
   ·rename_i hb; exact ⟨fun h => h.2.elim, fun ⟨_, _, ⟨_, h⟩, _⟩ => by rw [hb] at h; cases h⟩
  ·split
   ·rename_i m hb; exact ⟨fun h => ⟨_, m, ⟨rfl, hb⟩, h⟩, fun ⟨u, m', ⟨h1, h2⟩, h4⟩ => by rw [hb] at h2; cases h2; subst h1; exact h4⟩
   ·rename_i hb; exact ⟨fun h => h.elim, fun ⟨_, _, ⟨_, h⟩, _⟩ => by rw [hb] at h; cases h⟩
  ·split
   ·rename_i v hb; exact ⟨fun h => ⟨v, st.mem, ⟨hb, rfl⟩, h⟩, fun ⟨u, m', ⟨h1, h2⟩, h4⟩ => by rw [hb] at h1; cases h1; subst h2; exact h4⟩
   ·rename_i hb; exact ⟨fun h => h.elim, fun ⟨_, _, ⟨h, _⟩, _⟩ => by rw [hb] at h; cases h⟩
  ·rename_i hc; exact absurd hc hz
  ·exact El
 ·exact ⟨fun h => ⟨_, _, ⟨rfl, rfl⟩, h⟩, fun ⟨v, m, ⟨h1, h2⟩, h3⟩ => by subst h1; subst h2; exact h3⟩
 ·exact ⟨fun h => h.elim, fun ⟨_, _, h, _⟩ => h⟩

/-! ### what an operation looks at -/

theorem eN {ρ ρ' : Operand → V} {xs : Array Operand} (h : ∀ x ∈ xs, ρ x = ρ' x) : xs.toList.map ρ = xs.toList.map ρ' :=
 List.map_congr_left fun x hx => h x (by simpa using hx)
theorem qF {aO : List (Nat × Nat)} {ρ ρ' : Operand → V} : ∀ {ps : List (Nat × Operand)} {cs : List V}, (∀ p ∈ ps, ρ p.2 = ρ' p.2) → oB aO ρ ps cs = oB aO ρ' ps cs
 | [], cs, _ => rfl
 | (i, x) :: r, cs, h => by
  simp only [oB,h (i,x) (by simp)]
  split
  ·split
   ·split
    ·exact qF fun p hp => h p (by simp [hp])
    ·rfl
   ·rfl
  ·rfl
theorem l5 {ρ ρ' : Operand → V} : ∀ {ps : List (Nat × Operand)}, (∀ p ∈ ps, ρ p.2 = ρ' p.2) → ia ρ ps = ia ρ' ps
 | [], _ => rfl
 | (i, x) :: r, h => by
  simp only [ia,h (i,x) (by simp)]
  rw [l5 fun p hp => h p (by simp [hp])]
theorem wH {P : Program} {tt : Table} {T : TypeId} {ρ ρ' : Operand → V} {ps : List (Nat × Operand)} (h : ∀ p ∈ ps, ρ p.2 = ρ' p.2) : iD P tt T ps ρ = iD P tt T ps ρ' := by
 unfold iD
 split
 ·rw [qF h, l5 h]
 ·rfl
theorem sn {tt : Table} {T : TypeId} {len : Nat} {ρ ρ' : Operand → V} {ps : List (Nat × Operand)} (h : ∀ p ∈ ps, ρ p.2 = ρ' p.2) : pH tt T len ps ρ = pH tt T len ps ρ' := by
 unfold pH
 have : (ps.map fun p => ρ p.2) = ps.map fun p => ρ' p.2 := List.map_congr_left h
 rw [this]

theorem Em {P : Program} {tt : Table} {o : Oper} {st st' : St} (h : ∀ x ∈ o.op.operands, st.eval x = st'.eval x) (hm : st.mem = st'.mem) : gp P tt st o = gp P tt st' o := by
 obtain ⟨dst, op, type, pos, after, guard⟩ := o
 cases op <;> simp only [Op.operands] at h <;> try rfl
 case slice T x lo hi mx =>
  cases mx <;> cases lo <;> cases hi <;> try rfl
  all_goals (simp only [gp]; simp_all)
 case makeFunc fn first captured =>
  simp only [gp]
  rw [eN (xs := first) fun x hx => h x (by simp [hx]), eN (xs := captured) fun x hx => h x (by simp [hx])]
 case call c =>
  obtain ⟨callee, args, ts⟩ := c
  have jQ : args.toList.map st.eval = args.toList.map st'.eval := eN fun x hx => h x (by simp [Call.operands, hx])
  cases callee with
  | builtin b => cases b <;> simp only [gp,jQ,hm]
  | _ => rfl
 all_goals (simp only [gp]; simp_all)
theorem AT {P : Program} {tt : Table} {o : Oper} {st st' : St} (h : ∀ x ∈ o.op.operands, st.eval x = st'.eval x) (hm : st.mem = st'.mem) : qZ P tt o st = qZ P tt o st' := by
 have h0 := Em (P := P) (tt := tt) h hm
 obtain ⟨dst, op, type, pos, after, guard⟩ := o
 cases op <;> try exact h0
 case build T ps => exact wH fun p hp => h p.2 (by simp only [Op.operands]; simpa using ⟨p.1, by simpa using hp⟩)
 case buildSlice T len ps =>
  simp only [qZ]
  rw [sn fun p hp => h p.2 (by simp only [Op.operands]; simpa using ⟨p.1, by simpa using hp⟩)]
theorem so {P : Program} {tt : Table} {o : Oper} {st st' : St} {Q : V → Prop} (h : ∀ x ∈ o.op.operands, st.eval x = st'.eval x) (hm : st.mem = st'.mem) : mZ P tt o st Q = mZ P tt o st' Q := by
 have h0 := AT (P := P) (tt := tt) h hm
 unfold mZ
 rw [h0]
 split
 ·rename_i f xs ts heq
  rw [heq] at h
  have jQ : xs.toList.map st.eval = xs.toList.map st'.eval := eN fun x hx => h x (by simp [Op.operands, Call.operands, hx])
  have hf : st.eval f = st'.eval f := h f (by simp [Op.operands, Call.operands])
  rw [jQ, hf]
 ·rfl
theorem oJ {tt : Table} {o : Oper} {key : Nat} {st st' : St} (h : ∀ x ∈ o.op.operands, st.eval x = st'.eval x) : eR tt o key st = eR tt o key st' := by
 obtain ⟨dst, op, type, pos, after, guard⟩ := o
 cases op <;> try rfl
 case makeMap t r => cases r <;> rfl
 case makeSlice t l c => simp only [eR]; rw [h l (by simp [Op.operands]), h c (by simp [Op.operands])]
 case box T x => simp only [eR]; rw [h x (by simp [Op.operands])]
 case buildSlice T len ps =>
  simp only [eR]
  rw [sn fun p hp => h p.2 (by simp only [Op.operands]; simpa using ⟨p.1, by simpa using hp⟩)]
theorem qG {P : Program} {o : Oper} {ρ ρ' : Operand → V} {Q : Nat → List V → Prop} (h : ∀ x ∈ o.op.operands, ρ x = ρ' x) : lr P o ρ Q = lr P o ρ' Q := by
 unfold lr
 split
 ·rename_i f xs ts heq
  rw [heq] at h
  have jQ : xs.toList.map ρ = xs.toList.map ρ' := eN fun x hx => h x (by simp [Op.operands, Call.operands, hx])
  have hf : ρ f = ρ' f := h f (by simp [Op.operands, Call.operands])
  rw [jQ, hf]
 ·rfl
theorem AU {P : Program} {tt : Table} {o : Oper} {key : Nat} {st st' : St} (h : ∀ x ∈ o.op.operands, st.eval x = st'.eval x) (hm : st.mem = st'.mem) : oI P tt key o st = oI P tt key o st' := by
 obtain ⟨dst, op, type, pos, after, guard⟩ := o
 cases op <;> try rfl
 case store T p x => simp only [oI,hm]; rw [h p (by simp [Op.operands]), h x (by simp [Op.operands])]
 case mapUpdate T m k x => simp only [oI,hm]; rw [h m (by simp [Op.operands]), h k (by simp [Op.operands]), h x (by simp [Op.operands])]
 case insert T m k x => simp only [oI,hm]; rw [h m (by simp [Op.operands]), h k (by simp [Op.operands]), h x (by simp [Op.operands])]
 case call c =>
  obtain ⟨callee, args, ts⟩ := c
  have jQ : args.toList.map st.eval = args.toList.map st'.eval := eN fun x hx => h x (by simp [Op.operands, Call.operands, hx])
  cases callee with
  | builtin b => cases b <;> simp only [oI,jQ,hm]
  | _ => rfl

theorem AV {tt : Table} {o : Oper} {key : Nat} {st st' : St} (h : ∀ x ∈ o.op.operands, st.eval x = st'.eval x) (hm : st.mem = st'.mem) : q6 tt key o st = q6 tt key o st' := by
 obtain ⟨dst, op, type, pos, after, guard⟩ := o
 cases op <;> try rfl
 case store T p x => simp only [q6,hm]; rw [h p (by simp [Op.operands]), h x (by simp [Op.operands])]
theorem GR {tt : Table} {o : Oper} {key : Nat} {st : St} {m : List aC} (h : q6 tt key o st = some m) :
  ∃ B0 B : aC, B0.bW = 0 ∧ B.bW = 0 ∧ st.mem[key]? = some B0 ∧ m = st.mem.set key B ∧ ∀ mem : List aC, mem[key]? = some B0 → q6 tt key o { st with mem := mem } = some (mem.set key B) := by
 have ev : ∀ (mem : List aC) (x : Operand), St.eval { st with mem := mem } x = st.eval x := fun mem x => by cases x <;> rfl
 unfold q6 at h ⊢
 obtain ⟨dst, op, type, pos, after, guard⟩ := o
 cases op <;> try (cases h)
 case store T p x =>
  simp only [ev]
  dsimp only at h
  split at h
  ·rename_i b off hp
   split at h
   ·rename_i hb
    subst hb
    unfold iC at h
    split at h
    ·cases h
    ·rename_i new hn
     split at h
     ·rename_i jW
      dsimp only at h
      split at h
      ·rename_i cs pC
       split at h
       ·rename_i hle
        cases h
        refine ⟨.box cs, .box (cg cs off new), rfl, rfl, pC, rfl, fun mem hm => ?_⟩
        simp only [hp,if_true]
        unfold iC
        simp only [hn,jW,if_true,hm,hle]
       ·cases h
      ·cases h
     ·cases h
   ·cases h
  ·cases h

theorem eval_put {st : St} {dst : Option Tmp} {v : V} {x : Operand} (h : ∀ d, dst = some d → x ≠ .tmp d) : (st.put dst v).eval x = st.eval x := by
 cases dst with
 | none => rfl
 | some d =>
  cases x with
  | tmp t =>
   have bL : d ≠ t := fun e => h d rfl (e ▸ rfl)
   simp [St.eval, St.put, List.getD, List.getElem?_set_ne bL]
  | _ => rfl
theorem Kd (st : St) (dst : Option Tmp) (v : V) : (st.put dst v).mem = st.mem := by cases dst <;> rfl
theorem um {all : Array Oper} {o : Oper} {d : Tmp} (h : d ∉ o.looksAt all) : ∀ x ∈ o.op.operands, x ≠ .tmp d := by
 rintro x hx rfl
 exact h (by unfold Oper.looksAt; exact List.mem_append_left _ (List.mem_filterMap.2 ⟨.tmp d, by simpa using hx, rfl⟩))
theorem yg {all : Array Oper} {o : Oper} {st : St} {dst : Option Tmp} {v : V} (h : ∀ d, dst = some d → d ∉ o.looksAt all) : dq all (st.put dst v).fr o = dq all st.fr o := by
 cases dst with
 | none => rfl
 | some d =>
  have hd := h d rfl
  unfold dq
  split
  ·rfl
  ·rename_i j want hg
   split
   ·rfl
   ·rename_i e he
    have bL : d ≠ e := by
     rintro rfl
     exact hd (by unfold Oper.looksAt; exact List.mem_append_right _ (by rw [hg]; simp only []; rw [he]; simp))
    simp only [St.put,List.getElem?_set_ne bL]

section
variable {P : Program} {tt : Table} {all : Array Oper} {base : Nat}
theorem yh {o : Oper} {st st' : St} (h : ∀ x ∈ o.op.operands, st.eval x = st'.eval x) (hm : st.mem = st'.mem) : lu tt o st = lu tt o st' := by
 unfold lu
 split
 ·rename_i T x ho
  rw [hm, h x (by rw [ho]; simp [Op.operands])]
 ·rfl
theorem En {o : Oper} {p : Pl} {st st' : St} {v : V} {m : List aC} (hw : dq all st.fr o = dq all st'.fr o) (h : ∀ x ∈ o.op.operands, st.eval x = st'.eval x) (hm : st.mem = st'.mem) :
  lB P tt all base o p st v m = lB P tt all base o p st' v m := by
 have e1 : ∀ (mem : List aC) (x : Operand), St.eval { st with mem := mem } x = st.eval x := fun mem x => by cases x <;> rfl
 have e2 : ∀ (mem : List aC) (x : Operand), St.eval { st' with mem := mem } x = st'.eval x := fun mem x => by cases x <;> rfl
 unfold lB
 rw [hw, oJ h, AU h hm, AV h hm, yh h hm, AS h hm, hm]
 simp only [qG h]
 rw [so (st := { st with mem := [] }) (st' := { st' with mem := [] }) (fun x hx => by rw [e1, e2]; exact h x hx) rfl,
  so (st := { st with mem := dJ (p.mask.map (base + ·) ++ p.abs) st'.mem }) (st' := { st' with mem := dJ (p.mask.map (base + ·) ++ p.abs) st'.mem }) (fun x hx => by rw [e1, e2]; exact h x hx) rfl]
theorem CV {o : Oper} {p : Pl} {st : St} {dst : Option Tmp} {u v : V} {m : List aC} (h : ∀ d, dst = some d → d ∉ o.looksAt all) : lB P tt all base o p (st.put dst u) v m = lB P tt all base o p st v m :=
 En (yg h) (fun x hx => eval_put fun d hd => um (h d hd) x hx) (Kd _ _ _)

def pP (all : Array Oper) (x : Oper) (px : Pl) (y : Oper) (py : Pl) : Bool :=
 px.cls != .z && py.cls != .z && x.apart all y && (px.cls == .n || py.cls == .n || (px.cls == .r && py.cls == .r) || ((px.cls == .a || px.cls == .s) && py.cls == .r && py.mask.contains px.key) || (px.cls == .r && (py.cls == .a || py.cls == .s) && px.mask.contains py.key) || ((px.cls == .a || px.cls == .s) && (py.cls == .a || py.cls == .s) && px.key != py.key) || (px.cls == .b && (py.cls == .r || py.cls == .b || (py.cls == .w && isApp y) || (py.cls == .a && CU y))) || (py.cls == .b && (px.cls == .r || (px.cls == .w && isApp x) || (px.cls == .a && CU x))) || (px.cls == .e && py.cls == .r && py.abs.contains px.key) || (px.cls == .r && py.cls == .e && px.abs.contains py.key))

theorem AW {o : Oper} {key : Nat} {st : St} {B : aC} {v : V} (h : eR tt o key st = some (B, v)) : B.bW = 0 := by
 unfold eR at h
 split at h
 ·split at h <;> cases h <;> rfl
 ·split at h <;> cases h <;> rfl
 ·split at h <;> cases h <;> rfl
 ·cases h; rfl
 ·split at h <;> cases h <;> rfl
 ·cases h

theorem pQ {o : Oper} {p : Pl} (hp : p.cls = .n) {st : St} {v : V} {m : List aC} (h : lB P tt all base o p st v m) (mem : List aC) : m = st.mem ∧ lB P tt all base o p { st with mem := mem } v mem := by
 unfold lB at h ⊢
 dsimp only
 split at h
 ·rename_i hw
  rw [hp] at h
  simp only [hw,hp]
  exact ⟨h.2, h.1, trivial⟩
 ·rename_i hw; simp only [hw]; exact ⟨h.2, h.1, trivial⟩
 ·exact h.elim
theorem dB {o : Oper} {p : Pl} (hp : p.cls = .r) {st : St} {v : V} {m : List aC} (h : lB P tt all base o p st v m) {mem : List aC} (hm : dJ (p.mask.map (base + ·) ++ p.abs) mem = dJ (p.mask.map (base + ·) ++ p.abs) st.mem) :
  m = st.mem ∧ lB P tt all base o p { st with mem := mem } v mem := by
 unfold lB at h ⊢
 dsimp only
 split at h
 ·rename_i hw
  rw [hp] at h
  simp only [hw,hp]
  exact ⟨h.2, by rw [hm]; exact h.1, trivial⟩
 ·rename_i hw; simp only [hw]; exact ⟨h.2, h.1, trivial⟩
 ·exact h.elim
theorem mM {o : Oper} {p : Pl} (hp : p.cls = .a ∨ p.cls = .s) {st : St} {v : V} {m : List aC} (h : lB P tt all base o p st v m) :
  (m = st.mem ∧ ∀ mem, lB P tt all base o p { st with mem := mem } v mem) ∨
  ∃ B0 B : aC, B0.bW = 0 ∧ B.bW = 0 ∧ st.mem[base + p.key]? = some B0 ∧ m = st.mem.set (base + p.key) B ∧ ∀ mem : List aC, mem[base + p.key]? = some B0 → lB P tt all base o p { st with mem := mem } v (mem.set (base + p.key) B) := by
 unfold lB at h
 split at h
 ·rename_i hw
  rcases hp with hp | hp
  ·rw [hp] at h
   obtain ⟨h1, B, h2, h3⟩ := h
   have Q9 : B.bW = 0 := by
    rcases h2 with h2 | ⟨-, h2⟩
    ·exact AW h2
    ·obtain ⟨e, rs, -, h5, -⟩ := iZ.1 h2
     rw [h5]; rfl
   refine .inr ⟨.hole, B, rfl, Q9, gG.1 h1, h3, fun mem hm => ?_⟩
   unfold lB
   simp only [hw,hp]
   refine ⟨gG.2 hm, B, ?_, rfl⟩
   have e0 : eR tt o (base + p.key) { st with mem := mem } = eR tt o (base + p.key) st := oJ fun x _ => by cases x <;> rfl
   rw [e0]
   have e1 : ∀ Q, lr P o (St.eval { st with mem := mem }) Q = lr P o st.eval Q := fun Q => qG fun x _ => by cases x <;> rfl
   rw [e1]
   exact h2
  ·rw [hp] at h
   obtain ⟨h1, h2⟩ := h
   obtain ⟨B0, B, h3, h4, h5, h6, h7⟩ := GR h2
   refine .inr ⟨B0, B, h3, h4, h5, h6, fun mem hm => ?_⟩
   unfold lB
   simp only [hw,hp]
   exact ⟨h1, h7 mem hm⟩
 ·rename_i hw
  refine .inl ⟨h.2, fun mem => ?_⟩
  unfold lB
  simp only [hw]
  exact ⟨h.1, trivial⟩
 ·exact h.elim

theorem uQ {o : Oper} {p : Pl} (hp : p.cls = .e) {st : St} {v : V} {m : List aC} (h : lB P tt all base o p st v m) :
  (m = st.mem ∧ ∀ mem, lB P tt all base o p { st with mem := mem } v mem) ∨
  ∃ B0 B : aC, B0.bW = 0 ∧ B.bW = 0 ∧ st.mem[p.key]? = some B0 ∧ m = st.mem.set p.key B ∧ ∀ mem : List aC, mem[p.key]? = some B0 → lB P tt all base o p { st with mem := mem } v (mem.set p.key B) := by
 unfold lB at h
 split at h
 ·rename_i hw
  rw [hp] at h
  obtain ⟨B0, B, h1, h2, h3, h4, h5⟩ := GQ h
  refine .inr ⟨B0, B, h1, h2, h3, h4, fun mem hm => ?_⟩
  unfold lB
  simp only [hw,hp]
  exact h5 mem hm
 ·rename_i hw
  refine .inl ⟨h.2, fun mem => ?_⟩
  unfold lB
  simp only [hw]
  exact ⟨h.1, trivial⟩
 ·exact h.elim

theorem pR {o : Oper} {p : Pl} (hp : p.cls = .b) {st : St} {v : V} {m : List aC} (h : lB P tt all base o p st v m) :
  m = st.mem ∧ ∀ mem : List aC, mem.map dr = st.mem.map dr → lB P tt all base o p { st with mem := mem } v mem := by
 unfold lB at h ⊢
 dsimp only
 split at h
 ·rename_i hw
  rw [hp] at h
  simp only [hw,hp]
  refine ⟨h.2, fun mem hm => ⟨?_, trivial⟩⟩
  have h1 := h.1
  unfold lu at h1 ⊢
  split at h1
  ·rename_i T x ho
   have e : St.eval { st with mem := mem } x = st.eval x := by cases x <;> rfl
   show lj tt (mem.map dr) T (St.eval { st with mem := mem } x) = some v
   rw [hm, e]; exact h1
  ·cases h1
 ·rename_i hw; simp only [hw]; exact ⟨h.2, fun _ _ => ⟨h.1, trivial⟩⟩
 ·exact h.elim
theorem uR {o : Oper} {p : Pl} (hp : p.cls = .w) (ha : isApp o = true) {st : St} {v : V} {m : List aC} (h : lB P tt all base o p st v m) : m.map dr = st.mem.map dr := by
 unfold lB at h
 split at h
 ·rw [hp] at h
  exact GN ha (gG.1 h.1) h.2
 ·rw [h.2]
 ·exact h.elim
theorem sr {o : Oper} {p : Pl} (hp : p.cls = .a) (ha : CU o = true) {st : St} {v : V} {m : List aC} (h : lB P tt all base o p st v m) : m.map dr = st.mem.map dr := by
 unfold lB at h
 split at h
 ·rw [hp] at h
  obtain ⟨h1, B, h2, rfl⟩ := h
  have hB : dr B = .dead := by
   rcases h2 with h2 | ⟨-, h2⟩
   ·unfold eR at h2
    unfold CU at ha
    split at h2
    ·rename_i he; rw [he] at ha; cases ha
    ·rename_i he; rw [he] at ha; cases ha
    ·split at h2 <;> cases h2; rfl
    ·cases h2; rfl
    ·split at h2 <;> cases h2; rfl
    ·cases h2
   ·obtain ⟨e, rs, -, h5, -⟩ := iZ.1 h2
    rw [h5]; rfl
  have hh := gG.1 h1
  apply List.ext_getElem?
  intro q
  rw [List.getElem?_map, List.getElem?_map, List.getElem?_set]
  split
  ·rename_i hq; subst hq
   rw [if_pos (List.getElem?_eq_some_iff.1 hh).1, hh, Option.map_some, Option.map_some, hB]; rfl
  ·rfl
 ·rw [h.2]
 ·exact h.elim
theorem St.put_comm (st : St) {x y : Option Tmp} (v u : V) (h : ∀ d, x = some d → y ≠ some d) : (st.put x v).put y u = (st.put y u).put x v := by
 cases x with
 | none => rfl
 | some d =>
  cases y with
  | none => rfl
  | some e =>
   have bL : d ≠ e := fun he => h d rfl (he ▸ rfl)
   simp [St.put, List.set_comm _ _ bL]
theorem yi (st : St) (x : Option Tmp) (v : V) (m : List aC) : { st.put x v with mem := m } = St.put { st with mem := m } x v := by cases x <;> rfl

theorem AX {x y : Oper} {px py : Pl} (dc : pP all x px y py = true) {st : St} {Q : St → Prop} (h : dV P tt all base x px st fun st' => dV P tt all base y py st' Q) :
  dV P tt all base y py st fun st' => dV P tt all base x px st' Q := by
 unfold pP at dc
 rw [Bool.and_eq_true, Bool.and_eq_true, Bool.and_eq_true] at dc
 obtain ⟨⟨⟨UM, UN⟩, VZ⟩, gj⟩ := dc
 have UM : px.cls ≠ .z := by simpa using UM
 have UN : py.cls ≠ .z := by simpa using UN
 obtain ⟨Ke, V0, hyx⟩ := Oper.apart_spec VZ
 obtain ⟨v, m1, h1, h2⟩ := (eM UM).1 h
 obtain ⟨u, m2, h3, h4⟩ := (eM UN).1 h2
 rw [CV Ke] at h3
 have fin : ∀ RD , lB P tt all base y py st u RD → lB P tt all base x px { st with mem := RD } v m2 → dV P tt all base y py st fun st' => dV P tt all base x px st' Q := fun RD h5 h6 => by
  refine (eM UN).2 ⟨u, RD, h5, (eM UM).2 ⟨v, m2, by rw [CV hyx]; exact h6, ?_⟩⟩
  have e1 : ({ (St.put { st with mem := m1 } x.dst v) with mem := m2 } : St).put y.dst u = ({ (St.put { st with mem := RD } y.dst u) with mem := m2 } : St).put x.dst v := by
   rw [yi, yi]
   exact St.put_comm _ _ _ V0
  rw [← e1]; exact h4
 have back : ∀ (m : List aC) (z : Oper) (pz : Pl) (c : V) (m' : List aC), lB P tt all base z pz { ({ st with mem := m } : St) with mem := st.mem } c m' = lB P tt all base z pz st c m' := fun _ _ _ _ _ => rfl
 simp only [Bool.or_eq_true,Bool.and_eq_true,beq_iff_eq,bne_iff_ne] at gj
 rcases gj with ((((((((hn | hn) | ⟨hr, uI⟩) | ⟨⟨ha, hr⟩, hm⟩) | ⟨⟨hr, ha⟩, hm⟩) | ⟨⟨ha, RE⟩, bL⟩) | ⟨hb, hy⟩) | ⟨hb, hx⟩) | ⟨⟨he, hr⟩, hm⟩) | ⟨⟨hr, he⟩, hm⟩
 ·-- x JM not look
  obtain ⟨rfl, -⟩ := pQ hn h1 []
  exact fin m2 h3 (pQ hn h1 m2).2
 ·-- y JM not look
  obtain ⟨h5, h6⟩ := pQ hn h3 st.mem
  dsimp only at h5; subst h5
  exact fin st.mem h6 h1
 ·obtain ⟨rfl, -⟩ := dB hr h1 rfl
  obtain ⟨h5, h6⟩ := dB uI h3 (mem := st.mem) rfl
  dsimp only at h5; subst h5
  exact fin st.mem h6 h1
 ·rcases mM ha h1 with ⟨rfl, -⟩ | ⟨B0, B, Gg, hv, hh, rfl, -⟩
  ·obtain ⟨h5, h6⟩ := dB hr h3 (mem := st.mem) rfl
   dsimp only at h5; subst h5
   exact fin st.mem h6 h1
  ·have mI : dJ (py.mask.map (base + ·) ++ py.abs) (st.mem.set (base + px.key) B) = dJ (py.mask.map (base + ·) ++ py.abs) st.mem := mL (List.mem_append_left _ (List.mem_map.2 ⟨_, by simpa using hm, rfl⟩)) hh Gg hv
   obtain ⟨h5, h6⟩ := dB hr h3 (mem := st.mem) mI.symm
   dsimp only at h5; subst h5
   exact fin st.mem h6 h1
 ·obtain ⟨rfl, -⟩ := dB hr h1 rfl
  rcases mM ha h3 with ⟨h5, h6⟩ | ⟨B0, B, Gg, hv, hh, h5, h6⟩
  ·dsimp only at h5; subst h5
   exact fin st.mem h3 h1
  ·dsimp only at h5 hh; subst h5
   have mI : dJ (px.mask.map (base + ·) ++ px.abs) (st.mem.set (base + py.key) B) = dJ (px.mask.map (base + ·) ++ px.abs) st.mem := mL (List.mem_append_left _ (List.mem_map.2 ⟨_, by simpa using hm, rfl⟩)) hh Gg hv
   exact fin _ h3 (dB hr h1 mI).2
 ·rcases mM ha h1 with ⟨rfl, hx⟩ | ⟨B0, B, Gg, hv, hh, rfl, hx⟩
  ·exact fin m2 h3 (hx m2)
  ·rcases mM RE h3 with ⟨h5, h6⟩ | ⟨Kf, B', aaq, rI, Jx, h5, h6⟩
   ·dsimp only at h5; subst h5
    exact fin st.mem (h6 st.mem) h1
   ·dsimp only at h5 Jx; subst h5
    have Ax : base + px.key ≠ base + py.key := by omega
    rw [List.getElem?_set_ne Ax] at Jx
    have h7 := h6 st.mem Jx
    have h8 := hx (st.mem.set (base + py.key) B') (by rw [List.getElem?_set_ne (fun e => Ax e.symm)]; exact hh)
    refine fin _ h7 ?_
    rw [List.set_comm _ _ Ax]
    exact h8
 ·obtain ⟨rfl, h5⟩ := pR hb h1
  refine fin m2 h3 (h5 m2 ?_)
  rcases hy with ((hy | hy) | ⟨hy, ha⟩) | ⟨hy, ha⟩
  ·rw [(dB hy h3 rfl).1]
  ·rw [(pR hy h3).1]
  ·exact uR hy ha h3
  ·exact sr hy ha h3
 ·obtain ⟨h5, h6⟩ := pR hb h3
  dsimp only at h5; subst h5
  refine fin st.mem (h6 st.mem ?_) h1
  rcases hx with (hx | ⟨hx, ha⟩) | ⟨hx, ha⟩
  ·rw [(dB hx h1 rfl).1]
  ·exact (uR hx ha h1).symm
  ·exact (sr hx ha h1).symm
 ·rcases uQ he h1 with ⟨rfl, -⟩ | ⟨B0, B, Gg, hv, hh, rfl, -⟩
  ·obtain ⟨h5, h6⟩ := dB hr h3 (mem := st.mem) rfl
   dsimp only at h5; subst h5
   exact fin st.mem h6 h1
  ·have mI : dJ (py.mask.map (base + ·) ++ py.abs) (st.mem.set px.key B) = dJ (py.mask.map (base + ·) ++ py.abs) st.mem := mL (List.mem_append_right _ (by simpa using hm)) hh Gg hv
   obtain ⟨h5, h6⟩ := dB hr h3 (mem := st.mem) mI.symm
   dsimp only at h5; subst h5
   exact fin st.mem h6 h1
 ·obtain ⟨rfl, -⟩ := dB hr h1 rfl
  rcases uQ he h3 with ⟨h5, h6⟩ | ⟨B0, B, Gg, hv, hh, h5, h6⟩
  ·dsimp only at h5; subst h5
   exact fin st.mem h3 h1
  ·dsimp only at h5 hh; subst h5
   have mI : dJ (px.mask.map (base + ·) ++ px.abs) (st.mem.set py.key B) = dJ (px.mask.map (base + ·) ++ px.abs) st.mem := mL (List.mem_append_right _ (by simpa using hm)) hh Gg hv
   exact fin _ h3 (dB hr h1 mI).2
end
end Go.Eng
end

section
namespace Go.Eng
variable [aK]
open Go.RowKit (Below)

theorem mN {mem : List aC} {size : Nat} {l : Int} {h : Option Int} {x v : V} (hc : cutAt [] size l h x = some v) : cutAt mem size l h x = some v := by
 unfold cutAt at hc ⊢
 split at hc
 ·exact hc
 ·simp [dU] at hc
 ·cases hc
theorem GU {P : Program} {tt : Table} {mem : List aC} {T : TypeId} {x v : V} {lo hi : Option V} (hc : vP P tt [] T x lo hi = some v) : vP P tt mem T x lo hi = some v := by
 unfold vP at hc ⊢
 split
 ·exact hc
 ·rename_i bL
  split at hc
  ·exact absurd rfl (bL _)
  ·split at hc
   ·cases hc
   ·split at hc
    ·cases hc
    ·split at hc
     ·split at hc
      ·exact mN hc
      ·split at hc
       ·exact mN hc
       ·cases hc
     ·split at hc
      ·cases hc
      ·split at hc
       ·exact mN hc
       ·split at hc
        ·exact mN hc
        ·cases hc
theorem Eo {tt : Table} {mem : List aC} {T : TypeId} {p v : V} (h : lj tt [] T p = some v) : lj tt mem T p = some v := by
 cases p <;> simp [lj, rowOf] at h ⊢
 exact h
theorem AY {tt : Table} {mem : List aC} {T : TypeId} {p i v : V} (h : jf tt [] T p i = some v) : jf tt mem T p i = some v := by
 unfold jf at h ⊢
 split at h
 ·split at h
  ·split at h
   ·cases p <;> simp [indexAt, dU] at h ⊢
    exact h
   ·cases h
  ·cases h
 ·cases h
theorem AZ {tt : Table} {mem : List aC} {T : TypeId} {b o : Nat} {i : V} : jf tt mem T (.ptr b o) i = none := by
 unfold jf
 split
 ·split
  ·split <;> rfl
  ·rfl
 ·rfl
theorem A1 {P : Program} {tt : Table} {mem : List aC} {T : TypeId} {p i v : V} (h : (match jf tt [] T p i with | some v => some v | none => rN P tt T p i) = some v) : (match jf tt mem T p i with | some v => some v | none => rN P tt T p i) = some v := by
 split at h
 ·rename_i u hu
  cases h
  rw [AY hu]
 ·have hp : ∃ b o, p = .ptr b o := by
   unfold rN at h
   split at h
   ·exact ⟨_, _, rfl⟩
   ·cases h
  obtain ⟨b, o, rfl⟩ := hp
  rw [AZ]; exact h
theorem yj {P : Program} {mem : List aC} {T : TypeId} {m i v : V} {ok : Bool} (h : e8 P [] T m i ok = some v) : e8 P mem T m i ok = some v := by
 unfold e8 at h ⊢
 split at h
 ·split at h
  ·split at h
   ·rename_i hk
    rw [if_pos hk]
    unfold oo at h ⊢
    split at h
    ·simp at h
    ·exact h
    ·cases h
   ·cases h
  ·cases h
 ·cases h
theorem GV {mem : List aC} {it v : V} (h : D0 [] it = some v) : D0 mem it = some v := by
 unfold D0 at h
 split at h
 ·simp at h
 ·cases h
theorem GX {P : Program} {tt : Table} {mem : List aC} {ts : Array TypeId} {ty : TypeId} {xs : List V} {v : V} (h : (match rM [] ts P xs with | some v => some v | none => vR P tt ts ty xs) = some v) :
  (match rM mem ts P xs with | some v => some v | none => vR P tt ts ty xs) = some v := by
 by_cases hx : ∃ b, xs = [.mp b]
 ·obtain ⟨b, rfl⟩ := hx
  simp [rM, vR, dh, jY, cb] at h
 ·have hn : ∀ m, rM m ts P xs = none := fun m => by
   unfold rM
   split
   ·exact absurd ⟨_, rfl⟩ hx
   ·rfl
  rw [hn] at h ⊢
  exact h
theorem Ep (st : St) (mem : List aC) (x : Operand) : St.eval { st with mem := mem } x = st.eval x := by cases x <;> rfl
theorem cu (st : St) (mem : List aC) : St.eval { st with mem := mem } = st.eval := funext fun x => Ep st mem x
theorem Er {P : Program} {mem : List aC} {s d : TypeId} {x v : V} (h : oq P [] s d x = some v) : oq P mem s d x = some v := by
 cases x <;> first | exact h | (simp [oq] at h)
theorem Kg {P : Program} {tt : Table} {st : St} {o : Oper} {v : V} (h : gp P tt { st with mem := [] } o = some v) : gp P tt st o = some v := by
 obtain ⟨dst, op, type, pos, after, guard⟩ := o
 cases op
 case load T x => simp only [gp,cu] at h ⊢; exact Eo h
 case indexAddr T x i => simp only [gp,cu] at h ⊢; exact A1 h
 case entry it => simp only [gp,cu] at h ⊢; exact GV h
 case convert s d x => simp only [gp,cu] at h ⊢; exact Er h
 case lookup T x i ok => simp only [gp,cu] at h ⊢; exact yj h
 case slice T x lo hi mx =>
  cases mx
  ·simp only [gp,cu] at h ⊢; exact GU h
  ·cases lo <;> cases hi <;> simp only [gp,cu,reduceCtorEq] at h ⊢
   exact h
 case call c =>
  obtain ⟨callee, args, ts⟩ := c
  cases callee with
  | builtin b => cases b <;> first | (simp only [gp,cu] at h ⊢; exact h) | (simp only [gp,cu] at h ⊢; exact GX h) | (simp [gp] at h)
  | _ => simp [gp] at h
 all_goals first | (simp only [gp,cu] at h ⊢; exact h) | (simp [gp] at h)

theorem qH {mem : List aC} {v v' : V} (h : br [] v = some v') : br mem v = some v' ∧ fa v = [] := by
 unfold br at h
 split at h
 ·exact ⟨h, rfl⟩
 ·exact ⟨h, rfl⟩
 ·exact ⟨h, rfl⟩
 ·exact ⟨h, rfl⟩
 ·exact ⟨h, rfl⟩
 ·exact ⟨h, rfl⟩
 ·simp at h
 ·exact ⟨h, rfl⟩
 ·cases h
theorem oK {mem : List aC} : ∀ {vs vs' : List V}, dH [] vs = some vs' → dH mem vs = some vs' ∧ vs.flatMap fa = []
 | [], vs', h => ⟨h, rfl⟩
 | c :: r, vs', h => by
  simp only [dH] at h ⊢
  split at h
  ·rename_i c' hc
   split at h
   ·rename_i r' hr
    obtain ⟨h1, h2⟩ := qH (mem := mem) hc
    obtain ⟨h3, h4⟩ := oK (mem := mem) hr
    rw [h1, h3]
    exact ⟨h, by simp [List.flatMap_cons, h2, h4]⟩
   ·cases h
  ·cases h
theorem GY {mem : List aC} {v v' : V} (h : dR [] v = some v') : dR mem v = some v' ∧ de v = [] := by
 unfold dR at h
 split at h
 ·rename_i cs
  split at h
  ·rename_i l hl
   obtain ⟨h1, h2⟩ := oK (mem := mem) hl
   exact ⟨by simp only [dR,h1]; exact h, h2⟩
  ·cases h
 ·rename_i bL
  obtain ⟨h1, h2⟩ := qH (mem := mem) h
  exact ⟨by cases v <;> first | exact h1 | exact absurd rfl (bL _), by cases v <;> first | exact h2 | exact absurd rfl (bL _)⟩
theorem oL {mem : List aC} : ∀ {vs vs' : List V}, dx [] vs = some vs' → dx mem vs = some vs' ∧ vs.flatMap de = []
 | [], vs', h => ⟨h, rfl⟩
 | c :: r, vs', h => by
  simp only [dx] at h ⊢
  split at h
  ·rename_i c' hc
   split at h
   ·rename_i r' hr
    obtain ⟨h1, h2⟩ := GY (mem := mem) hc
    obtain ⟨h3, h4⟩ := oL (mem := mem) hr
    rw [h1, h3]
    exact ⟨h, by simp [List.flatMap_cons, h2, h4]⟩
   ·cases h
  ·cases h
theorem lv {v v' : V} (h : br [] v = some v') {E : Env} {x : Value} (hr : a8 E v x) : a8 E v' x := by
 unfold br at h
 split at h
 ·cases h; exact hr
 ·cases h; exact ox hr
 ·cases h; exact hr
 ·cases h; cases hr with | full _ _ _ h => exact h
 ·cases h; exact hr
 ·cases h; exact hr
 ·simp at h
 ·cases h
  cases hr with
  | iw _ f _ _ xs ys hx hy h1 h2 =>
   have e1 : xs = #[] := by simpa using hx.symm
   have e2 : ys = #[] := by simpa using hy.symm
   subst e1; subst e2; exact .sc _ _
 ·cases h
theorem kh {E : Env} : ∀ {vs vs' : List V} {xs : List Value}, dH [] vs = some vs' → aV E vs xs → aV E vs' xs
 | [], vs', xs, h, hr => by cases h; exact hr
 | c :: r, vs', xs, h, hr => by
  obtain ⟨x, ys, rfl, h1, h2⟩ := hr.of_cons
  simp only [dH] at h
  split at h
  ·rename_i c' hc
   split at h
   ·rename_i r' uI
    cases h
    exact .cons (lv hc h1) (kh uI h2)
   ·cases h
  ·cases h
theorem wI {v v' : V} (h : dR [] v = some v') {E : Env} {x : Value} (hr : a8 E v x) : a8 E v' x := by
 unfold dR at h
 split at h
 ·rename_i cs
  split at h
  ·rename_i l hl
   cases h
   cases hr with
   | agg _ _ xs hlen hh =>
    have := kh hl (E := E) (xs := xs.toList) ⟨by simpa using hlen, fun i c x hc hx => hh i c x hc (by simpa using hx)⟩
    exact .agg _ _ _ (by simpa using this.1) fun i c x hc hx => this.2 i c x hc (by simpa using hx)
  ·cases h
 ·exact lv h hr
theorem oM {E : Env} : ∀ {vs vs' : List V} {xs : List Value}, dx [] vs = some vs' → aV E vs xs → aV E vs' xs
 | [], vs', xs, h, hr => by cases h; exact hr
 | c :: r, vs', xs, h, hr => by
  obtain ⟨x, ys, rfl, h1, h2⟩ := hr.of_cons
  simp only [dx] at h
  split at h
  ·rename_i c' hc
   split at h
   ·rename_i r' uI
    cases h
    exact .cons (wI hc h1) (oM uI h2)
   ·cases h
  ·cases h
theorem oN (mem : List aC) (r : V) : eH mem [] r = mem := by unfold eH; split <;> rfl

theorem sj.hole {P : Program} {f : FuncId} {vs vs' : List V} {e : Nat} {rs : List V} (hp : dx [] vs = some vs') (h : sj P f vs' e rs) {mem : List aC} {key : Nat} (cp : mem[key]? = some .hole) :
  bF P f vs mem (.ms key 0 0 rs.length) (mem.set key (.rows 0 e rs)) := by
 obtain ⟨v0, h⟩ := h
 refine ⟨h.1, fun E w xs hs hx => ?_⟩
 obtain ⟨Mf, hk⟩ := oL (mem := mem) hp
 have h1 := gD hs (keys := []) hx Mf (by rw [hk]; simp)
 have hE : (E.kH w []).pure = ⟨E.F, fun _ _ => none, E.gl⟩ := by
  refine Env.DY (funext fun ad => ?_) rfl
  simp only [Env.pure,Env.kH]
  cases hh : E.F ad <;> simp
 rw [hE] at h1
 have JD : key < mem.length := (List.getElem?_eq_some_iff.1 cp).1
 have gF : ∀ v, E.aM key v = none := hs.mem key _ cp
 have kF : bc ⟨E.F, fun _ _ => none, E.gl⟩ w { tmps := #[], defers := [] } { fr := [], mem := [] } :=
  ⟨hs.F, (fun k v g e c h => by cases h), (fun k B h => by simp at h), (fun k _ v => rfl), (fun k B h => by simp at h), (fun k k' v v' g e c e' c' h => by cases h), .nil _⟩
 refine (h.2 _ w xs kF h1).mono ?_
 rintro en w' ⟨E', x, rfl, dX, kc, hr⟩
 have gZ : ∀ k v g e c, E'.aM k v = some (g, e, c) → w.heap.size ≤ g := fun k v g e c hb => by
  rcases dX.aM _ _ _ _ _ hb with ⟨_, _, _, _, h⟩ | h
  ·cases h
  ·exact h
 have hold : ∀ b, b < w.heap.size → w'.heap[b]? = w.heap[b]? := fun b hb => dX.heap b hb fun _ _ _ _ h => by cases h
 have RF : ∀ ad y, E'.F ad = some y → E.F ad = some y ∨ w.heap.size ≤ ad.block := fun ad y hy => by
  rcases dX.F _ _ hy with h | h | ⟨_, _, _, _, h⟩
  ·exact .inl h
  ·exact .inr h
  ·cases h
 have tV : (⟨E'.F, fun k v => if k = key then (if v = 0 then E'.aM 0 v0 else none) else E.aM k v, E'.gl⟩ : Env).aM key 0 = E'.aM 0 v0 := by simp
 have NS : ∀ v, v ≠ 0 → (⟨E'.F, fun k v => if k = key then (if v = 0 then E'.aM 0 v0 else none) else E.aM k v, E'.gl⟩ : Env).aM key v = none := fun v hv => by simp [hv]
 have kJ : ∀ k v, k ≠ key → (⟨E'.F, fun k v => if k = key then (if v = 0 then E'.aM 0 v0 else none) else E.aM k v, E'.gl⟩ : Env).aM k v = E.aM k v := fun k v hk => if_neg hk
 generalize RG : (⟨E'.F, fun k v => if k = key then (if v = 0 then E'.aM 0 v0 else none) else E.aM k v, E'.gl⟩ : Env) = E2 at tV NS kJ
 have ec : E2.F = E'.F := by rw [← RG]
 have uF : E2.pure = E'.pure := Env.DY ec rfl
 have CW : ∀ v t, E2.aM key v = some t → v = 0 ∧ E'.aM 0 v0 = some t := fun v t ht => by
  by_cases hv : v = 0
  ·subst hv; exact ⟨rfl, tV ▸ ht⟩
  ·rw [NS v hv] at ht; cases ht
 have hle : E.le E2 := ⟨fun ad y hy => by rw [ec]; exact dX.le.F _ _ hy, fun k v t hk => by
  by_cases ck : k = key
  ·subst ck; rw [gF v] at hk; cases hk
  ·rw [kJ k v ck]; exact hk⟩
 refine ⟨E2, x, rfl, ⟨hle, fun k v g e c hk => ?_, fun ad y hy => ?_, dX.os, dX.tape, dX.output, dX.size, fun b hb _ => hold b hb⟩, ⟨fun ad y hy => kc.F _ _ (by rw [← ec]; exact hy), fun k v g e c hk => ?_, fun k B hk => ?_, fun k hk v => ?_, fun k B hk v hv => ?_, fun k k' v v' g e1 c1 e2 c2 h5 h6 => ?_, .nil _⟩, ?_⟩
 ·by_cases ck : k = key
  ·subst ck; obtain ⟨-, h⟩ := CW _ _ hk; exact .inr (gZ _ _ _ _ _ h)
  ·rw [kJ k v ck] at hk; exact .inl ⟨k, v, e, c, hk⟩
 ·rw [ec] at hy
  rcases RF ad y hy with h | h
  ·exact .inl h
  ·exact .inr (.inl h)
 ·by_cases ck : k = key
  ·subst ck; obtain ⟨-, h⟩ := CW _ _ hk; exact kc.lt _ _ _ _ _ h
  ·rw [kJ k v ck] at hk; have := hs.lt _ _ _ _ _ hk; have := dX.size; omega
 ·rw [List.getElem?_set] at hk
  by_cases ck : key = k
  ·subst ck
   simp only [if_true,JD] at hk
   cases hk
   have h0 := kc.mem 0 _ rfl
   rcases h0 with ⟨h1, h2⟩ | ⟨g, T, ys, c, h1, h2, h3, h4, h5, h6⟩
   ·exact .inl ⟨h1, by rw [tV]; exact h2⟩
   ·exact .inr ⟨g, T, ys, c, by rw [tV]; exact h1, h2, h3, h4, by rw [uF]; exact h5, fun o => by rw [ec]; exact h6 o⟩
  ·rw [if_neg ck] at hk
   refine (hs.mem k B hk).mono hle (fun v hv => by rw [kJ k v (fun e => ck e.symm)]; exact hv) (fun g e c hb => hold g (hs.lt _ _ _ _ _ hb)) fun g e c o hb hn => ?_
   rw [ec]
   cases hy : E'.F ⟨g, o, none⟩ with
   | none => rfl
   | some y =>
    rcases RF _ y hy with h | h
    ·rw [hn] at h; cases h
    ·have := hs.lt _ _ _ _ _ hb; simp at h; omega
 ·dsimp only at hk
  rw [List.length_set] at hk
  rw [kJ k v (by omega)]; exact hs.top k (by dsimp only; omega) v
 ·rw [List.getElem?_set] at hk
  by_cases ck : key = k
  ·subst ck
   simp only [if_true,JD] at hk
   cases hk
   exact NS v (by simp [aC.bW] at hv; omega)
  ·rw [if_neg ck] at hk
   rw [kJ k v (fun e => ck e.symm)]; exact hs.bW k B hk v hv
 ·by_cases dP : k = key <;> by_cases iz : k' = key
  ·rw [dP, iz]
  ·subst dP
   obtain ⟨-, h⟩ := CW _ _ h5
   rw [kJ k' _ iz] at h6
   have := hs.lt _ _ _ _ _ h6; have := gZ _ _ _ _ _ h; omega
  ·subst iz
   obtain ⟨-, h⟩ := CW _ _ h6
   rw [kJ k _ dP] at h5
   have := hs.lt _ _ _ _ _ h5; have := gZ _ _ _ _ _ h; omega
  ·rw [kJ k _ dP] at h5; rw [kJ k' _ iz] at h6
   exact hs.apart _ _ _ _ _ _ _ _ _ h5 h6
 ·rcases wh hr with ⟨h0, rfl⟩ | ⟨g, e, c, aa, cap, rfl, hb, hl, h0, hc⟩
  ·rw [h0]; exact .dg _ _ _ _
  ·exact .ms _ _ _ _ _ g e c _ _ (by rw [tV]; exact hb) hl h0 hc

theorem bc.GZ {E : Env} {w : World} {a : Act} {st : St} (hs : bc E w a st) {xs : Array Value} {rs : List V} {e c : Nat} (T : TypeId) (hl : rs.length ≤ c) (hr : fS E.pure e rs (fun o => xs[o]?)) :
  ∃ E', bc E' (w.alloc (.cells xs T (0, 0))) a st ∧ dO E w E' (w.alloc (.cells xs T (0, 0))) ∧ a8 E' (.slice rs) (.slice (some ⟨w.heap.size, 0, none⟩) rs.length c) := by
 have kf : ∀ o, (w.alloc (.cells xs T (0, 0))).cell? ⟨w.heap.size, o, none⟩ = xs[o]? := fun o => gM (heap_alloc_new w _) o
 have hle : E.le ⟨fun ad => match E.F ad with | some x => some x | none => if ad.block = w.heap.size ∧ ad.spot = none then xs[ad.off]? else none, E.aM, E.gl.mono fun ad x h => by simp only [h]⟩ := ⟨fun ad x h => by dsimp only; rw [h], fun _ _ _ h => h⟩
 refine ⟨⟨fun ad => match E.F ad with | some x => some x | none => if ad.block = w.heap.size ∧ ad.spot = none then xs[ad.off]? else none, E.aM, E.gl.mono fun ad x h => by simp only [h]⟩, ⟨fun ad x hx => ?_, fun k v g e c h => ?_, fun k B hB => ?_, hs.top, hs.bW, hs.apart, hs.fr.mono hle⟩, ⟨hle, fun k v g e c h => .inl ⟨k, v, e, c, h⟩, fun ad x hx => ?_, rfl, rfl, rfl, by simp, fun b hb _ => Go.RowKit.Below.heap_alloc w _ b hb⟩, ?_⟩
 ·dsimp only at hx
  split at hx
  ·rename_i y hy; cases hx
   rw [World.cell?_alloc_lt w _ ad (World.block_lt_of_cell? w ad (hs.F ad _ hy))]; exact hs.F ad _ hy
  ·split at hx
   ·rename_i hc
    obtain ⟨b, o, el⟩ := ad
    obtain ⟨rfl, rfl⟩ := hc
    rw [kf]; exact hx
   ·cases hx
 ·have := hs.lt _ _ _ _ _ h; simp; omega
 ·refine (hs.mem k B hB).mono hle (fun v h => h) (fun g e' c' hb => Go.RowKit.Below.heap_alloc w _ g (hs.lt _ _ _ _ _ hb)) fun g e c o hb hn => ?_
  dsimp only
  rw [hn]
  have := hs.lt _ _ _ _ _ hb
  simp; intro h; omega
 ·dsimp only at hx
  split at hx
  ·rename_i y hy; cases hx; exact .inl hy
  ·split at hx
   ·rename_i hc; exact .inr (.inl (by rw [hc.1]; exact Nat.le_refl _))
   ·cases hx
 ·have hn : ∀ o, E.F ⟨w.heap.size, o, none⟩ = none := fun o => by
   cases hx : E.F ⟨w.heap.size, o, none⟩ with
   | none => rfl
   | some x => have := World.block_lt_of_cell? w _ (hs.F _ _ hx); simp at this
  refine .slice _ rs _ c e ⟨w.heap.size, 0, none⟩ (fun i j => (xs[i * e + j]?).getD undef) (fun _ => rfl) hl (fun i row hi => (hr i row hi).1) (fun i row j cc hi hj => ?_) (fun i row j cc hi hj => ?_) fun i row j cc hi hj => ?_
  ·obtain ⟨x, hx, h1, h2⟩ := (hr i row hi).2 j cc hj
   rw [add_lit, Nat.zero_add]
   simp only [hn,true_and,if_true,and_self]
   dsimp only at hx; rw [hx]; rfl
  ·obtain ⟨x, hx, h1, h2⟩ := (hr i row hi).2 j cc hj
   dsimp only at hx ⊢; rw [hx]; exact h1
  ·obtain ⟨x, hx, h1, h2⟩ := (hr i row hi).2 j cc hj
   dsimp only at hx ⊢; rw [hx]; exact h2.mono (Env.ft hle)

section
variable {P : Program} {tt : Table} (ht : TT P tt)
include ht
theorem ss {E : Env} {w : World} {a : Act} {st : St} (hs : bc E w a st) {o : Oper} {mem : List aC} {Q : V → Prop} {R : St → Prop} (h : mZ P tt o { st with mem := mem } Q) (hQ : ∀ v, Q v → R (st.put o.dst v))
  (lq : ∀ v, gp P tt { st with mem := mem } o = some v → ∃ x, (execOp a.eval o).run P w = .ok (.value x) w ∧ a8 E v x)
  {ρ : Option Nat} {n : Nat} {next : Act → World → Prop} {Q' : Exit → Act → World → Prop} (hn : ∀ v w', x9 E w a o.dst R v w' → next (a.put o.dst v) w') : o.wpIn (WF ρ) n P a w next Q' := by
 obtain ⟨dst, op, type, pos, after, guard⟩ := o
 have gen : ∀ (j3 : ∀ c, op ≠ .defer c), (∀ f xs ts, op ≠ .call { callee := .value f, args := xs, argTypes := ts }) → (∀ T ps, op ≠ .build T ps) → (∀ T l ps, op ≠ .buildSlice T l ps) → Oper.wpIn (WF ρ) n P { dst := dst, op := op, type := type, pos := pos, after := after, guard := guard } a w next Q' := by
  intro j3 h1 h2 h3
  have hv : ∃ v, gp P tt { st with mem := mem } { dst := dst, op := op, type := type, pos := pos, after := after, guard := guard } = some v ∧ Q v := by
   unfold mZ at h
   split at h
   ·rename_i heq; exact absurd heq (h1 _ _ _)
   ·unfold qZ at h
    dsimp only at h
    split at h
    ·rename_i v hv
     split at hv
     ·exact absurd rfl (h2 _ _)
     ·exact absurd rfl (h3 _ _ _)
     ·exact ⟨v, hv, h⟩
    ·exact h.elim
  obtain ⟨v, hv, hq⟩ := hv
  obtain ⟨x, h4, h5⟩ := lq v hv
  exact bd j3 h4 (hn _ _ ⟨E, _, hs.put dst h5, dO.refl E w, hQ _ hq⟩)
 cases op
 case defer c => simp [mZ, qZ, gp] at h
 case build T ps =>
  simp only [mZ,qZ,cu] at h
  split at h
  ·rename_i v hv
   obtain ⟨x, h1, h2⟩ := oC ht hs hv
   exact bd (by simp) (bh h1) (hn _ _ ⟨E, _, hs.put dst h2, dO.refl E w, hQ _ h⟩)
  ·exact h.elim
 case buildSlice T len ps =>
  simp only [mZ,qZ,cu] at h
  split at h
  ·rename_i v hv
   split at hv
   ·rename_i size rs hl
    cases hv
    obtain ⟨Z, e, h1, h2, h3, h4⟩ := wg ht (fun p _ => hs.eval p.2) hl
    obtain ⟨E', h5, h6, h7⟩ := hs.GZ (xs := Z) (rs := rs) (c := len) e (by omega) h4
    rw [h3] at h7
    exact bd (by simp) (ed h1) (hn _ _ ⟨E', _, h5.put dst h7, h6, hQ _ h⟩)
   ·cases hv
  ·exact h.elim
 case call c =>
  obtain ⟨callee, args, ts⟩ := c
  cases callee with
  | value f =>
   simp only [mZ,cu] at h
   split at h
   ·rename_i g vs hg
    obtain ⟨vs', r, h1, h2, h3⟩ := h
    obtain ⟨h4, h5⟩ := oL (mem := st.mem) h1
    obtain ⟨ys, h6, h7⟩ := lW (P := P) (w := w) (hs.eval f) (hs.jL args) hg
    have hc : uL P g vs st dst R := by
     rcases h2 with h2 | h2
     ·exact .inl ⟨vs', r, h4, h2, by rw [h5, oN]; exact hQ _ h3⟩
     ·refine .inr (.inr (.inr ⟨r, fun E1 w1 xs1 AK ua => ?_, hQ _ h3⟩))
      obtain ⟨x, g1, g2⟩ := h2 E1 w1 xs1 AK (oM h1 ua)
      exact ⟨x, g1, g2⟩
    rcases qB hs hc h6 with ⟨h8, h9⟩ | ⟨v, h8, h9⟩
    ·refine qz (by simp) (f := g) (xs := ys) ?_ h9 fun e w' ⟨v, hv, ha⟩ => ⟨v, hv, hn _ _ ha⟩
     rw [← h8, ← h7]
     simp only [execOp,resolve]
    ·refine bd (by simp) (v := v) ?_ (hn _ _ h9)
     rw [← h8, ← h7]
     simp only [execOp,resolve]
   ·exact h.elim
  | _ => exact gen (by simp) (by simp) (by simp) (by simp)
 all_goals exact gen (by simp) (by simp) (by simp) (by simp)

omit ht in
theorem oO {mem : List aC} {k : Nat} (h : mem[k]? = some .hole) (B : aC) : bj mem k B = mem.set k B := by
 unfold bj; rw [if_pos (List.getElem?_eq_some_iff.1 h).1]

theorem yl {all : Array Oper} {base : Nat} {E : Env} {w : World} {a : Act} {st : St} (hs : bc E w a st) {i : Nat} {o : Oper} {p : Pl} {Q : St → Prop} (hi : all[i]? = some o) (h : dV P tt all base o p st Q)
  {ρ : Option Nat} {n : Nat} {next : Act → World → Prop} {Q' : Exit → Act → World → Prop} (hn : ∀ v w', x9 E w a o.dst Q v w' → next (a.put o.dst v) w') : wpOpIn (WF ρ) n P all Q' i next a w := by
 unfold wpOpIn
 rw [hi]
 dsimp only
 unfold dV at h
 split at h
 ·rename_i hw
  rw [if_pos (eL hs hw)]
  split at h
  ·rw [ry] at h; exact ss ht hs h (fun _ h => h) (fun v hv => mF ht hs (Kg hv)) hn
  ·rw [ry] at h; exact ss ht hs h (fun _ h => h) (fun v hv => mF ht (hs.dJ _) hv) hn
  ·obtain ⟨hh, h⟩ := h
   rw [gG] at hh
   split at h
   ·rename_i B v hb
    refine cY ht hs (key := base + p.key) (.inl hh) ?_ hn
    unfold eR at hb
    unfold bI
    split at hb
    ·rename_i T heq
     rw [heq]
     dsimp only
     split at hb
     ·rename_i i hi; cases hb; rw [hi]; dsimp only; rw [oO hh]; exact h
     ·cases hb
    ·rename_i heq
     rw [heq]
     dsimp only
     split at hb
     ·rename_i i hi; cases hb; rw [hi]; dsimp only; rw [oO hh]; exact h
     ·cases hb
    ·rename_i heq
     rw [heq]
     dsimp only
     split at hb
     ·rename_i i hi; cases hb; rw [hi]; dsimp only; rw [oO hh]; exact h
     ·cases hb
    ·rename_i heq
     rw [heq]
     dsimp only
     cases hb; rw [oO hh]; exact h
    ·rename_i heq
     rw [heq]
     dsimp only
     split at hb
     ·rename_i i hi; cases hb; rw [hi]; dsimp only; rw [oO hh]; exact h
     ·cases hb
    ·cases hb
   ·rw [uO] at h
    unfold lr at h
    split at h
    ·rename_i f xs ts heq
     split at h
     ·rename_i g vs hg
      obtain ⟨vs', e, rs, h1, h2, h3⟩ := h
      refine cY ht hs (key := base + p.key) (.inl hh) ?_ hn
      unfold bI
      rw [heq]
      dsimp only
      split
      ·rename_i k hk; rw [hk] at hg; simp [bw] at hg
      ·rw [hg]
       exact .inr (.inl ⟨_, _, h2.hole h1 hh, h3⟩)
     ·exact h.elim
    ·exact h.elim
  ·obtain ⟨hh, h⟩ := h
   rw [gG] at hh
   split at h
   ·rename_i m v hb
    refine cY ht hs (key := base + p.key) (.inl hh) ?_ hn
    unfold oI at hb
    unfold bI
    split at hb
    ·rename_i heq
     rw [heq]
     dsimp only
     split at hb
     ·rename_i i hi; cases hb; rw [hi]; exact h
     ·cases hb
    ·rename_i xs ts heq
     rw [heq]
     dsimp only
     split at hb
     ·rename_i s x Nz
      rw [Nz]
      dsimp only
      split at hb
      ·rename_i size ka rows ha
       rw [ha]
       simp only [Option.some.injEq] at hb
       dsimp only
       rw [hb]; exact h
      ·cases hb
     ·cases hb
    ·rename_i heq
     rw [heq]
     dsimp only
     split at hb
     ·rename_i i hi; cases hb; rw [hi]; exact h
     ·cases hb
    ·rename_i heq
     rw [heq]
     dsimp only
     split at hb
     ·rename_i i hi; cases hb; rw [hi]; exact h
     ·cases hb
    ·cases hb
   ·exact h.elim
  ·split at h
   ·rename_i m hb
    refine cY ht hs (key := st.mem.length) (.inr rfl) ?_ hn
    unfold q6 at hb
    unfold bI
    split at hb
    ·rename_i heq
     rw [heq]
     dsimp only
     split at hb
     ·rename_i b off hp
      split at hb
      ·rename_i hk
       subst hk
       rw [hp, hb]; exact h
      ·cases hb
     ·cases hb
    ·cases hb
   ·exact h.elim
  ·split at h
   ·rename_i v hb
    refine cY ht hs (key := st.mem.length) (.inr rfl) ?_ hn
    have ho := Ek (P := P) hb
    unfold lu at hb
    unfold bI
    split at hb
    ·rename_i heq
     rw [heq]
     dsimp only
     rw [ho]; exact h
    ·cases hb
   ·exact h.elim
  ·refine cY ht hs (key := st.mem.length) (.inr rfl) ?_ hn
   unfold l4 at h
   unfold bI
   split at h
   ·rename_i f xs ts heq
    split at h
    ·rename_i g vs hg
     obtain ⟨vs', r, h1, h2, h3⟩ := h
     rw [heq]
     dsimp only
     split
     ·rename_i k hk; rw [hk] at hg; simp [bw] at hg
     ·rw [hg]
      exact .inl ⟨vs', r, h1, h2, h3⟩
    ·exact h.elim
   ·exact h.elim
  ·refine cY ht hs (key := st.mem.length) (.inr rfl) ?_ hn
   unfold uP at h
   unfold bI
   split at h
   ·rename_i f xs ts heq
    split at h
    ·rename_i g vs hg
     obtain ⟨v, B0, B, -, -, h1, h2, h3⟩ := h
     rw [heq]
     dsimp only
     split
     ·rename_i k hk; rw [hk] at hg; simp [bw] at hg
     ·rw [hg]
      exact .inr (.inl ⟨_, _, h2 _ h1, h3⟩)
    ·exact h.elim
   ·exact h.elim
 ·rename_i hw
  rw [if_neg (by rw [eL hs hw]; simp)]
  exact ⟨fun _ _ => trivial, hn _ _ ⟨E, _, hs.put o.dst (.sc _ _), dO.refl E w, h⟩⟩
 ·exact h.elim
end
end Go.Eng
end

section
namespace Go.Eng
variable [aK]

def UO : Pl := ⟨.n, 0, [], [], []⟩
def waitsFor (o : Oper) (k : Nat) : Bool := o.after.any fun e => Region.binds .any e && e.on == k
def l6 (all : Array Oper) (y : Oper) (py : Pl) : Nat → List Oper → List Pl → Bool
 | _, [], _ => true
 | k, x :: r, px => (waitsFor y k || py.Mk.contains k || pP all x (px.headD UO) y py) && l6 all y py (k + 1) r px.tail
def A3 (o : Oper) (i : Nat) : Bool := o.after.all fun e => !Region.binds .any e || decide (e.on < i)
def l7 (plan : List Pl) (i : Nat) : Pl := (plan[i]?).getD UO
def G0 (plan : List Pl) (y : Oper) (py : Pl) : Bool := py.Mk.all fun k => waitsFor y k || y.after.any fun e => Region.binds .any e && (l7 plan e.on).Mk.contains k
def rz (all : Array Oper) (plan : List Pl) : Nat → List Oper → List Pl → Bool
 | _, [], _ => true
 | i, y :: r, py => A3 y i && G0 plan y (py.headD UO) && l6 all y (py.headD UO) 0 (all.toList.take i) plan && rz all plan (i + 1) r py.tail
def su (all : Array Oper) (plan : List Pl) : Bool := rz all plan 0 all.toList plan

theorem nK {α : Type} (l : List α) (i : Nat) (d : α) : (l.drop i).headD d = (l[i]?).getD d := by
 rw [List.headD_eq_head?_getD, List.head?_drop]

theorem oP {all : Array Oper} {y : Oper} {py : Pl} {plan : List Pl} : ∀ {l : List Oper} {n : Nat}, l6 all y py n l (plan.drop n) = true → ∀ k x, l[k]? = some x → (waitsFor y (n + k) = true ∨ (n + k) ∈ py.Mk) ∨ pP all x (l7 plan (n + k)) y py = true
 | [], n, _, k, x, h => by simp at h
 | z :: r, n, h, k, x, hk => by
  simp only [l6,Bool.and_eq_true,Bool.or_eq_true,nK] at h
  cases k with
  | zero => simp at hk; subst hk; simpa [l7] using h.1
  | succ k =>
   have h2 := h.2
   rw [List.tail_drop] at h2
   have := oP h2 k x (by simpa using hk)
   rw [Nat.add_assoc, Nat.add_comm 1 k] at this
   exact this
theorem qI {all : Array Oper} {plan : List Pl} : ∀ {l : List Oper} {n : Nat}, rz all plan n l (plan.drop n) = true → ∀ k y, l[k]? = some y → (A3 y (n + k) = true ∧ G0 plan y (l7 plan (n + k)) = true) ∧ l6 all y (l7 plan (n + k)) 0 (all.toList.take (n + k)) plan = true
 | [], n, _, k, x, h => by simp at h
 | z :: r, n, h, k, x, hk => by
  simp only [rz,Bool.and_eq_true,nK] at h
  cases k with
  | zero => simp at hk; subst hk; exact h.1
  | succ k =>
   have h2 := h.2
   rw [List.tail_drop] at h2
   have := qI h2 k x (by simpa using hk)
   rw [Nat.add_assoc, Nat.add_comm 1 k] at this
   exact this
theorem ki {all : Array Oper} {plan : List Pl} (h : su all plan = true) {i : Nat} {y : Oper} (hi : all[i]? = some y) :
  (∀ e ∈ y.after, Region.binds .any e = true → e.on < i) ∧ (∀ k ∈ (l7 plan i).Mk, waitsFor y k = true ∨ ∃ e ∈ y.after, Region.binds .any e = true ∧ k ∈ (l7 plan e.on).Mk) ∧ ∀ k x, k < i → all[k]? = some x → (waitsFor y k = true ∨ k ∈ (l7 plan i).Mk) ∨ pP all x (l7 plan k) y (l7 plan i) = true := by
 have := qI (n := 0) h i y (by simpa using hi)
 rw [Nat.zero_add] at this
 obtain ⟨⟨h1, h3⟩, h2⟩ := this
 refine ⟨fun e he hb => ?_, fun k hk => ?_, fun k x hk hx => ?_⟩
 ·unfold A3 at h1
  have := Array.all_eq_true_iff_forall_mem.1 h1 e he
  simpa [hb] using this
 ·unfold G0 at h3
  have := List.all_eq_true.1 h3 k hk
  rw [Bool.or_eq_true] at this
  refine this.imp id fun h => ?_
  rw [Array.any_eq_true'] at h
  obtain ⟨e, he, h⟩ := h
  rw [Bool.and_eq_true] at h
  exact ⟨e, he, h.1, by simpa using h.2⟩
 ·have := oP (n := 0) h2 k x (by rw [List.getElem?_take_of_lt hk]; simpa using hx)
  rwa [Nat.zero_add] at this

section
variable {P : Program} {tt : Table} {all : Array Oper} {plan : List Pl} {base : Nat}
def ym (P : Program) (tt : Table) (all : Array Oper) (plan : List Pl) (base : Nat) : List Nat → St → (St → Prop) → Prop
 | [], st, K => K st
 | i :: r, st, K => match all[i]? with
  | some o => dV P tt all base o (l7 plan i) st fun st' => ym P tt all plan base r st' K
  | none => False
theorem sw {o : Oper} {p : Pl} {st : St} {K K' : St → Prop} (h : ∀ s, K s → K' s) (hh : dV P tt all base o p st K) : dV P tt all base o p st K' := by
 by_cases hz : p.cls = .z
 ·unfold dV at hh ⊢
  split at hh
  ·rw [hz] at hh ⊢
   exact sm hh h
  ·exact h _ hh
  ·exact hh.elim
 ·obtain ⟨v, m, h1, h2⟩ := (eM hz).1 hh
  exact (eM hz).2 ⟨v, m, h1, h _ h2⟩
theorem sx {i : Nat} {o : Oper} (hi : all[i]? = some o) {K : St → Prop} {σ2 : List Nat} : ∀ {σ1 : List Nat} {st : St}, (∀ k ∈ σ1, ∀ x, all[k]? = some x → pP all x (l7 plan k) o (l7 plan i) = true) →
  ym P tt all plan base (σ1 ++ i :: σ2) st K → dV P tt all base o (l7 plan i) st fun st' => ym P tt all plan base (σ1 ++ σ2) st' K
 | [], st, _, h => by simpa [ym, hi] using h
 | k :: r, st, hp, h => by
  simp only [List.cons_append,ym] at h ⊢
  cases hk : all[k]? with
  | none => rw [hk] at h; exact h.elim
  | some x =>
   rw [hk] at h
   dsimp only at h ⊢
   exact AX (hp k (by simp) x hk) (sw (fun s hs => sx hi (fun k' fF => hp k' (by simp [fF])) hs) h)

theorem oQ {y : Oper} {k : Nat} {listed : Array Bool} (h : waitsFor y k = true) (hl : ∀ e ∈ y.after, Region.binds .any e = true → listed.getD e.on false = true) : listed.getD k false = true := by
 unfold waitsFor at h
 rw [Array.any_eq_true'] at h
 obtain ⟨e, he, h⟩ := h
 rw [Bool.and_eq_true, beq_iff_eq] at h
 rw [← h.2]; exact hl e he h.1

def G1 (all : Array Oper) (listed : Array Bool) : Prop := ∀ (i : Nat) (o : Oper), listed.getD i false = true → all[i]? = some o → ∀ e ∈ o.after, Region.binds .any e = true → listed.getD e.on false = true
theorem A4 (dc : su all plan = true) {listed : Array Bool} (hc : G1 all listed) (jW : listed.size = all.size) : ∀ (i : Nat) (y : Oper), all[i]? = some y → (∀ e ∈ y.after, Region.binds .any e = true → listed.getD e.on false = true) → ∀ k ∈ (l7 plan i).Mk, listed.getD k false = true := by
 intro i
 induction i using Nat.strongRecOn with
 | _ i ih =>
  intro y hy hl k hk
  rcases (ki dc hy).2.1 k hk with h | ⟨e, he, hb, h⟩
  ·exact oQ h hl
  ·have h1 := hl e he hb
   have aL : e.on < all.size := by
    have : e.on < i := (ki dc hy).1 e he hb
    have := (Array.getElem?_eq_some_iff.1 hy).1
    omega
   have hz := Array.getElem?_eq_getElem aL
   exact ih e.on ((ki dc hy).1 e he hb) _ hz (hc e.on _ h1 hz) k h

theorem yn (ht : TT P tt) (dc : su all plan = true) {ρ : Option Nat} {n : Nat} {K : St → Prop} {Q' : Exit → Act → World → Prop} : ∀ (fuel : Nat) (listed : Array Bool) (σ : List Nat), listed.size = all.size → G1 all listed → σ.length ≤ fuel → σ.Pairwise (· < ·) → (∀ i, i ∈ σ ↔ listed[i]? = some false) →
  ∀ {E : Env} {w : World} {a : Act} {st : St}, bc E w a st → ym P tt all plan base σ st K → (∀ a' w', a'.defers = a.defers → (∃ E' st', bc E' w' a' st' ∧ dO E w E' w' ∧ K st') → Q' .normal a' w') → wpAnyIn (WF ρ) n P .any all Q' fuel listed a w := by
 intro fuel
 have done : ∀ (listed : Array Bool) (σ : List Nat), listed.size = all.size → σ.Pairwise (· < ·) → (∀ i, i ∈ σ ↔ listed[i]? = some false) → Region.ready .any all listed = [] → σ = [] := by
  intro listed σ jW uS oR hr
  cases σ with
  | nil => rfl
  | cons i r =>
   exfalso
   have UP := (oR i).1 (by simp)
   have aL : i < all.size := by rw [← jW]; exact (Array.getElem?_eq_some_iff.1 UP).1
   have : i ∈ Region.ready .any all listed := by
    refine mem_ready.2 ⟨by simp [Array.getD_eq_getD_getElem?, UP], all[i], Array.getElem?_eq_getElem aL, fun e he hb => ?_⟩
    have Nk := (ki dc (Array.getElem?_eq_getElem aL)).1 e he hb
    have hs : e.on < listed.size := by omega
    cases hv : listed[e.on] with
    | true => simp [Array.getD_eq_getD_getElem?, Array.getElem?_eq_getElem hs, hv]
    | false =>
     have : e.on ∈ i :: r := (oR e.on).2 (by rw [Array.getElem?_eq_getElem hs, hv])
     rcases List.mem_cons.1 this with h | h
     ·omega
     ·have := List.rel_of_pairwise_cons uS h; omega
   rw [hr] at this; cases this
 induction fuel with
 | zero =>
  intro listed σ jW gj hlen uS oR E w a st hs h hq
  have hσ : σ = [] := List.length_eq_zero_iff.1 (by omega)
  subst hσ
  refine ⟨?_, hq _ _ rfl ⟨E, st, hs, dO.refl E w, h⟩⟩
  cases hr : Region.ready .any all listed with
  | nil => rfl
  | cons j l =>
   have hj : j ∈ Region.ready .any all listed := by rw [hr]; simp
   obtain ⟨h0, o, ho, -⟩ := mem_ready.1 hj
   have aL : j < listed.size := by rw [jW]; exact (Array.getElem?_eq_some_iff.1 ho).1
   have : j ∈ ([] : List Nat) := (oR j).2 (by
    rw [Array.getElem?_eq_getElem aL]; congr 1
    simpa [Array.getD_eq_getD_getElem?, Array.getElem?_eq_getElem aL] using h0)
   cases this
 | succ fuel ih =>
  intro listed σ jW gj hlen uS oR E w a st hs h hq
  refine ⟨fun hr => ?_, fun i hi => ?_⟩
  ·have := done listed σ jW uS oR hr
   subst this
   exact hq _ _ rfl ⟨E, st, hs, dO.refl E w, h⟩
  ·obtain ⟨h0, o, ho, NT⟩ := mem_ready.1 hi
   have aL : i < listed.size := by rw [jW]; exact (Array.getElem?_eq_some_iff.1 ho).1
   have UP : listed[i]? = some false := by
    rw [Array.getElem?_eq_getElem aL]; congr 1
    simpa [Array.getD_eq_getD_getElem?, Array.getElem?_eq_getElem aL] using h0
   obtain ⟨σ1, σ2, rfl⟩ := List.append_of_mem ((oR i).2 UP)
   rw [List.pairwise_append] at uS
   obtain ⟨kF, Aw, NU⟩ := uS
   rw [List.pairwise_cons] at Aw
   have lx := sx ho (σ1 := σ1) (fun k hk x hx => by
    have CX : k < i := NU k hk i (by simp)
    rcases (ki dc ho).2.2 k x CX hx with hw | hw
    ·exfalso
     have h1 := hw.elim (fun hw => oQ hw NT) fun hw => A4 dc gj jW i o ho NT k hw
     have h2 := (oR k).1 (by simp [hk])
     rw [Array.getD_eq_getD_getElem?, h2] at h1
     cases h1
    ·exact hw) h
   refine yl ht hs ho lx ?_
   rintro v w' ⟨E', st', h1, h2, h3⟩
   refine ih (listed.setIfInBounds i true) (σ1 ++ σ2) (by simpa using jW) ?_ ?_ ?_ ?_ h1 h3 fun a' Me hd ⟨tU, AO, h4, h5, h6⟩ => hq _ _ (hd.trans (put_defers _ _ _)) ⟨tU, AO, h4, h2.trans h5, h6⟩
   ·intro j z hj hz e he hb
    by_cases CY : j = i
    ·subst CY
     rw [ho] at hz; cases hz
     exact getD_set_true (NT e he hb)
    ·rw [getD_set_ne false (fun e => CY e.symm)] at hj
     exact getD_set_true (gj j z hj hz e he hb)
   ·simp at hlen ⊢; omega
   ·rw [List.pairwise_append]
    exact ⟨kF, Aw.2, fun x hx y hy => NU x hx y (by simp [hy])⟩
   ·intro j
    rw [Array.getElem?_setIfInBounds]
    by_cases CY : i = j
    ·subst CY
     rw [if_pos rfl]
     constructor
     ·intro hj
      rcases List.mem_append.1 hj with h | h
      ·have := NU i h i (by simp); omega
      ·have := Aw.1 i h; omega
     ·split
      ·intro h; cases h
      ·intro h; cases h
    ·rw [if_neg CY, ← oR j]
     simp only [List.mem_append,List.mem_cons]
     constructor
     ·rintro (h | h)
      ·exact .inl h
      ·exact .inr (.inr h)
     ·rintro (h | h | h)
      ·exact .inl h
      ·exact absurd h.symm CY
      ·exact .inr h

def runM (P : Program) (tt : Table) (all : Array Oper) (base : Nat) : List Oper → List Pl → St → (St → Prop) → Prop
 | [], _, st, K => K st
 | o :: r, p :: ps, st, K => dV P tt all base o p st fun st' => runM P tt all base r ps st' K
 | _ :: _, [], _, _ => False
@[congr] theorem NV {base Ml : Nat} {l : List Oper} {ps : List Pl} {st st' : St} {K : St → Prop} (hb : base = Ml) (h : st = st') : runM P tt all base l ps st K = runM P tt all Ml l ps st' K := by rw [hb, h]
theorem G2 {K : St → Prop} : ∀ {l : List Oper} {n : Nat} {st : St}, (∀ k x, l[k]? = some x → all[n + k]? = some x) → runM P tt all base l (plan.drop n) st K → ym P tt all plan base (List.range' n l.length) st K
 | [], n, st, _, h => h
 | o :: r, n, st, bp, h => by
  have ho : all[n]? = some o := bp 0 o rfl
  rw [List.length_cons, List.range'_succ, ym, ho]
  dsimp only
  cases hd : plan.drop n with
  | nil => rw [hd] at h; exact h.elim
  | cons p ps =>
   rw [hd] at h
   have hp : l7 plan n = p := by rw [l7, ← nK, hd]; rfl
   have F4 : ps = plan.drop (n + 1) := by rw [← List.tail_drop, hd]; rfl
   rw [hp]
   subst F4
   exact sw (fun s hs => G2 (fun k x hk => by have := bp (k + 1) x (by simpa using hk); rwa [show n + (k + 1) = n + 1 + k by omega] at this) hs) h

theorem bc.RH {E : Env} {w : World} {a : Act} {st : St} (hs : bc E w a st) (m : Nat) : bc E w a { st with mem := st.mem ++ List.replicate m .hole } := by
 have get : ∀ {k : Nat} {B : aC}, (st.mem ++ List.replicate m .hole)[k]? = some B → st.mem[k]? = some B ∨ (B = aC.hole ∧ st.mem.length ≤ k) := fun {k B} h => by
  rcases Nat.lt_or_ge k st.mem.length with hk | hk
  ·rw [List.getElem?_append_left hk] at h; exact .inl h
  ·rw [List.getElem?_append_right hk, List.getElem?_replicate] at h
   split at h
   ·cases h; exact .inr ⟨rfl, hk⟩
   ·cases h
 refine ⟨hs.F, hs.lt, fun k B hk => ?_, fun k hk => hs.top k (by simp at hk; omega), fun k B hk v hv => ?_, hs.apart, hs.fr⟩
 ·rcases get hk with h | ⟨rfl, ck⟩
  ·exact hs.mem k B h
  ·exact fun v => hs.top k ck v
 ·rcases get hk with h | ⟨rfl, ck⟩
  ·exact hs.bW k B h v hv
  ·exact hs.top k ck v

theorem mO (ht : TT P tt) (hm : P.follows .mixedOrders = true) {ρ : Option Nat} {n0 : Nat} {st : St} {Q : Exit → St → Prop} (plan : List Pl) (m : Nat) {id : Nat} {ops : Array Oper} (dc : su ops plan = true)
  (h : runM P tt ops st.mem.length ops.toList plan { st with mem := st.mem ++ List.replicate m .hole } (Q .normal)) : dA P ρ n0 (.region id ops true) st Q := fun E0 w0 h0 E w a he hs mI => by
 refine wpIn_region_any hm ?_
 have hd : bc E { w with drawn := w.drawn + 1 } a { st with mem := st.mem ++ List.replicate m .hole } := (hs.drew (w := w)).RH m
 have hI := G2 (all := ops) (plan := plan) (n := 0) (l := ops.toList) (fun k x hk => by rw [Nat.zero_add]; simpa using hk) h
 rw [← List.range_eq_range'] at hI
 refine yn (P := P) (tt := tt) ht dc ops.size _ (List.range ops.toList.length) (by simp) (fun j z hj => by simp [Array.getD_eq_getD_getElem?, Array.getElem?_replicate] at hj; split at hj <;> simp at hj) (by simp) (List.pairwise_lt_range) (fun i => ?_) hd hI fun a' w' RI ⟨E', st', h1, h2, h3⟩ => ⟨E', st', h1, (he.trans (dO.drew E w)).trans h2, ?_, h3⟩
 ·simp only [List.mem_range,Array.getElem?_replicate]
  simp
 ·rw [RI]; exact (mI.Eh (dO.drew E w)).Eh h2
theorem np (ht : TT P tt) (hm : P.follows .mixedOrders = true) {ρ : Option Nat} {n0 : Nat} {st : St} {Q : Exit → St → Prop} (plan : List Pl) (m : Nat) {id : Nat} {ops : Array Oper} {y : Code} (dc : su ops plan = true)
  (h : ∀ K : St → Prop, (∀ st', dA P ρ n0 y st' Q → K st') → runM P tt ops st.mem.length ops.toList plan { st with mem := st.mem ++ List.replicate m .hole } K) : dA P ρ n0 (.seq (.region id ops true) y) st Q :=
 bN (mO ht hm plan m dc (h (fun st' => dA P ρ n0 y st' Q) fun _ h => h))
end
end Go.Eng
end

section
namespace Go.Eng
variable [aK]
open Go.RowKit (Below)

def kV : aC → Bool
 | .rows _ _ _ => true
 | .pB _ _ _ => true
 | .dead => true
 | .hole => true
 | _ => false

theorem bF.live {P : Program} {f : FuncId} {vs vs' : List V} {b v s l : Nat} {aF : List aC} (hp : dx [] vs = some vs') (h : bF P f vs' [] (.ms b v s l) aF) (hm : aF.all kV = true) (mem : List aC) :
  bF P f vs mem (.ms (mem.length + b) v s l) (mem ++ aF) := by
 refine ⟨h.1, fun E w xs hs hx => ?_⟩
 obtain ⟨Mf, hk⟩ := oL (mem := mem) hp
 have h1 := gD hs (keys := []) hx Mf (by rw [hk]; simp)
 have hE : (E.kH w []).pure = ⟨E.F, fun _ _ => none, E.gl⟩ := by
  refine Env.DY (funext fun ad => ?_) rfl
  simp only [Env.pure,Env.kH]
  cases hh : E.F ad <;> simp
 rw [hE] at h1
 have kF : bc ⟨E.F, fun _ _ => none, E.gl⟩ w { tmps := #[], defers := [] } { fr := [], mem := [] } :=
  ⟨hs.F, (fun k v g e c h => by cases h), (fun k B h => by simp at h), (fun k _ v => rfl), (fun k B h => by simp at h), (fun k k' v v' g e c e' c' h => by cases h), .nil _⟩
 refine (h.2 _ w xs kF h1).mono ?_
 rintro en w' ⟨E', x, rfl, dX, kc, hr⟩
 have gZ : ∀ k v g e c, E'.aM k v = some (g, e, c) → w.heap.size ≤ g := fun k v g e c hb => by
  rcases dX.aM _ _ _ _ _ hb with ⟨_, _, _, _, h⟩ | h
  ·cases h
  ·exact h
 have hold : ∀ b, b < w.heap.size → w'.heap[b]? = w.heap[b]? := fun b hb => dX.heap b hb fun _ _ _ _ h => by cases h
 have RF : ∀ ad y, E'.F ad = some y → E.F ad = some y ∨ w.heap.size ≤ ad.block := fun ad y hy => by
  rcases dX.F _ _ hy with h | h | ⟨_, _, _, _, h⟩
  ·exact .inl h
  ·exact .inr h
  ·cases h
 have kJ : ∀ k v, k < mem.length → (⟨E'.F, fun k v => if k < mem.length then E.aM k v else E'.aM (k - mem.length) v, E'.gl⟩ : Env).aM k v = E.aM k v := fun k v hk => if_pos hk
 have om : ∀ k v, mem.length ≤ k → (⟨E'.F, fun k v => if k < mem.length then E.aM k v else E'.aM (k - mem.length) v, E'.gl⟩ : Env).aM k v = E'.aM (k - mem.length) v := fun k v hk => if_neg (by omega)
 generalize RG : (⟨E'.F, fun k v => if k < mem.length then E.aM k v else E'.aM (k - mem.length) v, E'.gl⟩ : Env) = E2 at kJ om
 have ec : E2.F = E'.F := by rw [← RG]
 have uF : E2.pure = E'.pure := Env.DY ec rfl
 have hle : E.le E2 := ⟨fun ad y hy => by rw [ec]; exact dX.le.F _ _ hy, fun k v t hk => by
  rcases Nat.lt_or_ge k mem.length with ck | ck
  ·rw [kJ k v ck]; exact hk
  ·rw [hs.top k ck v] at hk; cases hk⟩
 have get : ∀ {k : Nat} {B : aC}, (mem ++ aF)[k]? = some B → (k < mem.length ∧ mem[k]? = some B) ∨ (mem.length ≤ k ∧ aF[k - mem.length]? = some B) := fun {k B} h => by
  rcases Nat.lt_or_ge k mem.length with hk | hk
  ·rw [List.getElem?_append_left hk] at h; exact .inl ⟨hk, h⟩
  ·rw [List.getElem?_append_right hk] at h; exact .inr ⟨hk, h⟩
 refine ⟨E2, x, rfl, ⟨hle, fun k v g e c hk => ?_, fun ad y hy => ?_, dX.os, dX.tape, dX.output, dX.size, fun b hb _ => hold b hb⟩, ⟨fun ad y hy => kc.F _ _ (by rw [← ec]; exact hy), fun k v g e c hk => ?_, fun k B hk => ?_, fun k hk v => ?_, fun k B hk v hv => ?_, fun k k' v v' g e1 c1 e2 c2 h5 h6 => ?_, .nil _⟩, ?_⟩
 ·rcases Nat.lt_or_ge k mem.length with ck | ck
  ·rw [kJ k v ck] at hk; exact .inl ⟨k, v, e, c, hk⟩
  ·rw [om k v ck] at hk; exact .inr (gZ _ _ _ _ _ hk)
 ·rw [ec] at hy
  rcases RF ad y hy with h | h
  ·exact .inl h
  ·exact .inr (.inl h)
 ·rcases Nat.lt_or_ge k mem.length with ck | ck
  ·rw [kJ k v ck] at hk; have := hs.lt _ _ _ _ _ hk; have := dX.size; omega
  ·rw [om k v ck] at hk; exact kc.lt _ _ _ _ _ hk
 ·rcases get hk with ⟨ck, hB⟩ | ⟨ck, hB⟩
  ·refine (hs.mem k B hB).mono hle (fun v hv => by rw [kJ k v ck]; exact hv) (fun g e c hb => hold g (hs.lt _ _ _ _ _ hb)) fun g e c o hb hn => ?_
   rw [ec]
   cases hy : E'.F ⟨g, o, none⟩ with
   | none => rfl
   | some y =>
    rcases RF _ y hy with h | h
    ·rw [hn] at h; cases h
    ·have := hs.lt _ _ _ _ _ hb; simp at h; omega
  ·have hl := List.all_eq_true.1 hm B (List.mem_of_getElem? hB)
   have h0 := kc.mem _ B hB
   cases B with
   | hole => exact fun v => by rw [om k v ck]; exact h0 v
   | dead => trivial
   | box cs => simp [kV] at hl
   | loop s p fr ps a b => simp [kV] at hl
   | map bK clock => simp [kV] at hl
   | eA m since seen last => simp [kV] at hl
   | iO s pos => simp [kV] at hl
   | je => simp [kV] at hl
   | rows v e rs =>
    rcases h0 with ⟨h1, h2⟩ | ⟨g, T, ys, c, h1, h2, h3, h4, h5, h6⟩
    ·exact .inl ⟨h1, by rw [om k v ck]; exact h2⟩
    ·exact .inr ⟨g, T, ys, c, by rw [om k v ck]; exact h1, h2, h3, h4, by rw [uF]; exact h5, fun o => by rw [ec]; exact h6 o⟩
   | pB v e rs =>
    rcases h0 with ⟨h1, h2⟩ | ⟨g, c, h1, h2, h3⟩
    ·exact .inl ⟨h1, by rw [om k v ck]; exact h2⟩
    ·exact .inr ⟨g, c, by rw [om k v ck]; exact h1, h2, by rw [uF, ec]; exact h3⟩
 ·dsimp only at hk
  simp only [List.length_append] at hk
  rw [om k v (by omega)]; exact kc.top _ (by dsimp only; omega) v
 ·rcases get hk with ⟨ck, hB⟩ | ⟨ck, hB⟩
  ·rw [kJ k v ck]; exact hs.bW k B hB v hv
  ·rw [om k v ck]; exact kc.bW _ B hB v hv
 ·rcases Nat.lt_or_ge k mem.length with dP | dP <;> rcases Nat.lt_or_ge k' mem.length with iz | iz
  ·rw [kJ k _ dP] at h5; rw [kJ k' _ iz] at h6
   exact hs.apart _ _ _ _ _ _ _ _ _ h5 h6
  ·rw [kJ k _ dP] at h5; rw [om k' _ iz] at h6
   have := hs.lt _ _ _ _ _ h5; have := gZ _ _ _ _ _ h6; omega
  ·rw [om k _ dP] at h5; rw [kJ k' _ iz] at h6
   have := hs.lt _ _ _ _ _ h6; have := gZ _ _ _ _ _ h5; omega
  ·rw [om k _ dP] at h5; rw [om k' _ iz] at h6
   have := kc.apart _ _ _ _ _ _ _ _ _ h5 h6
   omega
 ·cases hr with
  | ms _ b v s l g e c a cap hb hl h0 hc => exact .ms _ _ _ _ _ g e c _ _ (by rw [om _ v (by omega), Nat.add_sub_cancel_left]; exact hb) hl h0 hc
  | dg => exact .dg _ _ _ _

theorem bc.oS {E : Env} {w : World} {a : Act} {st : St} (hs : bc E w a st) (v e : Nat) : bc E w a { st with mem := st.mem ++ [.rows v e []] } := by
 have get : ∀ {k : Nat} {B : aC}, (st.mem ++ [aC.rows v e []])[k]? = some B → st.mem[k]? = some B ∨ (B = aC.rows v e [] ∧ st.mem.length ≤ k) := fun {k B} h => by
  rcases Nat.lt_or_ge k st.mem.length with hk | hk
  ·rw [List.getElem?_append_left hk] at h; exact .inl h
  ·rw [List.getElem?_append_right hk] at h
   cases ck : k - st.mem.length with
   | zero => rw [ck] at h; cases h; exact .inr ⟨rfl, hk⟩
   | succ j => rw [ck] at h; cases h
 refine ⟨hs.F, hs.lt, fun k B hk => ?_, fun k hk => hs.top k (by simp at hk; omega), fun k B hk v hv => ?_, hs.apart, hs.fr⟩
 ·rcases get hk with h | ⟨rfl, ck⟩
  ·exact hs.mem k B h
  ·exact .inl ⟨rfl, hs.top k ck v⟩
 ·rcases get hk with h | ⟨rfl, ck⟩
  ·exact hs.bW k B h v hv
  ·exact hs.top k ck v
theorem bc.G3 {E : Env} {w : World} {a : Act} {st : St} (hs : bc E w a st) {i : Nat} (b v : Nat) (h : st.fr[i]? = some (.sc (.slice none 0 0))) : bc E w a { st with fr := st.fr.set i (.ms b v 0 0) } := hs.J3 h
end Go.Eng
end

section
namespace Go.Eng
variable [aK]
open Go.RowKit (Below)

theorem sy {E E' : Env} {w w' : World} {mem aF l : List aC} (hs : bc E w { tmps := #[], defers := [] } { fr := [], mem := mem ++ l }) (V1 : dO (E.cut mem.length) w E' w') (F3 : bc E' w' { tmps := #[], defers := [] } { fr := [], mem := aF })
  (hlen : aF.length = mem.length) (hb : aF.all (aB mem.length) = true) : ∃ E2, dO E w E2 w' ∧ bc E2 w' { tmps := #[], defers := [] } { fr := [], mem := aF ++ l } ∧ (E'.cut mem.length).le E2 := by
 have kF := F3.cut (n := mem.length) rfl (by rw [List.take_of_length_le (by dsimp only; omega)]; exact hb)
 rw [List.take_of_length_le (by dsimp only; omega)] at kF
 dsimp only at kF
 have yp : ∀ k, mem.length ≤ k → ∀ v, (E.cut mem.length).aM k v = none := fun k hk v => if_neg (by omega)
 have dX : dO (E.cut mem.length) w (E'.cut mem.length) w' := V1.cut yp
 have jg : ∀ k v t, (E.cut mem.length).aM k v = some t → k < mem.length ∧ E.aM k v = some t := fun k v t h => by
  rcases Nat.lt_or_ge k mem.length with hk | hk
  ·exact ⟨hk, (if_pos hk).symm.trans h⟩
  ·rw [yp k hk] at h; cases h
 have RJ : ∀ k v t, (E'.cut mem.length).aM k v = some t → k < mem.length := fun k v t h => by
  rcases Nat.lt_or_ge k mem.length with hk | hk
  ·exact hk
  ·have h0 : (E'.cut mem.length).aM k v = none := if_neg (by omega)
   rw [h0] at h; cases h
 generalize aas : E'.cut mem.length = tU at kF dX RJ
 have kJ : ∀ k v, k < mem.length → (⟨tU.F, fun k v => if k < mem.length then tU.aM k v else E.aM k v, tU.gl⟩ : Env).aM k v = tU.aM k v := fun k v hk => if_pos hk
 have om : ∀ k v, mem.length ≤ k → (⟨tU.F, fun k v => if k < mem.length then tU.aM k v else E.aM k v, tU.gl⟩ : Env).aM k v = E.aM k v := fun k v hk => if_neg (by omega)
 generalize RG : (⟨tU.F, fun k v => if k < mem.length then tU.aM k v else E.aM k v, tU.gl⟩ : Env) = E2 at kJ om
 have ec : E2.F = tU.F := by rw [← RG]
 have gj : ∀ k v t, k < mem.length → E.aM k v = some t → (E.cut mem.length).aM k v = some t := fun k v t hk h => (if_pos hk).trans h
 have hle : E.le E2 := ⟨fun ad y hy => by rw [ec]; exact dX.le.F _ _ hy, fun k v t hk => by
  rcases Nat.lt_or_ge k mem.length with ck | ck
  ·rw [kJ k v ck]; exact dX.le.aM _ _ _ (gj _ _ _ ck hk)
  ·rw [om k v ck]; exact hk⟩
 have yq : tU.le E2 := ⟨fun ad y hy => by rw [ec]; exact hy, fun k v t hk => by rw [kJ k v (RJ _ _ _ hk)]; exact hk⟩
 have r6 : ∀ k v g e c, mem.length ≤ k → E.aM k v = some (g, e, c) → ∀ k0 v0 e0 c0, (E.cut mem.length).aM k0 v0 ≠ some (g, e0, c0) := fun k v g e c hk hb k0 v0 e0 c0 h => by
  obtain ⟨h1, h2⟩ := jg _ _ _ h
  have := hs.apart _ _ _ _ _ _ _ _ _ h2 hb
  omega
 have get : ∀ {k : Nat} {B : aC}, (aF ++ l)[k]? = some B → (k < mem.length ∧ aF[k]? = some B) ∨ (mem.length ≤ k ∧ (mem ++ l)[k]? = some B) := fun {k B} h => by
  rcases Nat.lt_or_ge k mem.length with hk | hk
  ·rw [List.getElem?_append_left (by omega)] at h; exact .inl ⟨hk, h⟩
  ·rw [List.getElem?_append_right (by omega), hlen] at h
   exact .inr ⟨hk, by rw [List.getElem?_append_right hk]; exact h⟩
 refine ⟨E2, ⟨hle, fun k v g e c hk => ?_, fun ad y hy => ?_, dX.os, dX.tape, dX.output, dX.size, fun b hb bL => dX.heap b hb fun k v e c h => bL _ _ _ _ (jg _ _ _ h).2⟩, ⟨fun ad y hy => kF.F _ _ (by rw [← ec]; exact hy), fun k v g e c hk => ?_, fun k B hk => ?_, fun k hk v => ?_, fun k B hk v hv => ?_, fun k k' v v' g e1 c1 e2 c2 h5 h6 => ?_, .nil _⟩, yq⟩
 ·rcases Nat.lt_or_ge k mem.length with ck | ck
  ·rw [kJ k v ck] at hk
   rcases dX.aM _ _ _ _ _ hk with ⟨k0, v0, e0, c0, h⟩ | h
   ·exact .inl ⟨_, _, _, _, (jg _ _ _ h).2⟩
   ·exact .inr h
  ·rw [om k v ck] at hk; exact .inl ⟨_, _, _, _, hk⟩
 ·rw [ec] at hy
  rcases dX.F _ _ hy with h | h | ⟨k0, v0, e0, c0, h⟩
  ·exact .inl h
  ·exact .inr (.inl h)
  ·exact .inr (.inr ⟨_, _, _, _, (jg _ _ _ h).2⟩)
 ·rcases Nat.lt_or_ge k mem.length with ck | ck
  ·rw [kJ k v ck] at hk; exact kF.lt _ _ _ _ _ hk
  ·rw [om k v ck] at hk; exact Nat.lt_of_lt_of_le (hs.lt _ _ _ _ _ hk) dX.size
 ·rcases get hk with ⟨ck, hB⟩ | ⟨ck, hB⟩
  ·exact (kF.mem k B hB).mono yq (fun v hv => by rw [kJ k v ck]; exact hv) (fun _ _ _ _ => rfl) fun g e c o _ hn => by rw [ec]; exact hn
  ·refine (hs.mem k B hB).mono hle (fun v hv => by rw [om k v ck]; exact hv) (fun g e c hb => dX.heap g (hs.lt _ _ _ _ _ hb) fun k0 v0 e0 c0 h => r6 _ _ _ _ _ ck hb _ _ _ _ h) fun g e c o hb hn => ?_
   rw [ec]
   cases hy : tU.F ⟨g, o, none⟩ with
   | none => rfl
   | some y =>
    rcases dX.F _ _ hy with h | h | ⟨k0, v0, e0, c0, h⟩
    ·have h' : E.F ⟨g, o, none⟩ = some y := h
     rw [hn] at h'; cases h'
    ·have := hs.lt _ _ _ _ _ hb; simp at h; omega
    ·exact absurd h (r6 _ _ _ _ _ ck hb _ _ _ _)
 ·dsimp only at hk
  simp only [List.length_append] at hk
  rw [om k v (by omega)]; exact hs.top k (by simp; omega) v
 ·rcases get hk with ⟨ck, hB⟩ | ⟨ck, hB⟩
  ·rw [kJ k v ck]; exact kF.bW k B hB v hv
  ·rw [om k v ck]; exact hs.bW k B hB v hv
 ·have mixed : ∀ k k' v v' g e1 c1 e2 c2, k < mem.length → mem.length ≤ k' → tU.aM k v = some (g, e1, c1) → E.aM k' v' = some (g, e2, c2) → k = k' := fun k k' v v' g e1 c1 e2 c2 hk fF h h' => by
   rcases dX.aM _ _ _ _ _ h with ⟨k0, v0, e0, c0, h0⟩ | h0
   ·exact absurd h0 (r6 _ _ _ _ _ fF h' _ _ _ _)
   ·have := hs.lt _ _ _ _ _ h'; omega
  rcases Nat.lt_or_ge k mem.length with dP | dP <;> rcases Nat.lt_or_ge k' mem.length with iz | iz
  ·rw [kJ k _ dP] at h5; rw [kJ k' _ iz] at h6
   exact kF.apart _ _ _ _ _ _ _ _ _ h5 h6
  ·rw [kJ k _ dP] at h5; rw [om k' _ iz] at h6
   exact mixed _ _ _ _ _ _ _ _ _ dP iz h5 h6
  ·rw [om k _ dP] at h5; rw [kJ k' _ iz] at h6
   exact (mixed _ _ _ _ _ _ _ _ _ iz dP h6 h5).symm
  ·rw [om k _ dP] at h5; rw [om k' _ iz] at h6
   exact hs.apart _ _ _ _ _ _ _ _ _ h5 h6

theorem yr {E : Env} {w : World} {mem l : List aC} (hs : bc E w { tmps := #[], defers := [] } { fr := [], mem := mem ++ l }) (hb : mem.all (aB mem.length) = true) : bc (E.cut mem.length) w { tmps := #[], defers := [] } { fr := [], mem := mem } := by
 have h := hs.cut (n := mem.length) rfl (by rw [List.take_left]; exact hb)
 rwa [List.take_left] at h
theorem aV.below {E : Env} {n : Nat} {vs : List V} {xs : List Value} (h : aV E vs xs) (hb : vs.all (ah n) = true) : aV (E.cut n) vs xs :=
 ⟨h.1, fun i v x hv hx => fG (h.2 i v x hv hx) (List.all_eq_true.1 hb v (List.mem_of_getElem? hv))⟩

theorem bF.frame {P : Program} {f : FuncId} {vs : List V} {r : V} {mem aF : List aC} (h : bF P f vs mem r aF) (hv : vs.all (ah mem.length) = true) (hm : mem.all (aB mem.length) = true) (hr : ah mem.length r = true) (hlen : aF.length = mem.length) (NW : aF.all (aB mem.length) = true) (l : List aC) :
  bF P f vs (mem ++ l) r (aF ++ l) := by
 refine ⟨h.1, fun E w xs hs hx => ?_⟩
 refine (h.2 _ w xs (yr hs hm) (hx.below hv)).mono ?_
 rintro en w' ⟨E', x, rfl, dX, kc, mY⟩
 obtain ⟨E2, h1, h2, h3⟩ := sy hs dX kc hlen NW
 exact ⟨E2, x, rfl, h1, h2, (fG mY hr).mono h3⟩
theorem Jz.frame {P : Program} {k : Nat} {vs : List V} {mem aF : List aC} {b : Bool} (h : Jz P k vs mem b aF) (hk : k < mem.length) (hv : vs.all (ah mem.length) = true) (hm : mem.all (aB mem.length) = true) (hlen : aF.length = mem.length) (NW : aF.all (aB mem.length) = true) (l : List aC) :
  Jz P k vs (mem ++ l) b (aF ++ l) := by
 intro E w xs lp e c hs hx hb
 obtain ⟨fn, tmps, assign, body, h1, h2⟩ := h _ w xs lp e c (yr hs hm) (hx.below hv) ((if_pos hk).trans hb)
 refine ⟨fn, tmps, assign, body, h1, h2.mono ?_⟩
 rintro en w' ⟨E', rfl, dX, kc⟩
 obtain ⟨E2, h3, h4, -⟩ := sy hs dX kc hlen NW
 exact ⟨E2, rfl, h3, h4⟩
mutual
theorem jR {n m : Nat} (h : n ≤ m) : ∀ {v : V}, ah n v = true → ah m v = true
 | .ms _ _ _ _, hv => by simp [ah] at hv ⊢; omega
 | .ptr _ _, hv => by simp [ah] at hv ⊢; omega
 | .gr _, hv => by simp [ah] at hv ⊢; omega
 | .mp _, hv => by simp [ah] at hv ⊢; omega
 | .dw _ _ _ _, hv => by simp [ah] at hv ⊢; omega
 | .undef, _ => rfl
 | .sc _, _ => rfl
 | .slice _, _ => rfl
 | .cn _, _ => rfl
 | .gn, _ => rfl
 | .full _, _ => rfl
 | .agg cs, hv => by simp only [ah] at hv ⊢; exact ic h hv
 | .ch cs, hv => by simp only [ah] at hv ⊢; exact ic h hv
 | .iw f a b, hv => by simp only [ah,Bool.and_eq_true] at hv ⊢; exact ⟨ic h hv.1, ic h hv.2⟩
theorem ic {n m : Nat} (h : n ≤ m) : ∀ {l : List V}, bA n l = true → bA m l = true
 | [], _ => rfl
 | c :: r, hv => by simp only [bA,Bool.and_eq_true] at hv ⊢; exact ⟨jR h hv.1, ic h hv.2⟩
end
theorem yu {n m : Nat} (h : n ≤ m) {B : aC} (hv : aB n B = true) : aB m B = true := by
 cases B with
 | box cs => simp only [aB,List.all_eq_true] at hv ⊢; exact fun x hx => jR h (hv x hx)
 | loop a b fr c d e => simp only [aB,List.all_eq_true] at hv ⊢; exact fun x hx => jR h (hv x hx)
 | map bK c => simp only [aB,List.all_eq_true] at hv ⊢; exact fun x hx => jR h (hv x hx)
 | eA m s se l => simp only [aB,decide_eq_true_eq] at hv ⊢; omega
 | _ => rfl
theorem c6 {n m : Nat} (h : n ≤ m) {l : List aC} (hv : l.all (aB n) = true) : l.all (aB m) = true := List.all_eq_true.2 fun x hx => yu h (List.all_eq_true.1 hv x hx)
theorem RL : (false == true) = false := rfl
theorem RM : (true == false) = false := rfl
theorem Kh (mem : List aC) (ts : Array TypeId) (P : Program) (r : List V) : rM mem ts P [.slice r] = none := rfl
theorem Ki (mem : List aC) (ts : Array TypeId) (P : Program) (b v s l : Nat) : rM mem ts P [.ms b v s l] = none := rfl
theorem Kj (mem : List aC) (ts : Array TypeId) (P : Program) (x : Value) : rM mem ts P [.sc x] = none := rfl
end Go.Eng
end
