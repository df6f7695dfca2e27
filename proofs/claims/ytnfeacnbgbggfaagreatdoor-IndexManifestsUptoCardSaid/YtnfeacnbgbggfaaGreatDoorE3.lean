/-
  THE ENGINE, L: the steps are sound; code; functions.
  THE ENGINE, M: a table of types, checked by the kernel.
  THE ENGINE, N: rules and facts for carrying it out by simp.
  THE ENGINE, O: closures' contracts; a range over a function.
  THE ENGINE, P: regions that draw their order.
  THE ENGINE, Q: regions that draw their order are sound.
  THE ENGINE, R: a region that draws its order comes to what it comes to in the order of its text.
  THE ENGINE, S: functions that hand back rows that their caller may write.
  THE ENGINE, U: what a contract does not speak of stays.
-/
import Derived.Test.YtnfeacnbgbggfaaGreatDoorE2
import Derived.RangeFuncRecord
import Derived.OrdersIn
set_option linter.all false
section
namespace Go.Eng
variable [aE]
open Go.RowKit (Below)

theorem dB {P : Program} {s : Sem Value} {w w' : World} {x : Value} (h : s.run P w = .ok x w') : (do pure (Next.value (← s)) : Sem Next).run P w = .ok (.value x) w' := by
 simp [h]

def yB (E : Env) (w : World) (a : Act) (dst : Option Tmp) (Q : St → Prop) (v : Value) (w' : World) : Prop := ∃ E' st', aV E' w' (a.put dst v) st' ∧ dk E w E' w' ∧ Q st'

def WF (ρ : Option Nat) : Fence := { fn := fun _ => True, depth := none, alive := false, round := ρ }
theorem sK {ρ : Option Nat} {n : Nat} {P : Program} {f : FuncId} {xs : Array Value} {w : World} {R : Ending → World → Prop} (h : Calls P f xs w R) : CallsIn (WF ρ) n P f xs w R := by
 have h1 : CallsIn Fence.wide n P f xs w R := callsIn_wide.2 h
 cases ρ with
 | none => exact h1
 | some l => exact h1.inRound l
theorem yC {n : Nat} {P : Program} {f : FuncId} {xs : Array Value} {w : World} {R : Ending → World → Prop} (h : CallsIn (WF none) n P f xs w R) : Calls P f xs w R := callsIn_wide.1 h
theorem A2 {ρ : Option Nat} {n : Nat} {P : Program} {l : Nat} {f : FuncId} {tmps : Array Value} {assign body : Code} {w : World} {R : Ending → World → Prop} (h : RoundIn Fence.wide 0 P l f tmps assign body w R) : RoundIn (WF ρ) n P l f tmps assign body w R := by
 refine ⟨trivial, fun c cs _ => ?_⟩
 exact h.2 c cs (room_wide _)
section
variable {P : Program} {ρ : Option Nat} {n : Nat} {o : Oper} {a : Act} {w w' : World} {next : Act → World → Prop} {Q : Exit → Act → World → Prop} (kr : ∀ c, o.op ≠ .defer c)
include kr
theorem aY {v : Value} (h : (execOp a.eval o).run P w = .ok (.value v) w') (hn : next (a.put o.dst v) w') : o.wpIn (WF ρ) n P a w next Q := by
 refine ⟨fun _ _ => trivial, ?_⟩
 rw [Oper.semAt_eq _ _ _ kr, h]; exact hn
theorem iG (h : (execOp a.eval o).run P w = .ok .skip w') (hn : next (a.put o.dst undef) w') : o.wpIn (WF ρ) n P a w next Q := by
 refine ⟨fun _ _ => trivial, ?_⟩
 rw [Oper.semAt_eq _ _ _ kr, h]; exact hn
theorem qI {f : FuncId} {xs : Array Value} {R : Ending → World → Prop} (h : (execOp a.eval o).run P w = .ok (.enter f xs) w) (hc : Calls P f xs w R) (hR : ∀ e w', R e w' → ∃ v, e = .returned v ∧ next (a.put o.dst v) w') :
  o.wpIn (WF ρ) n P a w next Q := by
 refine ⟨fun _ _ => trivial, ?_⟩
 rw [Oper.semAt_eq _ _ _ kr, h]
 refine ⟨fun h => by simp [WF] at h, (sK hc).mono fun e w' he => ?_⟩
 obtain ⟨v, rfl, hn⟩ := hR e w' he
 exact hn
theorem qJ {l : Nat} {f : FuncId} {tmps : Array Value} {assign body : Code} {R : Ending → World → Prop} (h : (execOp a.eval o).run P w = .ok (.round l f tmps assign body) w) (hc : RoundIn Fence.wide 0 P l f tmps assign body w R)
  (hR : ∀ e w', R e w' → ∃ v, e = .returned v ∧ next (a.put o.dst v) w') : o.wpIn (WF ρ) n P a w next Q := by
 refine ⟨fun _ _ => trivial, ?_⟩
 rw [Oper.semAt_eq _ _ _ kr, h]
 refine ⟨fun h => by simp [WF] at h, (A2 hc).mono fun e w' he => ?_⟩
 obtain ⟨v, rfl, hn⟩ := hR e w' he
 exact hn
end

theorem qK {P : Program} {E : Env} {w : World} {a : Act} {st : St} (hs : aV E w a st) {f : FuncId} {vs : List V} {dst : Option Tmp} {Q : St → Prop} (h : vg P f vs st dst Q) {xs : Array Value} (hx : aO E vs xs.toList) :
  ((callFunc f xs).run P w = .ok (.enter f xs) w ∧ Calls P f xs w fun e w' => ∃ v, e = .returned v ∧ yB E w a dst Q v w') ∨ ∃ v, (callFunc f xs).run P w = .ok (.value v) w ∧ yB E w a dst Q v w := by
 rcases h with ⟨vs', r, hp, hf, hQ⟩ | ⟨r, aA, hf, hQ⟩ | ⟨R, hf, hQ⟩ | ⟨r, hf, hQ⟩
 ·refine .inl ⟨hf.1 xs w, (Et hs hx hp hf).mono ?_⟩
  rintro e w' ⟨E', x, rfl, dm, lr, hr⟩
  exact ⟨x, rfl, E', _, lr.put dst hr, dm, hQ⟩
 ·refine .inl ⟨hf.1 xs w, (hf.2 E w xs hs.bare hx).mono ?_⟩
  rintro e w' ⟨E', x, rfl, dm, lr, hr⟩
  exact ⟨x, rfl, E', _, (hs.yz lr dm.le).put dst hr, dm, hQ⟩
 ·refine .inl ⟨hf.1 xs w, (hf.2 E w xs hs.bare hx).mono ?_⟩
  rintro e w' ⟨E', x, r, aA, rfl, hR, dm, lr, hr⟩
  exact ⟨x, rfl, E', _, (hs.yz lr dm.le).put dst hr, dm, hQ _ _ hR⟩
 ·obtain ⟨x, h1, h2⟩ := hf E w xs hs.F hx
  exact .inr ⟨x, h1, E, _, hs.put dst h2, dk.refl E w, hQ⟩

theorem da {P : Program} {tt : Table} (ht : TT P tt) {E : Env} {w : World} {a : Act} {st : St} (hs : aV E w a st) {key : Nat} (hk : dE st.mem key) {o : Oper} {Q : St → Prop} (h : bx P tt key o st Q)
  {ρ : Option Nat} {n : Nat} {next : Act → World → Prop} {Q' : Exit → Act → World → Prop} (hn : ∀ v w', yB E w a o.dst Q v w' → next (a.put o.dst v) w') : o.wpIn (WF ρ) n P a w next Q' := by
 obtain ⟨dst, op, type, pos, after, guard⟩ := o
 have kr : ∀ c, op ≠ .defer c := by
  rintro c rfl
  simp [bx, fR] at h
 unfold bx at h
 dsimp only at h
 split at h
 ·-- alloc
  rename_i T
  split at h
  ·rename_i i hi
   obtain ⟨info, qC, -, -, z, hz, El⟩ := ht.size T i hi
   have hr : aO E (i.zero.map V.sc) z.cells.toList := by
    rw [El]; exact ⟨by simp, fun k c x hc hx => by
     simp only [List.getElem?_map,hx,Option.map_some,Option.some.injEq] at hc; subst hc; exact .sc _ _⟩
   obtain ⟨E', h1, h2, h3⟩ := hs.Gj hk hr T
   refine aY kr (v := .pointer (some ⟨w.heap.size, 0, none⟩)) (w' := w.alloc (.cells z.cells T (0, 0))) ?_ (hn _ _ ⟨E', _, h1.put dst h3, h2, h⟩)
   have RA : (zeroValue T).run P w = .ok z w := by simp [zeroValue, cD qC, hz]
   simp [execOp, Instr.alloc, RA, newVar, newRow]
  ·exact h.elim
 ·-- box
  rename_i T x
  split at h
  ·rename_i cs uj
   obtain ⟨hr, -⟩ := kn (hs.eval x) uj
   obtain ⟨E', h1, h2, h3⟩ := hs.Gj hk hr T
   refine aY kr (v := .pointer (some ⟨w.heap.size, 0, none⟩)) (w' := w.alloc (.cells (a.eval x).cells T (0, 0))) ?_ (hn _ _ ⟨E', _, h1.put dst h3, h2, h⟩)
   simp [execOp, Instr.box, newVar, newRow]
  ·exact h.elim
 ·-- build
  split at h
  ·rename_i v hv
   obtain ⟨x, h1, h2⟩ := ox ht hs hv
   exact aY kr (aW h1) (hn _ _ ⟨E, _, hs.put dst h2, dk.refl E w, h⟩)
  ·exact h.elim
 ·-- buildSlice
  rename_i T len parts
  split at h
  ·rename_i size rs hl
   obtain ⟨Z, e, h1, h2, h3, h4⟩ := wB ht (fun p _ => hs.eval p.2) hl
   obtain ⟨E', h5, h6, h7⟩ := hs.oi hk (xs := Z) (rs := rs) (c := len) e h2 (by omega) h4
   rw [h3] at h7
   exact aY kr (dB h1) (hn _ _ ⟨E', _, h5.put dst h7, h6, h⟩)
  ·split at h
   ·rename_i size rs hl
    unfold ny at hl
    split at hl
    ·rename_i vs' Ug
     obtain ⟨E1, eS, J9, GC⟩ := hs.freeze Ug
     have YL : ∀ (l : List (Nat × Operand)) (us MH : List V), us = l.map (fun p => st.eval p.2) → cj st.mem us = some MH → aO E1 MH (l.map fun p => a.eval p.2) → ∀ p ∈ l, aT E1 (C1 st.mem st.eval p.2) (a.eval p.2) := by
      intro l
      induction l with
      | nil => intro us MH _ _ _ p hp; simp at hp
      | cons q r ih =>
       intro us MH hu hp hr p NW
       subst hu
       simp only [List.map_cons,cj] at hp
       split at hp
       ·rename_i c' hc
        split at hp
        ·rename_i r' um
         cases hp
         obtain ⟨y, ys, hy, g1, g2⟩ := hr.of_cons
         simp only [List.map_cons,List.cons.injEq] at hy
         obtain ⟨rfl, rfl⟩ := hy
         rcases List.mem_cons.1 NW with rfl | NW
         ·unfold C1; rw [hc]; exact g1
         ·exact ih _ _ rfl um g2 p NW
        ·cases hp
       ·cases hp
     have na : aO E (parts.toList.map fun p => st.eval p.2) (parts.toList.map fun p => a.eval p.2) := by
      refine ⟨by simp, fun i v x hv hx => ?_⟩
      simp only [List.getElem?_map,Option.map_eq_some_iff] at hv hx
      obtain ⟨q, hq, rfl⟩ := hv
      obtain ⟨q', JD, rfl⟩ := hx
      rw [hq] at JD; cases JD
      exact hs.eval q.2
     have Va := YL parts.toList _ _ rfl Ug (GC _ na)
     have fK : dE ({ st with mem := bL st.mem (fh st.eval parts.toList) } : St).mem key := by
      unfold dE
      dsimp only
      rw [kp, nd]
      rcases hk with hk | hk
      ·rw [hk]; exact .inl rfl
      ·exact .inr hk
     obtain ⟨Z, e, h1, h2, h3, h4⟩ := wB ht (w := w) Va hl
     obtain ⟨E', h5, h6, h7⟩ := eS.oi fK (xs := Z) (rs := rs) (c := len) e h2 (by omega) h4
     rw [h3] at h7
     exact aY kr (dB h1) (hn _ _ ⟨E', _, h5.put dst h7, J9.trans h6, h⟩)
    ·cases hl
   ·exact h.elim
 ·-- store
  rename_i T p x
  split at h
  ·rename_i aA hm
   obtain ⟨w', h1, h2, h3⟩ := om ht hs (hs.eval _) (hs.eval _) hm
   refine iG kr (w' := w') ?_ (hn _ _ ⟨E, _, h2.put dst (.sc _ _), h3, h⟩)
   simp [execOp, h1]
  ·split at h
   ·rename_i aA hm
    unfold wJ at hm
    split at hm
    ·rename_i v' rn
     obtain ⟨E1, eS, J9, GC⟩ := hs.freeze (vs := [st.eval x]) (vs' := [v']) (by simp [cj, rn])
     simp only [List.flatMap_cons,List.flatMap_nil,List.append_nil] at eS
     obtain ⟨z, r, hz, h4, -⟩ := (GC [a.eval x] (.cons (hs.eval x) (.nil _))).of_cons
     simp only [List.cons.injEq] at hz
     obtain ⟨rfl, -⟩ := hz
     obtain ⟨w', h1, h2, h3⟩ := om ht eS ((hs.eval p).mono J9.le) h4 hm
     refine iG kr (w' := w') ?_ (hn _ _ ⟨E1, _, h2.put dst (.sc _ _), J9.trans h3, h⟩)
     simp [execOp, h1]
    ·cases hm
   ·exact h.elim
 ·-- append
  rename_i xs ts
  split at h
  ·rename_i s x Ka
   split at h
   ·rename_i size nZ rows ha
    have he := hs.jF xs
    rw [Ka] at he
    obtain ⟨y, r1, hy, AV, he⟩ := he.of_cons
    obtain ⟨z, r2, hz, Eo, he⟩ := he.of_cons
    have := he.of_nil
    subst this; subst hz
    have na : xs.map a.eval = #[y, z] := by rw [← Array.toArray_toList (xs := xs.map a.eval), hy]
    obtain ⟨v, w', E', h1, h2, h3, h4⟩ := uB ht hs (ty := type) hk AV Eo ha
    refine aY kr (v := v) (w' := w') ?_ (hn _ _ ⟨E', _, h2.put dst h4, h3, h⟩)
    simp only [execOp,resolve,Sem.run_bind,Sem.run_pure,Result.andThen_ok,invoke,builtin,na,h1]
   ·unfold qH at h
    split at h
    ·rename_i size b v l rs news ha
     have he := hs.jF xs
     rw [Ka] at he
     obtain ⟨y, r1, hy, AV, he⟩ := he.of_cons
     obtain ⟨z, r2, hz, Eo, he⟩ := he.of_cons
     have := he.of_nil
     subst this; subst hz
     have na : xs.map a.eval = #[y, z] := by rw [← Array.toArray_toList (xs := xs.map a.eval), hy]
     obtain ⟨u, w', E', o', rs', h1, NY, Ev, h2, h3, h4⟩ := uF ht hs (ty := type) AV Eo ha
     refine aY kr (v := u) (w' := w') ?_ (hn _ _ ⟨E', _, h2.put dst h4, h3, h o' rs' NY Ev⟩)
     simp only [execOp,resolve,Sem.run_bind,Sem.run_pure,Result.andThen_ok,invoke,builtin,na,h1]
    ·exact h.elim
  ·exact h.elim
 ·-- a call
  rename_i f xs ts
  split at h
  ·-- yield
   rename_i k QQ
   have hf := hs.eval f
   rw [QQ] at hf
   generalize Xw : a.eval f = fx at hf
   cases hf with
   | ik _ _ l e c hb =>
    rcases h with ⟨b, aA, hy, hQ⟩ | ⟨R, hy, hQ⟩
    rotate_left
    ·obtain ⟨fn, tmps, assign, body, h1, h2⟩ := hy E w (xs.map a.eval) l e c hs.bare (hs.jF xs) hb
     refine qJ kr (l := l) (f := fn) (tmps := tmps) (assign := assign) (body := body) ?_ h2 fun e w' ⟨E', b, aA, he, hR, dm, lr⟩ => ⟨_, he, hn _ _ ⟨E', _, (hs.yz lr dm.le).put dst (.sc _ _), dm, hQ _ _ hR⟩⟩
     rw [← h1]
     simp [execOp, resolve, Xw, Deferred.ofValue, invoke]
    obtain ⟨fn, tmps, assign, body, h1, h2⟩ := hy E w (xs.map a.eval) l e c hs.bare (hs.jF xs) hb
    refine qJ kr (l := l) (f := fn) (tmps := tmps) (assign := assign) (body := body) ?_ h2 fun e w' ⟨E', he, dm, lr⟩ => ⟨_, he, hn _ _ ⟨E', _, (hs.yz lr dm.le).put dst (.sc _ _), dm, hQ⟩⟩
    rw [← h1]
    simp [execOp, resolve, Xw, Deferred.ofValue, invoke]
  ·rename_i QQ
   split at h
   ·rename_i g vs hg
    obtain ⟨ys, h1, h2⟩ := lH (P := P) (w := w) (hs.eval f) (hs.jF xs) hg
    rcases qK hs h h1 with ⟨h3, h4⟩ | ⟨v, h3, h4⟩
    ·refine qI kr (f := g) (xs := ys) ?_ h4 fun e w' ⟨v, hv, ha⟩ => ⟨v, hv, hn _ _ ha⟩
     rw [← h3, ← h2]
     simp only [execOp,resolve]
    ·refine aY kr (v := v) ?_ (hn _ _ h4)
     rw [← h3, ← h2]
     simp only [execOp,resolve]
   ·exact h.elim
 ·split at h
  ·rename_i size rs cap hm
   obtain ⟨E', w', h1, h2, h3, h4⟩ := yv (P := P) ht hs hk (hs.eval _) (hs.eval _) hm
   exact aY kr (dB h1) (hn _ _ ⟨E', _, h2.put dst h4, h3, h⟩)
  ·exact h.elim
 ·-- a map
  obtain ⟨E', w', h1, h2, h3, h4⟩ := uD (P := P) hs hk _
  exact aY kr (dB h1) (hn _ _ ⟨E', _, h2.put dst h4, h3, h⟩)
 ·split at h
  ·rename_i aA hm
   obtain ⟨w', h1, h2, h3⟩ := nc (P := P) hs (hs.eval _) (hs.eval _) (hs.eval _) hm
   refine iG kr (w' := w') ?_ (hn _ _ ⟨E, _, h2.put dst (.sc _ _), h3, h⟩)
   simp [execOp, h1]
  ·exact h.elim
 ·split at h
  ·rename_i aA hm
   obtain ⟨w', h1, h2, h3⟩ := nc (P := P) hs (hs.eval _) (hs.eval _) (hs.eval _) hm
   refine iG kr (w' := w') ?_ (hn _ _ ⟨E, _, h2.put dst (.sc _ _), h3, h⟩)
   simp [execOp, h1]
  ·exact h.elim
 ·split at h
  ·rename_i aA v hm
   obtain ⟨z, w', h1, h2, h3, h4⟩ := wE (P := P) hs (hs.eval _) (hs.eval _) hm
   exact aY kr (dB h1) (hn _ _ ⟨E, _, h2.put dst h4, h3, h⟩)
  ·exact h.elim
 ·rename_i T m s x
  split at h
  ·rename_i aA hm
   obtain ⟨w', h1, h2, h3⟩ := wF (P := P) (T := T) hs (hs.eval _) (hs.eval _) (hs.eval _) hm
   refine iG kr (w' := w') ?_ (hn _ _ ⟨E, _, h2.put dst (.sc _ _), h3, h⟩)
   simp [execOp, h1]
  ·exact h.elim
 ·rename_i xs ts
  split at h
  ·rename_i aA hm
   obtain ⟨w', h1, h2, h3⟩ := uC (ty := type) hs (hs.jF xs) hm
   refine aY kr (v := .tuple #[]) (w' := w') ?_ (hn _ _ ⟨E, _, h2.put dst (.sc _ _), h3, h⟩)
   simp only [execOp,resolve,Sem.run_bind,Sem.run_pure,Result.andThen_ok,invoke,builtin,h1]
  ·exact h.elim
 ·split at h
  ·rename_i B hB
   obtain ⟨E', w', h1, h2, h3, h4⟩ := sB (P := P) hs hk (hs.eval _) hB
   exact aY kr (dB h1) (hn _ _ ⟨E', _, h2.put dst h4, h3, h⟩)
  ·exact h.elim
 ·obtain ⟨z, w', st', h1, h2, h3, h4⟩ := yu (P := P) (ty := type) hs (hs.eval _) h
  exact aY kr (dB h1) (hn _ _ ⟨E, st', h2, h3, h4⟩)
 ·-- a NZ
  rename_i op T x y yT
  split at h
  ·rename_i m hm
   obtain ⟨b, hb, cH⟩ := wI (P := P) (w := w) ht x y (hs.eval x) (hs.eval y) hm
   exact aY kr (aW cH) (hn _ _ ⟨E, _, hs.put dst (.sc _ _), dk.refl E w, h b hb⟩)
  ·split at h
   ·rename_i v hv
    obtain ⟨x, h1, h2⟩ := mh ht hs hv
    exact aY kr h1 (hn _ _ ⟨E, _, hs.put dst h2, dk.refl E w, h⟩)
   ·exact h.elim
 ·split at h
  ·rename_i v hv
   obtain ⟨x, h1, h2⟩ := mh ht hs hv
   exact aY kr h1 (hn _ _ ⟨E, _, hs.put dst h2, dk.refl E w, h⟩)
  ·exact h.elim

def cO (all : Array Oper) (fr : List V) (o : Oper) : Option Bool :=
 match o.guard with
 | none => some true
 | some (j, want) => match (all[j]?).bind (·.dst) with
  | none => some false
  | some d => match fr[d]? with
   | some (.sc (.bool b)) => some (b == want)
   | some (.sc _) => some false
   | some _ => none
   | none => some false

theorem gz {E : Env} {w : World} {a : Act} {st : St} (hs : aV E w a st) {all : Array Oper} {o : Oper} {b : Bool} (h : cO all st.fr o = some b) : Region.wanted o (yielded all a.tmps) = b := by
 unfold cO at h
 unfold Region.wanted
 split at h
 ·rename_i hg; rw [hg]; simpa using h
 ·rename_i j want hg
  rw [hg]
  dsimp only
  unfold yielded
  split at h
  ·rename_i hd; rw [hd]; simp at h; subst h; rfl
  ·rename_i d hd
   rw [hd]
   split at h
   ·rename_i bb hf
    obtain ⟨x, hx, hr⟩ := hs.fr.get hf
    obtain rfl := bN hr
    simp only [Option.some.injEq] at h; subst h
    have : a.tmps[d]? = some (.bool bb) := by simpa using hx
    simp [this]
   ·rename_i v bD hf
    obtain ⟨x, hx, hr⟩ := hs.fr.get hf
    obtain rfl := bN hr
    simp only [Option.some.injEq] at h; subst h
    have : a.tmps[d]? = some x := by simpa using hx
    simp only [Option.bind_some,this]
    cases x <;> first | rfl | exact absurd rfl (bD _)
   ·cases h
   ·rename_i hf
    simp only [Option.some.injEq] at h; subst h
    have hl : st.fr.length = a.tmps.size := by have := hs.fr.1; simpa using this
    have : a.tmps[d]? = none := by
     rw [List.getElem?_eq_none_iff] at hf
     exact Array.getElem?_eq_none (by omega)
    simp [this]

def dt (P : Program) (tt : Table) (all : Array Oper) : List Oper → St → (St → Prop) → Prop
 | [], st, Q => Q st
 | o :: r, st, Q => match cO all st.fr o with
  | some true => bx P tt st.mem.length o st fun st' => dt P tt all r st' Q
  | some false => dt P tt all r (st.put o.dst (.sc undef)) Q
  | none => False

theorem put_defers (a : Act) (dst : Option Tmp) (v : Value) : (a.put dst v).defers = a.defers := by cases dst <;> rfl
theorem wK {P : Program} {tt : Table} (ht : TT P tt) {ρ : Option Nat} {n : Nat} {all : Array Oper} {Q : St → Prop} {Q' : Exit → Act → World → Prop} : ∀ (RG pre : List Oper), all.toList = pre ++ RG →
  ∀ {E : Env} {w : World} {a : Act} {st : St}, aV E w a st → dt P tt all RG st Q → (∀ a' w', a'.defers = a.defers → (∃ E' st', aV E' w' a' st' ∧ dk E w E' w' ∧ Q st') → Q' .normal a' w') → wpOpsIn (WF ρ) n P all Q' (List.range' pre.length RG.length) a w := by
 intro RG
 induction RG with
 | nil => intro pre _ E w a st hs h hq; exact hq _ _ rfl ⟨E, st, hs, dk.refl E w, h⟩
 | cons o r ih =>
  intro pre bn E w a st hs h hq
  have eU : all[pre.length]? = some o := by
   rw [← Array.getElem?_toList, bn, List.getElem?_append_right (Nat.le_refl _)]; simp
  have RH : all.toList = (pre ++ [o]) ++ r := by rw [bn]; simp
  have Vb := @ih (pre ++ [o]) RH
  simp only [List.length_append,List.length_cons,List.length_nil,Nat.zero_add] at Vb
  rw [List.length_cons, List.range'_succ, wpOpsIn, eU]
  dsimp only
  simp only [dt] at h
  split at h
  ·rename_i hw
   rw [if_pos (gz hs hw)]
   refine da ht hs (.inr rfl) h ?_
   rintro v w' ⟨E', st', h1, h2, h3⟩
   exact Vb h1 h3 fun YM Xx hd ⟨xU, N0, h4, h5, h6⟩ => hq _ _ (hd.trans (put_defers _ _ _)) ⟨xU, N0, h4, h2.trans h5, h6⟩
  ·rename_i hw
   rw [if_neg (by rw [gz hs hw]; simp)]
   exact ⟨fun _ _ => trivial, Vb (hs.put o.dst (.sc _ _)) h fun YM Xx hd h => hq _ _ (hd.trans (put_defers _ _ _)) h⟩
  ·exact h.elim

def Marks (E : Env) (w : World) (base : Nat) (ds : List Deferred) : Prop :=
 ∃ rs : List Nat, ds = rs.map (fun r => { target := .collected r, args := #[] }) ∧ rs.Nodup ∧ ∀ r ∈ rs, base ≤ r ∧ w.heap[r]? = some (.deferred (some [])) ∧ ∀ k v e c, E.aG k v ≠ some (r, e, c)
theorem Marks.F1 {E E' : Env} {w w' : World} {base : Nat} {ds : List Deferred} (h : Marks E w base ds) (he : dk E w E' w') : Marks E' w' base ds := by
 obtain ⟨rs, h1, h2, h3⟩ := h
 refine ⟨rs, h1, h2, fun r hr => ?_⟩
 obtain ⟨h6, h4, h5⟩ := h3 r hr
 have aF : r < w.heap.size := by
  rcases Nat.lt_or_ge r w.heap.size with h | h
  ·exact h
  ·rw [Array.getElem?_eq_none h] at h4; cases h4
 refine ⟨h6, (he.heap r aF h5).trans h4, fun k v e c hk => ?_⟩
 rcases he.aG _ _ _ _ _ hk with ⟨k0, v0, e0, c0, h⟩ | h
 ·exact h5 _ _ _ _ h
 ·omega
theorem Marks.nil (E : Env) (w : World) (base : Nat) : Marks E w base [] := ⟨[], rfl, .nil, fun r h => by simp at h⟩

def N1 (E0 : Env) (w0 : World) (Q : Exit → St → Prop) : Exit → Act → World → Prop := fun ex a' w' => ∃ E' st', aV E' w' a' st' ∧ dk E0 w0 E' w' ∧ Marks E' w' w0.heap.size a'.defers ∧ Q ex st'

def gA (P : Program) (ρ : Option Nat) (n0 : Nat) (c : Code) (st : St) (Q : Exit → St → Prop) : Prop :=
 ∀ (E0 : Env) (w0 : World), (∀ k, n0 ≤ k → ∀ v, E0.aG k v = none) → ∀ (E : Env) (w : World) (a : Act), dk E0 w0 E w → aV E w a st → Marks E w w0.heap.size a.defers → c.wpIn (WF ρ) 0 P (N1 E0 w0 Q) a w

def dQ (next : St → Prop) (Q : Exit → St → Prop) : Exit → St → Prop
 | .normal, st => next st
 | e, st => Q e st
def eu (id : Nat) (Q : Exit → St → Prop) : Exit → St → Prop
 | .exit j, st => if j = id then Q .normal st else Q (.exit j) st
 | e, st => Q e st

section
variable {P : Program} {tt : Table} {ρ : Option Nat} {n0 : Nat} {st : St} {Q : Exit → St → Prop}
theorem gA.mono {c : Code} {Q' : Exit → St → Prop} (h : gA P ρ n0 c st Q) (hq : ∀ e st', Q e st' → Q' e st') : gA P ρ n0 c st Q' :=
 fun E0 w0 h0 E w a he hs hm => wpIn_mono (h E0 w0 h0 E w a he hs hm) fun _ _ _ ⟨E', st', h1, h2, h4, h3⟩ => ⟨E', st', h1, h2, h4, hq _ _ h3⟩
theorem lI (h : Q .normal st) : gA P ρ n0 .skip st Q := fun E0 w0 h0 E w a he hs hm => wpIn_skip ⟨E, st, hs, he, hm, h⟩
theorem oy (h : Q .ret st) : gA P ρ n0 .ret st Q := fun E0 w0 h0 E w a he hs hm => wpIn_ret ⟨E, st, hs, he, hm, h⟩
theorem sL {id : Nat} (h : Q (.exit id) st) : gA P ρ n0 (.exit id) st Q := fun E0 w0 h0 E w a he hs hm => wpIn_exit ⟨E, st, hs, he, hm, h⟩
theorem ku {x y : Code} (h : gA P ρ n0 x st (dQ (fun st' => gA P ρ n0 y st' Q) Q)) : gA P ρ n0 (.seq x y) st Q := fun E0 w0 h0 E w a he hs hm => by
 refine wpIn_seq (wpIn_mono (h E0 w0 h0 E w a he hs hm) ?_)
 rintro e a' w' ⟨E', st', h1, h2, h4, h3⟩
 cases e with
 | normal => exact h3 E0 w0 h0 E' w' a' h2 h1 h4
 | _ => exact ⟨E', st', h1, h2, h4, h3⟩
theorem lJ {c : Operand} {x y : Code} {b : Bool} (hc : st.eval c = .sc (.bool b)) (h : gA P ρ n0 (if b = true then x else y) st Q) : gA P ρ n0 (.cond c x y) st Q := fun E0 w0 h0 E w a he hs hm => by
 have := hs.eval c
 rw [hc] at this
 exact wpIn_cond (t := b) (bN this) (h E0 w0 h0 E w a he hs hm)
theorem jJ {id : Nat} {c : Code} (h : gA P ρ n0 c st (eu id Q)) : gA P ρ n0 (.block id c) st Q := fun E0 w0 h0 E w a he hs hm => by
 refine wpIn_block (wpIn_mono (h E0 w0 h0 E w a he hs hm) ?_)
 rintro e a' w' ⟨E', st', h1, h2, h4, h3⟩
 cases e with
 | exit j =>
  simp only [Exit.inBlock,eu] at h3 ⊢
  split
  ·rename_i hj; rw [if_pos hj] at h3; exact ⟨E', st', h1, h2, h4, h3⟩
  ·rename_i hj; rw [if_neg hj] at h3; exact ⟨E', st', h1, h2, h4, h3⟩
 | _ => exact ⟨E', st', h1, h2, h4, h3⟩
theorem kx (ht : TT P tt) {id : Nat} {ops : Array Oper} (h : dt P tt ops ops.toList st (Q .normal)) : gA P ρ n0 (.region id ops false) st Q := fun E0 w0 h0 E w a he hs hm => by
 refine wpIn_region ?_
 have := wK ht (ρ := ρ) (n := 0) (Q' := N1 E0 w0 Q) ops.toList [] (by simp) hs h (fun a' w' hd ⟨E', st', h1, h2, h3⟩ => ⟨E', st', h1, he.trans h2, by rw [hd]; exact hm.F1 h2, h3⟩)
 rw [List.range_eq_range']
 simpa using this

def kV (P : Program) (ρ : Option Nat) (n0 : Nat) (c : Code) : Nat → St → (Exit → St → Prop) → Prop
 | 0, _, _ => False
 | n + 1, st, Q => gA P ρ n0 c st (dQ (fun st' => kV P ρ n0 c n st' Q) Q)
theorem sM {c : Code} (n : Nat) (h : kV P ρ n0 c n st Q) : gA P ρ n0 (.loop c) st Q := fun E0 w0 h0 E w a he hs hm => by
 refine wpIn_loop_rounds n ?_
 have key : ∀ (n : Nat) (E1 : Env) (w1 : World) (a1 : Act) (st1 : St), aV E1 w1 a1 st1 → dk E0 w0 E1 w1 → Marks E1 w1 w0.heap.size a1.defers → kV P ρ n0 c n st1 Q → Code.roundsIn (WF ρ) 0 P c (N1 E0 w0 Q) n a1 w1 := by
  intro n
  induction n with
  | zero => intro E1 w1 a1 st1 _ _ _ h; exact h.elim
  | succ n ih =>
   intro E1 w1 a1 st1 h1 h2 h5 h3
   refine wpIn_mono (h3 E0 w0 h0 E1 w1 a1 h2 h1 h5) ?_
   rintro e a' w' ⟨E', st', h4, h5, h7, h6⟩
   cases e with
   | normal => exact ih E' w' a' st' h4 h5 h7 h6
   | _ => exact ⟨E', st', h4, h5, h7, h6⟩
 exact key n E w a st hs he hm h

theorem sN {c : Code} {st' : St} (hw : ∀ E w a, aV E w a st → aV E w a st') (h : gA P ρ n0 c st' Q) : gA P ρ n0 c st Q :=
 fun E0 w0 h0 E w a he hs hm => h E0 w0 h0 E w a he (hw E w a hs) hm


mutual
def ai (n : Nat) : V → Bool
 | .ms b _ _ _ => decide (b < n)
 | .ptr b _ => decide (b < n)
 | .ik b => decide (b < n)
 | .mp b => decide (b < n)
 | .cY b _ _ _ => decide (b < n)
 | .undef => true
 | .sc _ => true
 | .slice _ => true
 | .cg _ => true
 | .gn => true
 | .full _ => true
 | .agg cs => dh n cs
 | .bt cs => dh n cs
 | .fU _ first cap => dh n first && dh n cap
def dh (n : Nat) : List V → Bool
 | [] => true
 | c :: r => ai n c && dh n r
end
theorem cu (n : Nat) (l : List V) : dh n l = l.all (ai n) := by
 induction l with
 | nil => rfl
 | cons c r ih => simp [dh, ih]
def aB (n : Nat) : au → Bool
 | .box cs => cs.all (ai n)
 | .loop _ _ fr _ _ _ => fr.all (ai n)
 | .map bf _ => bf.all (fun k => ai n k.2.2)
 | .ed m _ _ _ => decide (m < n)
 | _ => true
def Env.cut (E : Env) (n : Nat) : Env := { F := E.F, aG := fun k v => if k < n then E.aG k v else none, gl := E.gl }

theorem fi {E : Env} {n : Nat} {v : V} {x : Value} (h : aT E v x) (hb : ai n v = true) : aT (E.cut n) v x := by
 induction h with
 | undef => exact .undef _ _
 | sc => exact .sc _ _
 | slice E rows a cap nj ad xf ha hX hz hF h1 hR ih => exact .slice _ _ _ _ nj ad xf ha hX hz hF h1 hR
 | ms E b v s l g e c a cap eV hl h0 CR => exact .ms _ _ _ _ _ g e c _ _ ((if_pos (by simpa [ai] using hb)).trans eV) hl h0 CR
 | cZ => exact .cZ _ _ _ _
 | ptr E b o g e c eV => exact .ptr _ _ _ g e c ((if_pos (by simpa [ai] using hb)).trans eV)
 | ik E b l e c eV => exact .ik _ _ l e c ((if_pos (by simpa [ai] using hb)).trans eV)
 | mp E b l e c eV => exact .mp _ _ l e c ((if_pos (by simpa [ai] using hb)).trans eV)
 | cY E b v i o g e c eV => exact .cY _ _ _ _ _ g e c ((if_pos (by simpa [ai] using hb)).trans eV)
 | cg E cs ad xf hF hR ih => exact .cg _ _ _ xf hF hR
 | gn => exact .gn _
 | full E rows a h ih => exact .full _ _ _ (ih rfl)
 | agg E cs xs hl hh ih =>
  rw [ai, cu] at hb
  exact .agg _ _ _ hl fun i c x hc hx => ih i c x hc hx (List.all_eq_true.1 hb c (List.mem_of_getElem? hc))
 | bt E cs xs hl hh ih =>
  rw [ai, cu] at hb
  exact .bt _ _ _ hl fun i c x hc hx => ih i c x hc hx (List.all_eq_true.1 hb c (List.mem_of_getElem? hc))
 | fU E f first cap xs ys hx hy h1 h2 Nz NA =>
  rw [ai, cu, cu, Bool.and_eq_true] at hb
  exact .fU _ _ _ _ _ _ hx hy (fun i c x hc hx => Nz i c x hc hx (List.all_eq_true.1 hb.1 c (List.mem_of_getElem? hc))) fun i c x hc hx => NA i c x hc hx (List.all_eq_true.1 hb.2 c (List.mem_of_getElem? hc))

theorem aV.cut {E : Env} {w : World} {a : Act} {st : St} (hs : aV E w a st) {n : Nat} (hf : st.fr.all (ai n) = true) (hm : (st.mem.take n).all (aB n) = true) : aV (E.cut n) w a { st with mem := st.mem.take n } := by
 have hblk : ∀ k v, k < n → (E.cut n).aG k v = E.aG k v := fun k v h => if_pos h
 have dg : ∀ k v, n ≤ k → (E.cut n).aG k v = none := fun k v h => if_neg (by omega)
 have aF : ∀ {k v t}, (E.cut n).aG k v = some t → k < n ∧ E.aG k v = some t := fun {k v t} h => by
  by_cases hk : k < n
  ·rw [hblk k v hk] at h; exact ⟨hk, h⟩
  ·rw [dg k v (by omega)] at h; cases h
 have eU : ∀ {k : Nat} {B : au}, (st.mem.take n)[k]? = some B → k < n ∧ st.mem[k]? = some B := fun {k B} h => by
  rw [List.getElem?_take] at h
  split at h
  ·exact ⟨by assumption, h⟩
  ·cases h
 refine ⟨hs.F, fun k v g e c h => hs.lt _ _ _ _ _ (aF h).2, fun k B hk => ?_, fun k hk v => ?_, fun k B hk v hv => ?_, fun k k' v v' g e1 c1 e2 c2 h5 h6 => hs.apart _ _ _ _ _ _ _ _ _ (aF h5).2 (aF h6).2, ⟨hs.fr.1, fun i v x hv hx => fi (hs.fr.2 i v x hv hx) (List.all_eq_true.1 hf v (List.mem_of_getElem? hv))⟩⟩
 ·obtain ⟨gf, eQ⟩ := eU hk
  have bn := List.all_eq_true.1 hm B (List.mem_of_getElem? hk)
  have h := hs.mem k B eQ
  cases B with
  | hole => exact fun v => by rw [hblk k v gf]; exact h v
  | dead => trivial
  | box cs =>
   obtain ⟨g, T, xs, h1, h2, h3, h4⟩ := h
   exact ⟨g, T, xs, (hblk k 0 gf).trans h1, h2, ⟨h3.1, fun i v x hv hx => fi (h3.2 i v x hv hx) (List.all_eq_true.1 bn v (List.mem_of_getElem? hv))⟩, h4⟩
  | loop s jr fr params assign body =>
   obtain ⟨l, fn, tmps, db, h1, h2, h3, h4⟩ := h
   exact ⟨l, fn, tmps, db, (hblk k 0 gf).trans h1, h2, ⟨h3.1, fun i v x hv hx => fi (h3.2 i v x hv hx) (List.all_eq_true.1 bn v (List.mem_of_getElem? hv))⟩, h4⟩
  | map bf clock =>
   obtain ⟨g, es, h1, h2, h3, h4⟩ := h
   exact ⟨g, es, (hblk k 0 gf).trans h1, h2, ⟨h3.1, fun i kb e hk he => let ⟨p1, p2, p3⟩ := h3.2 i kb e hk he; ⟨p1, p2, fi p3 (List.all_eq_true.1 bn kb (List.mem_of_getElem? hk))⟩⟩, h4⟩
  | ed m since seen last =>
   obtain ⟨g, gm, e, c, h1, h2, h3, h4⟩ := h
   have rv : m < n := by simpa [aB] using bn
   exact ⟨g, gm, e, c, (hblk k 0 gf).trans h1, (hblk m 0 rv).trans h2, h3, h4⟩
  | gZ s pos =>
   obtain ⟨g, h1, h2, h3⟩ := h
   exact ⟨g, (hblk k 0 gf).trans h1, h2, h3⟩
  | iz =>
   obtain ⟨g, h1, h2, h3⟩ := h
   exact ⟨g, (hblk k 0 gf).trans h1, h2, h3⟩
  | rows v e rs =>
   rcases h with ⟨h1, h2⟩ | ⟨g, T, xs, c, h1, h2⟩
   ·exact .inl ⟨h1, (hblk k v gf).trans h2⟩
   ·exact .inr ⟨g, T, xs, c, (hblk k v gf).trans h1, h2⟩
  | mO v e rs =>
   rcases h with ⟨h1, h2⟩ | ⟨g, c, h1, h2⟩
   ·exact .inl ⟨h1, (hblk k v gf).trans h2⟩
   ·exact .inr ⟨g, c, (hblk k v gf).trans h1, h2⟩
 ·by_cases gf : k < n
  ·rw [hblk k v gf]
   refine hs.top k ?_ v
   dsimp only at hk
   rw [List.length_take] at hk; omega
  ·exact dg k v (by omega)
 ·obtain ⟨gf, eQ⟩ := eU hk
  rw [hblk k v gf]; exact hs.ay k B eQ v hv

def forget (qL : List Nat) (fr : List V) : List V := qL.foldl (fun fr i => fr.set i .undef) fr
theorem aV.forget {E : Env} {w : World} {a : Act} (qL : List Nat) : ∀ {st : St}, aV E w a st → aV E w a { st with fr := Eng.forget qL st.fr } := by
 induction qL with
 | nil => intro st hs; exact hs
 | cons i r ih =>
  intro st hs
  have : aV E w a { st with fr := st.fr.set i .undef } := by
   refine ⟨hs.F, hs.lt, hs.mem, hs.top, hs.ay, hs.apart, ⟨by simpa using hs.fr.1, fun j v x hv hx => ?_⟩⟩
   dsimp only at hv
   rw [List.getElem?_set] at hv
   split at hv
   ·split at hv
    ·cases hv; exact .undef _ _
    ·cases hv
   ·exact hs.fr.2 j v x hv hx
  exact ih this

theorem yD {c : Code} (n : Nat) (qL : List Nat) (hn : n0 ≤ n) (hf : (forget qL st.fr).all (ai n) = true) (hm : (st.mem.take n).all (aB n) = true)
  (h : gA P ρ n0 c { fr := forget qL st.fr, mem := st.mem.take n } Q) : gA P ρ n0 c st Q := fun E0 w0 h0 E w a he hs uG => by
 have h1 := (hs.forget qL).cut (n := n) hf hm
 refine h E0 w0 h0 (E.cut n) w a ⟨⟨he.le.F, fun k v t hk => ?_⟩, fun k v g e c hk => ?_, he.F, he.os, he.tape, he.output, he.size, he.heap⟩ h1 ?_
 rotate_left 2
 ·obtain ⟨rs, m1, m2, m3⟩ := uG
  refine ⟨rs, m1, m2, fun r hr => ⟨(m3 r hr).1, (m3 r hr).2.1, fun k v e c hk => ?_⟩⟩
  have : E.aG k v = some (r, e, c) := by
   by_cases gf : k < n
   ·exact ((if_pos gf).symm.trans hk : E.aG k v = _)
   ·have h2 : (E.cut n).aG k v = none := if_neg gf
    rw [h2] at hk; cases hk
  exact (m3 r hr).2.2 _ _ _ _ this
 ·have : k < n := by
   rcases Nat.lt_or_ge k n with aF | dg
   ·exact aF
   ·rw [h0 k (by omega) v] at hk; cases hk
  exact (if_pos this).trans (he.le.aG _ _ _ hk)
 ·have : E.aG k v = some (g, e, c) := by
   by_cases gf : k < n
   ·exact ((if_pos gf).symm.trans hk : E.aG k v = _)
   ·have h2 : (E.cut n).aG k v = none := if_neg gf
    rw [h2] at hk; cases hk
  exact he.aG _ _ _ _ _ this

theorem aV.Kb {E : Env} {w : World} {a : Act} {st : St} (hs : aV E w a st) {i b v : Nat} (h : st.fr[i]? = some (.sc (.slice none 0 0))) : aV E w a { st with fr := st.fr.set i (.ms b v 0 0) } := by
 refine ⟨hs.F, hs.lt, hs.mem, hs.top, hs.ay, hs.apart, ⟨by simpa using hs.fr.1, fun j u x hu hx => ?_⟩⟩
 dsimp only at hu
 rw [List.getElem?_set] at hu
 split at hu
 ·rename_i sv
  subst sv
  split at hu
  ·cases hu
   have := hs.fr.2 _ _ _ h hx
   rw [bN this]
   exact .cZ _ _ _ _
  ·cases hu
 ·exact hs.fr.2 j u x hu hx
end

def yE (tt : Table) (st : St) : ResultVar → Option V
 | .tmp t => some (st.fr.getD t .undef)
 | .cell a T => kS tt st.mem T (st.fr.getD a .undef)
def sO (tt : Table) (st : St) : List ResultVar → Option (List V)
 | [] => some []
 | r :: rs => match yE tt st r with
  | some v => match sO tt st rs with | some l => some (v :: l) | none => none
  | none => none
def uH (tt : Table) (rs : Array ResultVar) (st : St) : Option V :=
 match sO tt st rs.toList with
 | some [v] => MG st.mem v
 | some vs => MG st.mem (.bt vs)
 | none => none

theorem iH {P : Program} {tt : Table} (ht : TT P tt) {E : Env} {w : World} {a : Act} {st : St} (hs : aV E w a st) : ∀ (rs : List ResultVar) (vs : List V), sO tt st rs = some vs →
  ∃ xs : List Value, (rs.mapM (fun | .tmp t => pure (a.tmps.getD t undef) | .cell p t => do loadVar t (← asAddr (a.tmps.getD p undef))) : Sem (List Value)).run P w = .ok xs w ∧ aO E vs xs
 | [], vs, h => by simp [sO] at h; subst h; exact ⟨[], rfl, .nil _⟩
 | r :: rs, vs, h => by
  simp only [sO] at h
  split at h
  ·rename_i v hv
   split at h
   ·rename_i l hl
    simp only [Option.some.injEq] at h; subst h
    obtain ⟨xs, h1, h2⟩ := iH ht hs rs l hl
    have hx : ∃ x, ((match r with | .tmp t => pure (a.tmps.getD t undef) | .cell p t => do loadVar t (← asAddr (a.tmps.getD p undef))) : Sem Value).run P w = .ok x w ∧ aT E v x := by
     cases r with
     | tmp t =>
      simp only [yE,Option.some.injEq] at hv; subst hv
      exact ⟨_, rfl, hs.eval (.tmp t)⟩
     | cell p t =>
      simp only [yE] at hv
      have hp := hs.eval (.tmp p)
      obtain ⟨y, h3, h4⟩ := qx ht hs hp hv
      refine ⟨y, ?_, h4⟩
      have MJ : ∃ ad, a.tmps.getD p undef = .pointer (some ad) := by
       have oa : aT E (st.fr.getD p .undef) (a.tmps.getD p undef) := hp
       revert oa hv
       generalize st.fr.getD p .undef = q
       generalize a.tmps.getD p undef = z
       intro hv oa
       cases oa with
       | ptr => exact ⟨_, rfl⟩
       | cY => exact ⟨_, rfl⟩
       | cg => exact ⟨_, rfl⟩
       | _ => simp [kS] at hv
      obtain ⟨ad, YN⟩ := MJ
      have QR : (Instr.loadAt t (a.tmps.getD p undef)).run P w = .ok y w := h3
      show ((do loadVar t (← asAddr (a.tmps.getD p undef))) : Sem Value).run P w = _
      rw [YN] at QR ⊢
      simpa [Instr.loadAt, Instr.sureAddr, asAddr] using QR
    obtain ⟨x, h3, h4⟩ := hx
    refine ⟨x :: xs, ?_, .cons h4 h2⟩
    simp only [List.mapM_cons,Sem.run_bind]
    rw [h3]
    simp only [Result.andThen_ok]
    rw [h1]
    rfl
   ·cases h
  ·cases h

theorem A3 {P : Program} {tt : Table} (ht : TT P tt) {E : Env} {w : World} {a : Act} {st : St} (hs : aV E w a st) {fn : Func} {r : V} (h : uH tt fn.results st = some r) :
  ∃ keys x, (results fn a.tmps).run P w = .ok x w ∧ aT (E.kg w keys).pure r x := by
 unfold uH at h
 have run : ∀ xs : List Value, (fn.results.toList.mapM (fun | .tmp t => pure (a.tmps.getD t undef) | .cell p t => do loadVar t (← asAddr (a.tmps.getD p undef))) : Sem (List Value)).run P w = .ok xs w →
   (results fn a.tmps).run P w = .ok (if h : xs.toArray.size = 1 then xs.toArray[0] else .tuple xs.toArray) w := fun xs hx => by
  unfold results
  rw [Array.mapM_eq_mapM_toList]
  simp only [Sem.run_bind,Sem.run_map]
  erw [hx]
  rfl
 split at h
 ·rename_i v hv
  obtain ⟨xs, h1, h2⟩ := iH ht hs _ _ hv
  obtain ⟨x, ys, rfl, h3, h4⟩ := h2.of_cons
  have := h4.of_nil; subst this
  exact ⟨refs v, x, run _ h1, vd hs h3 h fun k hk => hk⟩
 ·rename_i vs bD hv
  obtain ⟨xs, h1, h2⟩ := iH ht hs _ _ hv
  have hl : xs.toArray.size ≠ 1 := by
   have := h2.1
   intro he
   match vs, xs, this, he with
   | [v], _, _, _ => exact bD v rfl
   | [], [], _, he => simp at he
   | [], _ :: _, h, _ => simp at h
   | _ :: _ :: _, [], h, _ => simp at h
   | _ :: _ :: _, _ :: [], h, _ => simp at h
   | _ :: _ :: _, _ :: _ :: _, _, he => simp at he
  have h3 := run _ h1
  rw [dif_neg hl] at h3
  exact ⟨refs (.bt vs), _, h3, vd hs (.bt _ _ _ (by simpa using h2.1) fun i c x hc hx => h2.2 i c x hc (by simpa using hx)) h fun k hk => hk⟩
 ·cases h

def eh (fn : Func) (args : List V) (mem : List au) : St := { fr := args ++ List.replicate (fn.ntmps - args.length) (.sc undef), mem := mem }
theorem qM {E : Env} (fn : Func) {args : List V} {mem : List au} {xs : Array Value} (hx : aO E args xs.toList) : aO E (eh fn args mem).fr (xs ++ Array.replicate (fn.ntmps - xs.size) undef).toList := by
 have hl : args.length = xs.size := by have := hx.1; simpa using this
 simp only [eh,Array.toList_append,Array.toList_replicate,hl]
 refine hx.append ⟨by simp, fun i v x hv hx => ?_⟩
 rw [List.getElem?_replicate] at hv hx
 split at hv
 ·rename_i hi; rw [if_pos hi] at hx; cases hv; cases hx; exact .sc _ _
 ·cases hv

theorem wL {P : Program} {w : World} {r : Nat} (h : w.heap[r]? = some (.deferred (some []))) : (Instr.takeDeferred r).run P w = .ok [] { w with heap := w.heap.setIfInBounds r (.deferred none) } := by
 simp [Instr.takeDeferred, getObj, setObj, Sem.run, h, bind, Sem.bind, pure]

theorem kz {P : Program} {fn : Func} {tmps : Array Value} {R : Ending → World → Prop} : ∀ (rs : List Nat) (w : World), rs.Nodup → (∀ r ∈ rs, w.heap[r]? = some (.deferred (some []))) →
  (∀ w', w'.os = w.os → w'.tape = w.tape → w'.output = w.output → w'.heap.size = w.heap.size → (∀ b, b ∉ rs → w'.heap[b]? = w.heap[b]?) → ∃ v, (results fn tmps).run P w' = .ok v w' ∧ R (.returned v) w') →
  LeavesInM (WF none) 0 P fn tmps R (rs.map (fun r => { target := .collected r, args := #[] })) .returning w
 | [], w, _, _, h => by
  obtain ⟨v, h1, h2⟩ := h w rfl rfl rfl rfl fun _ _ => rfl
  exact ⟨v, h1, h2⟩
 | r :: rs, w, hn, hr, h => by
  refine ⟨by simp, .inl ⟨r, _, rfl, wL (hr r (List.mem_cons_self ..)), ?_⟩⟩
  rw [List.nodup_cons] at hn
  have yF : ∀ b, b ≠ r → (w.heap.setIfInBounds r (.deferred none))[b]? = w.heap[b]? := fun b hb => Array.getElem?_setIfInBounds_ne (fun e => hb e.symm)
  refine kz rs _ hn.2 (fun r' um => ?_) fun w' h1 h2 h3 h4 h5 => ?_
  ·rw [yF r' (fun e => hn.1 (e ▸ um))]; exact hr r' (List.mem_cons_of_mem _ um)
  ·exact h w' h1 h2 h3 (by rw [h4]; simp) fun b hb => by
    simp only [List.mem_cons,not_or] at hb
    rw [h5 b hb.2, yF b hb.1]

theorem aV.GD {E : Env} {w w' : World} {a : Act} {st : St} (hs : aV E w a st) {rs : List Nat} (hr : ∀ r ∈ rs, w.heap[r]? = some (.deferred (some [])) ∧ ∀ k v e c, E.aG k v ≠ some (r, e, c)) (kd : w'.heap.size = w.heap.size)
  (hh : ∀ b, b ∉ rs → w'.heap[b]? = w.heap[b]?) : aV E w' a st := by
 refine ⟨fun ad x hx => ?_, fun k v g e c h => by rw [kd]; exact hs.lt _ _ _ _ _ h, fun k B hk => ?_, hs.top, hs.ay, hs.apart, hs.fr⟩
 ·have hc := hs.F ad x hx
  have : ad.block ∉ rs := fun hY => by
   have := (hr _ hY).1
   simp [World.cell?, this] at hc
  rw [← hc]; simp [World.cell?, hh _ this]
 ·exact (hs.mem k B hk).mono E.le_refl (fun _ h => h) (fun g e c h => hh g fun hY => (hr g hY).2 _ _ _ _ h) fun _ _ _ _ _ h => h

theorem GF {P : Program} {tt : Table} (ht : TT P tt) {f : FuncId} {fn : Func} {body : Code} {args : List V} {r : V} (hf : P.funcs[f]? = some fn) (hb : fn.body = some body)
  (du : ∀ (xs : Array Value) (w : World), (callFunc f xs).run P w = .ok (.enter f xs) w)
  (h : gA P none 0 body (eh fn args []) fun ex st' => (ex = .ret ∨ ex = .normal) ∧ uH tt fn.results st' = some r) : aP P f args r := by
 refine ⟨du, fun F hg w xs hF hx => yC (n := 0) (callsIn_of_wp_marks hf hb trivial ?_)⟩
 have hs : aV ⟨F, fun _ _ => none, hg⟩ w { tmps := xs ++ Array.replicate (fn.ntmps - xs.size) undef, defers := [] } (eh fn args []) := by
  refine ⟨hF, (fun k v g e c h => by cases h), (fun k B h => by simp [eh] at h), (fun k _ v => rfl), (fun k B h => by simp [eh] at h), (fun k k' v v' g e c e' c' h => by cases h), qM fn hx⟩
 refine wpIn_mono (h _ w (fun k _ v => rfl) _ w _ (dk.refl _ w) hs (.nil _ _ _)) ?_
 rintro e a' w' ⟨E', st', h1, h2, ⟨rs, hd, kr, Gn⟩, he, hr⟩
 have post : LeavesInM (WF none) 0 P fn a'.tmps (fun e w' => ∃ F' x, e = .returned x ∧ (∀ ad y, F ad = some y → F' ad = some y) ∧ (∀ ad y, F' ad = some y → w'.cell? ad = some y) ∧ (∀ ad y, F' ad = some y → F ad = some y ∨ w.heap.size ≤ ad.block) ∧
   (∃ J6, aT ⟨F', fun _ _ => none, J6⟩ r x) ∧ Below w.heap.size w w') a'.defers .returning w' := by
  rw [hd]
  refine kz rs w' kr (fun r hr => (Gn r hr).2.1) fun w2 k1 k2 k3 k4 k5 => ?_
  have eD := h1.GD (fun r hr => (Gn r hr).2) k4 k5
  obtain ⟨keys, x, h3, h4⟩ := A3 ht eD hr
  have hold : ∀ r ∈ rs, w.heap.size ≤ r := fun r hr => (Gn r hr).1
  refine ⟨x, h3, (E'.kg w2 keys).F, x, rfl, fun ad y hy => (Env.pH E' w2 keys).F _ _ (h2.le.F _ _ hy), fun ad y hy => Env.C0 eD.F hy, fun ad y hy => ?_, ⟨_, h4⟩, ⟨k1.trans h2.os, k2.trans h2.tape, k3.trans h2.output, by rw [k4]; exact h2.size, fun b hb => (k5 b fun hY => by have := hold b hY; omega).trans (h2.heap b hb (by simp))⟩⟩
  rcases Env.wH hy with h | ⟨k, -, e, c, h⟩
  ·rcases h2.F _ _ h with h | h | ⟨k0, v0, e0, c0, h⟩
   ·exact .inl h
   ·exact .inr h
   ·cases h
  ·rcases h2.aG _ _ _ _ _ h with ⟨k0, v0, e0, c0, h⟩ | h
   ·cases h
   ·exact .inr h
 rcases he with rfl | rfl <;> exact post
end Go.Eng
end

section
namespace Go.Eng
variable [aE]

def mm : List (Nat × Ti) → Table
 | [], _ => none
 | (k, i) :: r, t => if t = k then some i else mm r t

def wM : Value → Value → Bool
 | .bool a, .bool b => a == b
 | .int k n, .int k' n' => k == k' && n == n'
 | .string a, .string b => a.data == b.data
 | .pointer none, .pointer none => true
 | .slice none a b, .slice none c d => a == c && b == d
 | .map none, .map none => true
 | .nilFunc, .nilFunc => true
 | .nilIface, .nilIface => true
 | _, _ => false
def jl : List Value → List Value → Bool
 | [], [] => true
 | a :: r, b :: s => wM a b && jl r s
 | _, _ => false
theorem vh {a b : Value} (h : wM a b = true) : a = b := by
 unfold wM at h
 split at h
 ·simp at h; rw [h]
 ·simp at h; rw [h.1, h.2]
 ·rename_i a b
  have : a.data = b.data := by simpa using h
  congr 1
  cases a; cases b; simp_all
 ·rfl
 ·simp at h; rw [h.1, h.2]
 ·rfl
 ·rfl
 ·rfl
 ·cases h
theorem kA : ∀ {a b : List Value}, jl a b = true → a = b
 | [], [], _ => rfl
 | x :: r, y :: s, h => by
  simp only [jl,Bool.and_eq_true] at h
  rw [vh h.1, kA h.2]
 | [], _ :: _, h => by simp [jl] at h
 | _ :: _, [], h => by simp [jl] at h

def pJ (P : Program) : List Field → List (Nat × Nat) → Bool
 | [], [] => true
 | f :: r, p :: s => f.offset == p.1 && p.2 != 0 && (match P.info? f.type with | some i => i.size == p.2 | none => false) && pJ P r s
 | _, _ => false

def Kc (P : Program) (t : TypeId) (i : Ti) : Bool :=
 match P.info? t with
 | none => false
 | some info => info.size == i.size && info.bytes == i.bytes && (match info.zero with | some z => jl z.cells.toList i.zero | none => false) &&
  match P.underlying t with
  | none => false
  | some d => (i.agg == (match d with | .struct _ => true | .array _ _ => true | _ => false)) &&
   (match i.elem with | none => true | some e => (match d with | .slice e' => e' == e | _ => false)) &&
   (match i.bm with | [] => true | fl => (match d with | .struct fs => pJ P fs.toList fl | _ => false))

def C2 (P : Program) : List (Nat × Ti) → Bool
 | [] => true
 | (t, i) :: r => Kc P t i && C2 P r

theorem sP {P : Program} : ∀ {fs : List Field} {fl : List (Nat × Nat)}, pJ P fs fl = true → fs.length = fl.length ∧ ∀ (k off sz : Nat), fl[k]? = some (off, sz) → ∃ f inf, fs[k]? = some f ∧ f.offset = off ∧ P.info? f.type = some inf ∧ inf.size = sz ∧ sz ≠ 0
 | [], [], _ => ⟨rfl, fun k off sz h => by simp at h⟩
 | f :: r, p :: s, h => by
  simp only [pJ,Bool.and_eq_true,beq_iff_eq,bne_iff_ne] at h
  obtain ⟨⟨⟨h1, h2⟩, h3⟩, h4⟩ := h
  obtain ⟨h5, h6⟩ := sP h4
  refine ⟨by simp [h5], fun k off sz hk => ?_⟩
  cases k with
  | zero =>
   simp only [List.getElem?_cons_zero,Option.some.injEq] at hk; subst hk
   split at h3
   ·rename_i inf hi
    exact ⟨f, inf, rfl, h1, hi, by simpa using h3, h2⟩
   ·cases h3
  | succ k => exact h6 k off sz (by simpa using hk)
 | [], _ :: _, h => by simp [pJ] at h
 | _ :: _, [], h => by simp [pJ] at h

theorem C3 {P : Program} {t : TypeId} {i : Ti} (h : Kc P t i = true) :
  (∃ info, P.info? t = some info ∧ info.size = i.size ∧ info.bytes = i.bytes ∧ ∃ z, info.zero = some z ∧ z.cells.toList = i.zero) ∧
  (∃ d, P.underlying t = some d ∧ (i.agg = true ↔ ((∃ fs, d = .struct fs) ∨ ∃ n e, d = .array n e)) ∧ (∀ e, i.elem = some e → d = .slice e) ∧
   (∀ (f off sz : Nat), i.bm[f]? = some (off, sz) → ∃ fs fd inf, d = .struct fs ∧ fs.size = i.bm.length ∧ fs[f]? = some fd ∧ fd.offset = off ∧ P.info? fd.type = some inf ∧ inf.size = sz ∧ sz ≠ 0)) := by
 unfold Kc at h
 split at h
 ·cases h
 ·rename_i info RJ
  simp only [Bool.and_eq_true,beq_iff_eq] at h
  obtain ⟨⟨⟨h1, h2⟩, h3⟩, h4⟩ := h
  split at h3
  ·rename_i z hz
   refine ⟨⟨info, RJ, h1, h2, z, hz, kA h3⟩, ?_⟩
   split at h4
   ·cases h4
   ·rename_i d hd
    simp only [Bool.and_eq_true,beq_iff_eq] at h4
    obtain ⟨⟨h5, h6⟩, h7⟩ := h4
    refine ⟨d, hd, ?_, ?_, ?_⟩
    ·rw [h5]
     cases d <;> simp
    ·intro e he
     rw [he] at h6
     dsimp only at h6
     split at h6
     ·simp at h6; rw [h6]
     ·cases h6
    ·intro f off sz hf
     split at h7
     ·rename_i QN; rw [QN] at hf; simp at hf
     ·split at h7
      ·rename_i fs
       obtain ⟨h8, h9⟩ := sP h7
       obtain ⟨fd, inf, RL, Vc⟩ := h9 f off sz hf
       exact ⟨fs, fd, inf, rfl, by simpa using h8, by simpa using RL, Vc⟩
      ·cases h7
  ·cases h3

theorem pK {P : Program} : ∀ {l : List (Nat × Ti)}, C2 P l = true → ∀ t i, mm l t = some i → Kc P t i = true
 | [], _, t, i, h => by simp [mm] at h
 | (k, j) :: r, h, t, i, ht => by
  simp only [C2,Bool.and_eq_true] at h
  simp only [mm] at ht
  split at ht
  ·rename_i hk; subst hk; cases ht; exact h.1
  ·exact pK h.2 t i ht
theorem tt_of {P : Program} {l : List (Nat × Ti)} (h : C2 P l = true) : TT P (mm l) :=
 ⟨fun t i ht => (C3 (pK h t i ht)).1, fun t i ht => (C3 (pK h t i ht)).2⟩
end Go.Eng
end

section
namespace Go.Eng
variable [aE]

section
variable {P : Program} {tt : Table} {ρ : Option Nat} {n0 : Nat} {st : St} {Q : Exit → St → Prop}
theorem fL (ht : TT P tt) {id : Nat} {ops : Array Oper} {y : Code} (h : ∀ K : St → Prop, (∀ st', gA P ρ n0 y st' Q → K st') → dt P tt ops ops.toList st K) : gA P ρ n0 (.seq (.region id ops false) y) st Q :=
 ku (kx ht (h (fun st' => gA P ρ n0 y st' Q) fun _ h => h))
def wN : List Bool → List V → List V
 | _, [] => []
 | [], _ :: r => .undef :: wN [] r
 | b :: m, v :: r => (if b = true then v else .undef) :: wN m r
theorem nz {E : Env} : ∀ (m : List Bool) {vs : List V} {xs : List Value}, aO E vs xs → aO E (wN m vs) xs
 | m, [], xs, h => by rw [h.of_nil]; cases m <;> exact .nil _
 | [], v :: r, xs, h => by
  obtain ⟨x, ys, rfl, h1, h2⟩ := h.of_cons
  exact .cons (.undef _ _) (nz [] h2)
 | b :: m, v :: r, xs, h => by
  obtain ⟨x, ys, rfl, h1, h2⟩ := h.of_cons
  refine .cons ?_ (nz m h2)
  cases b
  ·exact .undef _ _
  ·exact h1
theorem aV.mask {E : Env} {w : World} {a : Act} {st : St} (hs : aV E w a st) (m : List Bool) : aV E w a { st with fr := wN m st.fr } :=
 ⟨hs.F, hs.lt, hs.mem, hs.top, hs.ay, hs.apart, nz m hs.fr⟩
theorem sQ {c : Code} : ∀ {n n' : Nat} {st : St}, n ≤ n' → kV P ρ n0 c n st Q → kV P ρ n0 c n' st Q
 | 0, _, _, _, h => h.elim
 | n + 1, 0, _, hn, _ => by omega
 | n + 1, n' + 1, st, hn, h => gA.mono h fun e st' hq => by
  cases e with
  | normal => exact sQ (by omega) hq
  | _ => exact hq
end

theorem aJ {α β : Type} (P : Program) (s : Sem α) (f : α → Sem β) : aD P (s >>= f) = (aD P s).bind fun a => aD P (f a) := by
 show aD P (s.bind f) = _
 induction s with
 | pure a => rfl
 | program k ih => exact ih P
 | mark m k ih => exact ih
 | _ => rfl
theorem cq {P : Program} {T : TypeId} {d : TypeDesc} (h : P.underlying T = some d) : aD P (underlying T) = some d := by
 simp [underlying, aJ, program, aD, h, pure]
theorem yG {P : Program} {T : TypeId} (hT : P.underlying T = some .bool) (p q : Bool) : aD P (Op.equal T (.bool p) (.bool q)) = some (p == q) := by
 show aD P (Op.equalIn (9999 + 1) T (.bool p) (.bool q)) = _
 rw [Op.equalIn, aJ, cq hT]
 rfl

section ints
variable (P : Program) (T : TypeId) (x y : Operand) (k : IntKind) (a b : Int)
theorem N2 : aQ P (fq .add T x y) (.sc (.int k a)) (.sc (.int k b)) = some (.sc (.int k (k.wrap (a + b)))) := by
 simp [aQ, bp, fq, binOp, Op.intArith, eqGuard, aD, dj, bind, pure, Sem.bind]
theorem N3 : aQ P (fq .sub T x y) (.sc (.int k a)) (.sc (.int k b)) = some (.sc (.int k (k.wrap (a - b)))) := by
 simp [aQ, bp, fq, binOp, Op.intArith, eqGuard, aD, dj, bind, pure, Sem.bind]
theorem N4 : aQ P (fq .mul T x y) (.sc (.int k a)) (.sc (.int k b)) = some (.sc (.int k (k.wrap (a * b)))) := by
 simp [aQ, bp, fq, binOp, Op.intArith, eqGuard, aD, dj, bind, pure, Sem.bind]
theorem N5 : aQ P (fq .lss T x y) (.sc (.int k a)) (.sc (.int k b)) = some (.sc (.bool (decide (a < b)))) := by
 simp [aQ, bp, fq, binOp, Op.intCmp, eqGuard, aD, dj, bind, pure, Sem.bind]
theorem N6 : aQ P (fq .leq T x y) (.sc (.int k a)) (.sc (.int k b)) = some (.sc (.bool (decide (a ≤ b)))) := by
 simp [aQ, bp, fq, binOp, Op.intCmp, eqGuard, aD, dj, bind, pure, Sem.bind]
theorem N7 : aQ P (fq .gtr T x y) (.sc (.int k a)) (.sc (.int k b)) = some (.sc (.bool (decide (b < a)))) := by
 simp [aQ, bp, fq, binOp, Op.intCmp, eqGuard, aD, dj, bind, pure, Sem.bind]
theorem N8 : aQ P (fq .geq T x y) (.sc (.int k a)) (.sc (.int k b)) = some (.sc (.bool (decide (b ≤ a)))) := by
 simp [aQ, bp, fq, binOp, Op.intCmp, eqGuard, aD, dj, bind, pure, Sem.bind]
theorem N9 : aQ P (fq .eql T x y) (.sc (.int k a)) (.sc (.int k b)) = some (.sc (.bool (decide (a = b)))) := by
 simp [aQ, bp, fq, binOp, Op.intCmp, eqGuard, aD, dj, bind, pure, Sem.bind]
 rfl
theorem Oa : aQ P (fq .neq T x y) (.sc (.int k a)) (.sc (.int k b)) = some (.sc (.bool (!decide (a = b)))) := by
 simp [aQ, bp, fq, binOp, Op.intCmp, eqGuard, aD, dj, bind, pure, Sem.bind]
 rfl
theorem Ob (ts : Array TypeId) (ty : TypeId) : cd P (Builtin.max_ ts ty) [.sc (.int k a), .sc (.int k b)] = some (.sc (.int k (if a < b then b else a))) := by
 simp [cd, js, bp, Builtin.max_, Builtin.max2, aD, dj, bind, pure, Sem.bind]
theorem Oc (ts : Array TypeId) (ty : TypeId) : cd P (Builtin.min_ ts ty) [.sc (.int k a), .sc (.int k b)] = some (.sc (.int k (if b < a then b else a))) := by
 simp [cd, js, bp, Builtin.min_, Builtin.min2, aD, dj, bind, pure, Sem.bind]
theorem Od (t : Bool) : mW P (Op.unary .not) (.sc (.bool t)) = some (.sc (.bool (!t))) := by
 simp [mW, bp, Op.unary, aD, dj, pure]
end ints

section strings
variable (P : Program) (T : TypeId) (x y : Operand) (a b : ByteArray)
theorem Kd : aQ P (fq .eql T x y) (.sc (.string a)) (.sc (.string b)) = some (.sc (.bool (a.toList == b.toList))) := by
 simp [aQ, bp, fq, binOp, Op.stringOp, eqGuard, aD, dj, bind, pure, Sem.bind]
theorem Ke : aQ P (fq .neq T x y) (.sc (.string a)) (.sc (.string b)) = some (.sc (.bool (!(a.toList == b.toList)))) := by
 simp [aQ, bp, fq, binOp, Op.stringOp, eqGuard, aD, dj, bind, pure, Sem.bind]
theorem Kf : aQ P (fq .lss T x y) (.sc (.string a)) (.sc (.string b)) = some (.sc (.bool (Op.bytesLess a.toList b.toList))) := by
 simp [aQ, bp, fq, binOp, Op.stringOp, eqGuard, aD, dj, bind, pure, Sem.bind]
theorem Kg : aQ P (fq .gtr T x y) (.sc (.string a)) (.sc (.string b)) = some (.sc (.bool (!(Op.bytesLess a.toList b.toList || a.toList == b.toList)))) := by
 simp [aQ, bp, fq, binOp, Op.stringOp, eqGuard, aD, dj, bind, pure, Sem.bind]
theorem kB (h : ((a.size + b.size : Nat) : Int) ≤ IntKind.i64.max) : aQ P (fq .add T x y) (.sc (.string a)) (.sc (.string b)) = some (.sc (.string (a ++ b))) := by
 have h' : ¬ ((a.size + b.size : Nat) : Int) > IntKind.i64.max := by omega
 simp only [aQ,bp,fq,binOp,Op.stringOp,if_neg h']
 simp [eqGuard, aD, dj, bind, pure, Sem.bind]
theorem cx {P : Program} {T : TypeId} (hT : P.underlying T = some .string) (k : IntKind) (n : Int) (h0 : 0 ≤ n) {c : UInt8} (hc : a[n.toNat]? = some c) : aQ P (Instr.index T) (.sc (.string a)) (.sc (.int k n)) = some (.sc (.int .u8 c.toNat)) := by
 simp [aQ, bp, Instr.index, asIntOf, underlying, hT, h0, hc, aD, dj, bind, pure, Sem.bind, program]
theorem bE {P : Program} {tt : Table} {T : TypeId} (hT : P.underlying T = some .string) (ty : TypeId) : rq P tt #[T] ty [.sc (.string a)] = some (.sc (.int .i64 a.size)) := by
 simp [rq, cd, js, bp, Builtin.len_, underlying, hT, aD, dj, bind, pure, Sem.bind, program, goInt]
theorem yH {P : Program} {tt : Table} {mem : List au} {T : TypeId} (hT : P.underlying T = some .string) (k : IntKind) (n : Int) (h0 : 0 ≤ n) (hn : n ≤ a.size) :
  sh P tt mem T (.sc (.string a)) none (some (.sc (.int k n))) = some (.sc (.string (a.extract 0 n.toNat))) := by
 simp [sh, aQ, bp, Instr.sliceAt, Instr.slice, Instr.sliceBounds, Instr.sliceBound, asIntOf, underlying, hT, h0, hn, aD, dj, bind, pure, Sem.bind, program]
theorem vi {P : Program} {tt : Table} {mem : List au} {T : TypeId} (hT : P.underlying T = some .string) (k k' : IntKind) (l h : Int) (h0 : 0 ≤ l) (h1 : l ≤ h) (hn : h ≤ a.size) :
  sh P tt mem T (.sc (.string a)) (some (.sc (.int k l))) (some (.sc (.int k' h))) = some (.sc (.string (a.extract l.toNat h.toNat))) := by
 have h2 : 0 ≤ h := by omega
 have h3 : l ≤ max h 0 := by omega
 simp [sh, aQ, bp, Instr.sliceAt, Instr.slice, Instr.sliceBounds, Instr.sliceBound, asIntOf, underlying, hT, h0, h2, hn, h3, h1, aD, dj, bind, pure, Sem.bind, program]
theorem Kh {P : Program} {T : TypeId} (hT : P.underlying T = some .bool) (p q : Bool) : aQ P (fq .eql T x y) (.sc (.bool p)) (.sc (.bool q)) = some (.sc (.bool (p == q))) := by
 have : aD P (do eqGuard .eql T x y (.bool p) (.bool q); binOp .eql T (.bool p) (.bool q)) = some (.bool (p == q)) := by
  show aD P ((Op.equal T (.bool p) (.bool q)) >>= fun r => Pure.pure (Value.bool r)) = _
  rw [aJ, yG hT]; rfl
 simp only [aQ,bp,fq,this]; rfl
theorem bJ {P : Program} {src dst : TypeId} {d : TypeDesc} {k' : IntKind} (hs : P.underlying src = some d) (hd : P.underlying dst = some (.int k')) (k : IntKind) (n : Int) : mW P (convert src dst) (.sc (.int k n)) = some (.sc (.int k' (k'.wrap n))) := by
 simp [mW, bp, convert, underlying, hs, hd, Conv.intToInt, aD, dj, bind, pure, Sem.bind, program]
end strings
end Go.Eng
end

section
namespace Go.Eng
variable [aE]
open Go.RowKit (Below)

theorem dk.cut {E E' : Env} {w w' : World} (h : dk E w E' w') {n : Nat} (hn : ∀ k, n ≤ k → ∀ v, E.aG k v = none) : dk E w (E'.cut n) w' := by
 refine ⟨⟨h.le.F, fun k v t hk => ?_⟩, fun k v g e c hk => ?_, h.F, h.os, h.tape, h.output, h.size, h.heap⟩
 ·have : k < n := by
   rcases Nat.lt_or_ge k n with aF | dg
   ·exact aF
   ·rw [hn k dg v] at hk; cases hk
  exact (if_pos this).trans (h.le.aG _ _ _ hk)
 ·have : E'.aG k v = some (g, e, c) := by
   by_cases gf : k < n
   ·exact ((if_pos gf).symm.trans hk : E'.aG k v = _)
   ·have h2 : (E'.cut n).aG k v = none := if_neg gf
    rw [h2] at hk; cases hk
  exact h.aG _ _ _ _ _ this

def iI (tt : Table) (rs : Array ResultVar) (st : St) : Option V :=
 match sO tt st rs.toList with
 | some [v] => some v
 | some vs => some (.bt vs)
 | none => none

theorem wO {P : Program} {tt : Table} (ht : TT P tt) {E : Env} {w : World} {a : Act} {st : St} (hs : aV E w a st) {fn : Func} {r : V} (h : iI tt fn.results st = some r) : ∃ x, (results fn a.tmps).run P w = .ok x w ∧ aT E r x := by
 unfold iI at h
 have run : ∀ xs : List Value, (fn.results.toList.mapM (fun | .tmp t => pure (a.tmps.getD t undef) | .cell p t => do loadVar t (← asAddr (a.tmps.getD p undef))) : Sem (List Value)).run P w = .ok xs w →
   (results fn a.tmps).run P w = .ok (if h : xs.toArray.size = 1 then xs.toArray[0] else .tuple xs.toArray) w := fun xs hx => by
  unfold results
  rw [Array.mapM_eq_mapM_toList]
  simp only [Sem.run_bind,Sem.run_map]
  erw [hx]
  rfl
 split at h
 ·rename_i v hv
  simp only [Option.some.injEq] at h; subst h
  obtain ⟨xs, h1, h2⟩ := iH ht hs _ _ hv
  obtain ⟨x, ys, rfl, h3, h4⟩ := h2.of_cons
  have := h4.of_nil; subst this
  exact ⟨x, run _ h1, h3⟩
 ·rename_i vs bD hv
  simp only [Option.some.injEq] at h; subst h
  obtain ⟨xs, h1, h2⟩ := iH ht hs _ _ hv
  have hl : xs.toArray.size ≠ 1 := by
   have := h2.1
   intro he
   match vs, xs, this, he with
   | [v], _, _, _ => exact bD v rfl
   | [], [], _, he => simp at he
   | [], _ :: _, h, _ => simp at h
   | _ :: _ :: _, [], h, _ => simp at h
   | _ :: _ :: _, _ :: [], h, _ => simp at h
   | _ :: _ :: _, _ :: _ :: _, _, he => simp at he
  have h3 := run _ h1
  rw [dif_neg hl] at h3
  exact ⟨_, h3, .bt _ _ _ (by simpa using h2.1) fun i c x hc hx => h2.2 i c x hc (by simpa using hx)⟩
 ·cases h

theorem GG {P : Program} {tt : Table} (ht : TT P tt) {f : FuncId} {fn : Func} {body : Code} {args : List V} {mem : List au} {R : V → List au → Prop} (hf : P.funcs[f]? = some fn) (hb : fn.body = some body)
  (du : ∀ (xs : Array Value) (w : World), (callFunc f xs).run P w = .ok (.enter f xs) w)
  (h : gA P none mem.length body (eh fn args mem) fun ex st' => (ex = .ret ∨ ex = .normal) ∧ ∃ r n, mem.length ≤ n ∧ iI tt fn.results st' = some r ∧ ai n r = true ∧ (st'.mem.take n).all (aB n) = true ∧ R r (st'.mem.take n)) : gH P f args mem R := by
 refine ⟨du, fun E w xs AH hx => yC (n := 0) (callsIn_of_wp_marks hf hb trivial ?_)⟩
 have hs : aV E w { tmps := xs ++ Array.replicate (fn.ntmps - xs.size) undef, defers := [] } (eh fn args mem) := ⟨AH.F, AH.lt, AH.mem, AH.top, AH.ay, AH.apart, qM fn hx⟩
 refine wpIn_mono (h E w AH.top E w _ (dk.refl _ w) hs (.nil _ _ _)) ?_
 rintro e a' w' ⟨E', st', h1, h2, ⟨rs, hd, kr, Gn⟩, he, r, n, hn, hr, Vd, JA, hR⟩
 have post : LeavesInM (WF none) 0 P fn a'.tmps (fun e w' => ∃ E' x r aA, e = .returned x ∧ R r aA ∧ dk E w E' w' ∧ aV E' w' { tmps := #[], defers := [] } { fr := [], mem := aA } ∧ aT E' r x) a'.defers .returning w' := by
  rw [hd]
  refine kz rs w' kr (fun r hr => (Gn r hr).2.1) fun w2 k1 k2 k3 k4 k5 => ?_
  have eD := h1.GD (fun r hr => (Gn r hr).2) k4 k5
  obtain ⟨x, h3, h4⟩ := wO ht eD hr
  have dm : dk E w E' w2 := ⟨h2.le, h2.aG, h2.F, k1.trans h2.os, k2.trans h2.tape, k3.trans h2.output, by rw [k4]; exact h2.size, fun b hb bD => (k5 b fun hY => by have := (Gn b hY).1; omega).trans (h2.heap b hb bD)⟩
  exact ⟨x, h3, E'.cut n, x, r, _, rfl, hR, dm.cut fun k hk v => AH.top k (by dsimp only; omega) v, eD.bare.cut (by rfl) JA, fi h4 Vd⟩
 rcases he with rfl | rfl <;> exact post

theorem GH {P : Program} {tt : Table} (ht : TT P tt) {f : FuncId} {fn : Func} {body : Code} {args : List V} {mem : List au} {r : V} {aA : List au} (n : Nat) (hn : mem.length ≤ n) (hf : P.funcs[f]? = some fn) (hb : fn.body = some body)
  (du : ∀ (xs : Array Value) (w : World), (callFunc f xs).run P w = .ok (.enter f xs) w)
  (h : gA P none mem.length body (eh fn args mem) fun ex st' => (ex = .ret ∨ ex = .normal) ∧ iI tt fn.results st' = some r ∧ ai n r = true ∧ (st'.mem.take n).all (aB n) = true ∧ aA = st'.mem.take n) : aR P f args mem r aA :=
 (GG ht hf hb du (R := fun r' m' => r' = r ∧ m' = aA) (h.mono fun ex st' ⟨h1, h2, h3, h4, h5⟩ => ⟨h1, r, n, hn, h2, h3, h4, rfl, h5.symm⟩)).Xs

def vj : List Tmp → List V → List V → List V
 | t :: ts, v :: vs, fr => vj ts vs (fr.set t v)
 | _, _, fr => fr
theorem vk {E : Env} : ∀ (ts : List Tmp) {vs : List V} {xs : List Value} {fr : List V} {tmps : Array Value}, aO E vs xs → aO E fr tmps.toList → aO E (vj ts vs fr) ((ts.zip xs).foldl (fun (tmps : Array Value) (p : Tmp × Value) => tmps.setIfInBounds p.1 p.2) tmps).toList
 | [], vs, xs, fr, tmps, _, h => by cases vs <;> exact h
 | t :: ts, [], xs, fr, tmps, hv, h => by rw [hv.of_nil]; exact h
 | t :: ts, v :: vs, xs, fr, tmps, hv, h => by
  obtain ⟨x, ys, rfl, h1, h2⟩ := hv.of_cons
  simp only [vj,List.zip_cons_cons,List.foldl_cons]
  exact vk ts h2 (by simpa using h.set t h1)

def A4 : Exit → Option (Option Code)
 | .normal => some none
 | .ret => some (some .ret)
 | .exit id => some (some (.exit id))
 | .goto l => some (some (.goto l))
 | _ => none

theorem wP {P : Program} {k : Nat} {fr vs : List V} {params : Array Tmp} {assign body : Code} {mem : List au} {R : Bool → List au → Prop} (hk : mem[k]? = some (.loop .ready none fr params assign body)) (hlen : vs.length = params.size)
  (h : ∀ l, gA P (some l) mem.length assign { fr := vj params.toList vs fr, mem := mem } fun ex st1 => ex = .normal ∧ ∃ MK p1 Ki Kj, st1.mem[k]? = some (.loop .ready none MK p1 Ki Kj) ∧
   gA P (some l) mem.length body { st1 with mem := st1.mem.set k (.loop .busy none MK p1 Ki Kj) } fun ex st2 => ∃ n jump s2 Uh Kk p2 GI GJ, mem.length ≤ n ∧ A4 ex = some jump ∧ st2.mem[k]? = some (.loop s2 Uh Kk p2 GI GJ) ∧
    ((st2.mem.set k (.loop (if jump.isNone then .ready else .done) jump Kk p2 GI GJ)).take n).all (aB n) = true ∧
    R jump.isNone ((st2.mem.set k (.loop (if jump.isNone then .ready else .done) jump Kk p2 GI GJ)).take n)) :
  Eu P k vs mem R := by
 intro E w xs l e c hs hx hb
 obtain ⟨l', fn, tmps, db, eO, hh, hr, hf⟩ := hs.mem k _ hk
 rw [hb] at eO; cases eO
 have eU : ∀ {W : World} {R : Loop}, W.heap[l]? = some (.loop R) → (Instr.getLoop l).run P W = .ok R W := fun {W R} hW => by
  simp [Instr.getLoop, getObj, Sem.run, hW, bind, Sem.bind, pure]
 have yF : ∀ {W : World} {R : Loop} {o : Obj}, W.heap[l]? = some (.loop R) → (setObj l o).run P W = .ok () { W with heap := W.heap.setIfInBounds l o } := fun {W R o} hW => by
  simp [setObj, Sem.run, hW]
 have yq : xs.size = params.size := by have := hx.1; simp at this; omega
 refine ⟨fn, (params.zip xs).foldl (fun tmps (p : Tmp × Value) => tmps.setIfInBounds p.1 p.2) tmps, assign, body, ?_, ?_⟩
 ·simp only [Instr.yield,Sem.run_bind,eU hh,Result.andThen_ok,yq,ne_eq,not_true_eq_false,if_false]
  rfl
 ·refine roundIn_of_wpIn trivial ?_
  have eS : aV E w { tmps := (params.zip xs).foldl (fun tmps (p : Tmp × Value) => tmps.setIfInBounds p.1 p.2) tmps, defers := [] } { fr := vj params.toList vs fr, mem := mem } := by
   refine ⟨hs.F, hs.lt, hs.mem, hs.top, hs.ay, hs.apart, ?_⟩
   have := vk (E := E) params.toList hx hr
   rw [← Array.foldl_toList, Array.toList_zip]
   exact this
  refine wpIn_mono (h l E w hs.top E w _ (dk.refl E w) eS (.nil _ _ _)) ?_
  rintro ex a1 w1 ⟨E1, st1, h1, h2, YO, rfl, MK, p1, Ki, Kj, fK, h3⟩
  obtain ⟨l1, Xy, ML, Xz, qG, QL, AV, QO⟩ := h1.mem k _ fK
  have Oe : E1.aG k 0 = some (l, 0, 0) := h2.le.aG _ _ _ hb
  rw [Oe] at qG; cases qG
  have only : ∀ (W : World) (o : Obj), oj W { W with heap := W.heap.setIfInBounds l o } l := fun W o => ⟨rfl, rfl, rfl, by simp, fun b hb => Array.getElem?_setIfInBounds_ne (fun e => hb e.symm)⟩
  have aF : ∀ {W : World} {o : Obj}, W.heap[l]? = some o → l < W.heap.size := fun {W o} hW => (Array.getElem?_eq_some_iff.1 hW).1
  have t1 := h1.yl fK rfl (B' := .loop .busy none MK p1 Ki Kj) rfl Oe QO (only w1 (.loop { state := .busy, pending := none, fn := Xy, tmps := ML, params := p1, assign := Ki, body := Kj, defers := Xz }))
   ⟨l, Xy, ML, Xz, Oe, by simp [aF QL], AV, QO⟩
  refine ⟨_, by simp [Instr.beginRound, eU QL, yF QL]; rfl, ?_⟩
  refine wpIn_mono (h3 E w hs.top E1 _ a1 (h2.trans t1.2) t1.1 ?_) ?_
  ·exact YO.F1 t1.2
  ·rintro ex a2 w2 ⟨E2, st2, h4, h5, -, n, jump, s2, Uh, Kk, p2, GI, GJ, rv, hj, kC, JA, hR⟩
   obtain ⟨l2, Ve, GK, Vf, sC, MC, Eo, RC⟩ := h4.mem k _ kC
   have Of : E2.aG k 0 = some (l, 0, 0) := h5.le.aG _ _ _ hb
   rw [Of] at sC; cases sC
   have t2 := h4.yl kC rfl (B' := .loop (if jump.isNone then .ready else .done) jump Kk p2 GI GJ) rfl Of RC
    (only w2 (.loop { state := if jump.isNone then .ready else .done, pending := jump, fn := Ve, tmps := GK, params := p2, assign := GI, body := GJ, defers := Vf })) ⟨l, Ve, GK, Vf, Of, by simp [aF MC], Eo, RC⟩
   have run : (Instr.endRound l jump).run P w2 = .ok (.bool jump.isNone) { w2 with heap := w2.heap.setIfInBounds l (.loop { state := if jump.isNone then .ready else .done, pending := jump, fn := Ve, tmps := GK, params := p2, assign := GI, body := GJ, defers := Vf }) } := by
    simp [Instr.endRound, eU MC, yF MC]
   have fin : ∃ v w', (Instr.endRound l jump).run P w2 = .ok v w' ∧ ∃ E' b aA, Ending.returned v = .returned (.bool b) ∧ R b aA ∧ dk E w E' w' ∧ aV E' w' { tmps := #[], defers := [] } { fr := [], mem := aA } :=
    ⟨_, _, run, E2.cut n, _, _, rfl, hR, (h5.trans t2.2).cut (fun k hk v => hs.top k (Nat.le_trans rv hk) v), t2.1.bare.cut (by rfl) JA⟩
   cases ex <;> simp only [A4,Option.some.injEq,reduceCtorEq] at hj <;> subst hj <;> exact fin


theorem sR {P : Program} {n0 : Nat} {st : St} {Q : Exit → St → Prop} {f : Operand} {params : Array Tmp} {assign body : Code} {g : FuncId} {vs : List V} {R : V → List au → Prop} (hc : ba (st.eval f) [.ik st.mem.length] = some (g, vs))
  (Ui : gH P g vs (st.mem ++ [.loop .ready none st.fr params assign body]) R)
  (hq : ∀ r A5, R r A5 → ∃ s jr Uj MM MN MO, A5[st.mem.length]? = some (.loop s jr Uj MM MN MO) ∧ s ≠ .busy ∧ (match jr with | none => Q .normal { st with mem := A5.set st.mem.length .dead } | some c => gA P none n0 c { st with mem := A5.set st.mem.length .dead } Q)) :
  gA P none n0 (.rangeFunc f params assign body) st Q := fun E0 w0 h0 E w a he hs uG => by
 refine wpIn_rangeFunc fun fn _ => ?_
 -- dM Vg block, dM Vh record
 let w1 : World := w.alloc (.deferred (some []))
 let L : Loop := { state := .ready, pending := none, fn := fn, tmps := a.tmps, params := params, assign := assign, body := body, defers := w.heap.size }
 let w2 : World := w1.alloc (.loop L)
 have gf : ∀ v, E.aG st.mem.length v = none := hs.top _ (Nat.le_refl _)
 have hle : E.le (E.with st.mem.length 0 (w.heap.size + 1, 0, 0)) := Env.gx (gf 0) _
 have bX : (E.with st.mem.length 0 (w.heap.size + 1, 0, 0)).aG st.mem.length 0 = some (w.heap.size + 1, 0, 0) := if_pos ⟨rfl, rfl⟩
 have hblk : ∀ k v, ¬ (k = st.mem.length ∧ v = 0) → (E.with st.mem.length 0 (w.heap.size + 1, 0, 0)).aG k v = E.aG k v := fun k v h => if_neg h
 have hold : ∀ b, b < w.heap.size → w2.heap[b]? = w.heap[b]? := fun b hb => (Go.RowKit.Below.heap_alloc w1 _ b (by simp [w1]; omega)).trans (Go.RowKit.Below.heap_alloc w _ b hb)
 have Ew : w2.heap[w.heap.size + 1]? = some (.loop L) := by
  have : w1.heap.size = w.heap.size + 1 := by simp [w1]
  show (w1.alloc (.loop L)).heap[w.heap.size + 1]? = _
  rw [← this]; exact heap_alloc_new w1 _
 have dm : dk E w (E.with st.mem.length 0 (w.heap.size + 1, 0, 0)) w2 := by
  refine ⟨hle, fun k v g e c hk => ?_, fun ad x hx => .inl hx, rfl, rfl, rfl, by simp [w2, w1]; omega, fun b hb _ => hold b hb⟩
  by_cases bS : k = st.mem.length ∧ v = 0
  ·obtain ⟨rfl, rfl⟩ := bS; rw [bX] at hk; cases hk; exact .inr (by omega)
  ·rw [hblk k v bS] at hk; exact .inl ⟨_, _, _, _, hk⟩
 have YP : ∀ o, E.F ⟨w.heap.size + 1, o, none⟩ = none := fun o => by
  cases hx : E.F ⟨w.heap.size + 1, o, none⟩ with
  | none => rfl
  | some x => have := World.block_lt_of_cell? w _ (hs.F _ _ hx); simp at this; omega
 have eD : aV (E.with st.mem.length 0 (w.heap.size + 1, 0, 0)) w2 { tmps := #[], defers := [] } { fr := [], mem := st.mem ++ [.loop .ready none st.fr params assign body] } := by
  have eU : ∀ {k : Nat} {B : au}, (st.mem ++ [au.loop .ready none st.fr params assign body])[k]? = some B → (k < st.mem.length ∧ st.mem[k]? = some B) ∨ (k = st.mem.length ∧ B = .loop .ready none st.fr params assign body) := fun {k B} h => by
   rw [List.getElem?_append] at h
   split at h
   ·rename_i aF; exact .inl ⟨aF, h⟩
   ·have MQ : k - st.mem.length = 0 := by
     rcases Nat.eq_zero_or_pos (k - st.mem.length) with h0 | h0
     ·exact h0
     ·rw [List.getElem?_eq_none (by simp; omega)] at h; cases h
    rw [MQ] at h; simp at h
    exact .inr ⟨by omega, h.symm⟩
  refine ⟨fun ad x hx => ?_, fun k v g e c hk => ?_, fun k B hk => ?_, fun k hk v => ?_, fun k B hk v hv => ?_, fun k k' v v' g e1 c1 e2 c2 h5 h6 => ?_, .nil _⟩
  ·have hc := hs.F ad x hx
   rw [← hc]; simp [World.cell?, hold _ (World.block_lt_of_cell? w ad hc)]
  ·by_cases bS : k = st.mem.length ∧ v = 0
   ·obtain ⟨rfl, rfl⟩ := bS; rw [bX] at hk; cases hk; simp [w2, w1]
   ·rw [hblk k v bS] at hk; have := hs.lt _ _ _ _ _ hk; simp [w2, w1]; omega
  ·rcases eU hk with ⟨aF, eQ⟩ | ⟨rfl, rfl⟩
   ·exact (hs.mem k B eQ).mono hle (fun v h => by rw [hblk k v (by omega)]; exact h) (fun g e c h => hold g (hs.lt _ _ _ _ _ h)) fun _ _ _ _ _ h => h
   ·exact ⟨w.heap.size + 1, fn, a.tmps, w.heap.size, bX, Ew, hs.fr.mono hle, YP⟩
  ·dsimp only at hk
   simp at hk
   rw [hblk k v (by omega)]; exact hs.top k (by omega) v
  ·rcases eU hk with ⟨aF, eQ⟩ | ⟨rfl, rfl⟩
   ·rw [hblk k v (by omega)]; exact hs.ay k B eQ v hv
   ·rw [hblk _ v (by simp [au.ay] at hv; omega)]; exact gf v
  ·by_cases bS : k = st.mem.length ∧ v = 0 <;> by_cases wq : k' = st.mem.length ∧ v' = 0
   ·rw [bS.1, wq.1]
   ·obtain ⟨rfl, rfl⟩ := bS; rw [bX] at h5; cases h5; rw [hblk k' _ wq] at h6; have := hs.lt _ _ _ _ _ h6; omega
   ·obtain ⟨rfl, rfl⟩ := wq; rw [bX] at h6; cases h6; rw [hblk k _ bS] at h5; have := hs.lt _ _ _ _ _ h5; omega
   ·rw [hblk k _ bS] at h5; rw [hblk k' _ wq] at h6
    exact hs.apart _ _ _ _ _ _ _ _ _ h5 h6
 have Eh : aO (E.with st.mem.length 0 (w.heap.size + 1, 0, 0)) [.ik st.mem.length] (#[Value.func (.yield (w.heap.size + 1)) #[] #[]] : Array Value).toList := .cons (.ik _ _ _ 0 0 bX) (.nil _)
 obtain ⟨d, ys, hy, NY, Ev⟩ := sJ (P := P) (w := w2) ((hs.eval f).mono hle) Eh hc
 have Vi := uG.F1 dm
 refine ⟨w.heap.size + 1, [{ target := .collected w.heap.size, args := #[] }], w2, d, w2, g, ys, w2, ?_, ?_, fun _ _ => trivial, Ev.trans (Ui.1 ys w2), fun h => by simp [WF] at h, ?_⟩
 ·exact run_enterLoop_outer _ _ _ _ _
 ·refine Eq.trans ?_ NY
  simp only [rangeCall,resolve]
  simp [Act.eval]
 ·refine sK ((Ui.2 _ w2 ys eD hy).mono ?_)
  rintro e w3 ⟨E3, x, r, A5, rfl, YQ, GL, AI, -⟩
  obtain ⟨s, jr, Uj, MM, MN, MO, Og, RM, MR⟩ := hq r A5 YQ
  obtain ⟨l3, Uk, C4, Ul, QS, Vj, yI, Uf⟩ := AI.mem _ _ Og
  have RO : E3.aG st.mem.length 0 = some (w.heap.size + 1, 0, 0) := GL.le.aG _ _ _ bX
  rw [RO] at QS; cases QS
  have YR : w.heap.size + 1 < w3.heap.size := (Array.getElem?_eq_some_iff.1 Vj).1
  have YS : (s == LoopState.busy) = false := by cases s <;> first | rfl | exact absurd rfl RM
  have Vk := hs.yz AI (Env.le_trans hle GL.le)
  have t := Vk.yl Og rfl (B' := .dead) rfl RO Uf (w' := { w3 with heap := w3.heap.setIfInBounds (w.heap.size + 1) (.loop { state := .exhausted, pending := jr, fn := Uk, tmps := C4, params := MM, assign := MN, body := MO, defers := Ul }) })
   ⟨rfl, rfl, rfl, by simp, fun b hb => Array.getElem?_setIfInBounds_ne (fun e => hb e.symm)⟩ trivial
  have RQ : dk E0 w0 E3 _ := (he.trans (dm.trans GL)).trans t.2
  have RR : Marks E3 { w3 with heap := w3.heap.setIfInBounds (w.heap.size + 1) (.loop { state := .exhausted, pending := jr, fn := Uk, tmps := C4, params := MM, assign := MN, body := MO, defers := Ul }) } w0.heap.size ({ target := .collected w.heap.size, args := #[] } :: a.defers) := by
   obtain ⟨rs, m1, m2, m3⟩ := (Vi.F1 GL).F1 t.2
   have RS : w2.heap[w.heap.size]? = some (.deferred (some [])) := (Go.RowKit.Below.heap_alloc w1 _ _ (by simp [w1])).trans (heap_alloc_new w _)
   have FY : ∀ k v e c, (E.with st.mem.length 0 (w.heap.size + 1, 0, 0)).aG k v ≠ some (w.heap.size, e, c) := fun k v e c hk => by
    by_cases bS : k = st.mem.length ∧ v = 0
    ·obtain ⟨rfl, rfl⟩ := bS; rw [bX] at hk; simp at hk
    ·rw [hblk k v bS] at hk; have := hs.lt _ _ _ _ _ hk; omega
   have one : Marks (E.with st.mem.length 0 (w.heap.size + 1, 0, 0)) w2 w0.heap.size [{ target := .collected w.heap.size, args := #[] }] := ⟨[w.heap.size], rfl, by simp, fun r hr => by
    simp at hr; subst hr; exact ⟨he.size, RS, FY⟩⟩
   obtain ⟨rs', n1, n2, n3⟩ := (one.F1 GL).F1 t.2
   have NH : rs' = [w.heap.size] := by
    match rs', n1 with
    | [r], h => simp at h; rw [h]
    | [], h => simp at h
    | _ :: _ :: _, h => simp at h
   subst NH
   refine ⟨w.heap.size :: rs, by rw [m1]; rfl, ?_, fun r hr => ?_⟩
   ·rw [List.nodup_cons]
    refine ⟨fun hY => ?_, m2⟩
    -- an elder mark bd below
    obtain ⟨Ud, q1, q2, q3⟩ := uG
    have uk : rs = Ud := by
     have := m1.symm.trans q1
     have inj : ∀ (xs ys : List Nat), xs.map (fun r => ({ target := .collected r, args := #[] } : Deferred)) = ys.map (fun r => { target := .collected r, args := #[] }) → xs = ys := by
      intro xs
      induction xs with
      | nil => intro ys h; cases ys with | nil => rfl | cons y ys => simp at h
      | cons x xs ih => intro ys h; cases ys with | nil => simp at h | cons y ys => simp at h; rw [h.1, ih ys (by simpa using h.2)]
     exact inj _ _ this
    subst uk
    have := (q3 _ hY).2.1
    rw [Array.getElem?_eq_none (Nat.le_refl _)] at this; cases this
   ·rcases List.mem_cons.1 hr with rfl | hr
    ·exact n3 _ (by simp)
    ·exact m3 r hr
  refine ⟨jr, { w3 with heap := w3.heap.setIfInBounds (w.heap.size + 1) (.loop { state := .exhausted, pending := jr, fn := Uk, tmps := C4, params := MM, assign := MN, body := MO, defers := Ul }) }, ?_, ?_⟩
  ·have hg : (Instr.getLoop (w.heap.size + 1)).run P w3 = .ok { state := s, pending := jr, fn := Uk, tmps := C4, params := MM, assign := MN, body := MO, defers := Ul } w3 := by
    simp [Instr.getLoop, getObj, Sem.run, Vj, bind, Sem.bind, pure]
   simp only [Instr.endLoop,Sem.run_bind,hg,Result.andThen_ok,YS,Bool.false_eq_true,if_false]
   simp [setObj, Sem.run, Vj]
  ·cases jr with
   | none => exact ⟨E3, _, ⟨t.1.F, t.1.lt, t.1.mem, t.1.top, t.1.ay, t.1.apart, t.1.fr⟩, RQ, RR, MR⟩
   | some c => exact MR E0 w0 h0 E3 _ { a with defers := { target := .collected w.heap.size, args := #[] } :: a.defers } RQ ⟨t.1.F, t.1.lt, t.1.mem, t.1.top, t.1.ay, t.1.apart, t.1.fr⟩ RR
end Go.Eng
end

section
namespace Go.Eng
variable [aE]
open Go.RowKit (Below)

inductive YT where
 | n | r | a | w | s | b | z | e
 deriving DecidableEq
structure Pl where
 cls : YT
 key : Nat
 mask : List Nat
 MT : List Nat := []
 abs : List Nat := []

def yJ (m : List au) (k : Nat) : List au := match m[k]? with
 | some B => if B.ay = 0 then m.set k .dead else m
 | none => m
def dc : List Nat → List au → List au
 | [], m => m
 | k :: r, m => dc r (yJ m k)
def gW (b : Bool) (B : au) : au := if b = true ∧ B.ay = 0 then .dead else B
theorem Ey (m : List au) (k q : Nat) : (yJ m k)[q]? = (m[q]?).map (gW (q == k)) := by
 unfold yJ
 by_cases hq : q = k
 ·subst hq
  cases h : m[q]? with
  | none => simp [h]
  | some B =>
   have aF : q < m.length := (List.getElem?_eq_some_iff.1 h).1
   simp only [beq_self_eq_true,Option.map_some,gW,true_and]
   split
   ·rename_i hv; simp [List.getElem?_set, aF]
   ·rename_i hv; exact h
 ·have hb : (q == k) = false := by simpa using hq
  have hid : (m[q]?).map (gW (q == k)) = m[q]? := by rw [hb]; cases m[q]? <;> simp [gW]
  rw [hid]
  cases h : m[k]? with
  | none => rfl
  | some B =>
   dsimp only
   split
   ·exact List.getElem?_set_ne (fun e => hq e.symm)
   ·rfl
theorem uI (b c : Bool) (B : au) : gW b (gW c B) = gW (b || c) B := by
 have hd : au.dead.ay = 0 := rfl
 unfold gW
 cases b <;> cases c <;> by_cases hv : B.ay = 0 <;> simp [hv, hd]
theorem mo : ∀ (ks : List Nat) (m : List au) (q : Nat), (dc ks m)[q]? = (m[q]?).map (gW (ks.contains q))
 | [], m, q => by cases h : m[q]? <;> simp [dc, h, gW]
 | k :: r, m, q => by
  rw [dc, mo r, Ey]
  cases m[q]? with
  | none => rfl
  | some B =>
   simp only [Option.map_some,uI,List.contains_cons]
   rw [Bool.or_comm]
theorem oz : ∀ (ks : List Nat) (m : List au), (dc ks m).length = m.length
 | [], m => rfl
 | k :: r, m => by
  rw [dc, oz r]
  unfold yJ
  split
  ·split <;> simp
  ·rfl
theorem mq {ks : List Nat} {m : List au} {k : Nat} {B0 B : au} (hk : k ∈ ks) (hm : m[k]? = some B0) (h0 : B0.ay = 0) (hB : B.ay = 0) : dc ks (m.set k B) = dc ks m := by
 refine List.ext_getElem? fun q => ?_
 rw [mo, mo]
 by_cases hq : q = k
 ·subst hq
  have aF : q < m.length := (List.getElem?_eq_some_iff.1 hm).1
  have hc : ks.contains q = true := by simpa using hk
  rw [List.getElem?_set, if_pos rfl, if_pos aF, hm]
  simp [gW, hB, h0, hk]
 ·rw [List.getElem?_set_ne (fun e => hq e.symm)]

theorem aV.dc {E : Env} {w : World} {a : Act} {st : St} (hs : aV E w a st) (ks : List Nat) : aV E w a { st with mem := Eng.dc ks st.mem } := by
 have get : ∀ {k : Nat} {B : au}, (Eng.dc ks st.mem)[k]? = some B → ∃ B0 : au, st.mem[k]? = some B0 ∧ (B = B0 ∨ B = au.dead ∧ B0.ay = 0) := fun {k B} h => by
  rw [mo] at h
  cases h0 : st.mem[k]? with
  | none => rw [h0] at h; cases h
  | some B0 =>
   rw [h0] at h
   simp only [Option.map_some,Option.some.injEq] at h
   refine ⟨B0, rfl, ?_⟩
   unfold gW at h
   split at h
   ·rename_i hc; exact .inr ⟨h.symm, hc.2⟩
   ·exact .inl h.symm
 refine ⟨hs.F, hs.lt, fun k B hk => ?_, fun k hk => hs.top k (by simpa [oz] using hk), fun k B hk v hv => ?_, hs.apart, hs.fr⟩
 ·obtain ⟨B0, h0, rfl | ⟨rfl, -⟩⟩ := get hk
  ·exact hs.mem k _ h0
  ·trivial
 ·obtain ⟨B0, h0, rfl | ⟨rfl, h1⟩⟩ := get hk
  ·exact hs.ay k _ h0 v hv
  ·exact hs.ay k _ h0 v (by rw [h1]; exact hv)

/-! ### what one operation makes -/

def wQ (P : Program) (f : FuncId) (vs : List V) (r : V) : Prop := aP P f vs r ∨ sI P f vs r
def RT (P : Program) (f : FuncId) (vs : List V) (Q : V → Prop) : Prop := ∃ vs' r, cj [] vs = some vs' ∧ wQ P f vs' r ∧ Q r

def ry (P : Program) (tt : Table) (o : Oper) (st : St) : Option V :=
 match o.op with
 | .build T parts => gV P tt T parts.toList st.eval
 | .buildSlice T len parts => match pE tt T len parts.toList st.eval with
  | some (_, rs) => some (.slice rs)
  | none => none
 | _ => fR P tt st o
def mP (P : Program) (tt : Table) (o : Oper) (st : St) (Q : V → Prop) : Prop :=
 match o.op with
 | .call { callee := .value f, args := xs, .. } => match ba (st.eval f) (xs.toList.map st.eval) with
  | some (g, vs) => RT P g vs Q
  | none => False
 | _ => match ry P tt o st with
  | some v => Q v
  | none => False
def RU (P : Program) (f : FuncId) (vs : List V) (st : St) (dst : Option Tmp) (Q : St → Prop) : Prop := ∃ vs' r, cj [] vs = some vs' ∧ wQ P f vs' r ∧ Q (st.put dst r)
def wR (P : Program) (tt : Table) (o : Oper) (uJ st : St) (Q : St → Prop) : Prop :=
 match o.op with
 | .call { callee := .value f, args := xs, .. } => match ba (uJ.eval f) (xs.toList.map uJ.eval) with
  | some (g, vs) => RU P g vs st o.dst Q
  | none => False
 | _ => match ry P tt o uJ with
  | some v => Q (st.put o.dst v)
  | none => False
theorem rN {P : Program} {tt : Table} {o : Oper} {uJ st : St} {Q : St → Prop} : wR P tt o uJ st Q = mP P tt o uJ fun v => Q (st.put o.dst v) := by
 unfold wR mP
 split <;> rfl
def dZ (tt : Table) (o : Oper) (key : Nat) (st : St) : Option (au × V) :=
 match o.op with
 | .alloc T => match tt T with
  | some i => some (.box (i.zero.map V.sc), .ptr key 0)
  | none => none
 | .box _ x => match fH (st.eval x) with
  | some cs => some (.box cs, .ptr key 0)
  | none => none
 | .buildSlice T len parts => match pE tt T len parts.toList st.eval with
  | some (size, rs) => some (.rows 0 size rs, .ms key 0 0 len)
  | none => none
 | .makeMap _ none => some (.map [] 0, .mp key)
 | .makeSlice T l c => match qF tt T (st.eval l) (st.eval c) with
  | some (size, rs, _) => some (.rows 0 size rs, .ms key 0 0 rs.length)
  | none => none
 | _ => none
def oA (P : Program) (tt : Table) (key : Nat) (o : Oper) (st : St) : Option (List au × V) :=
 match o.op with
 | .store T p x => match gU tt st.mem T (st.eval p) (st.eval x) with
  | some aA => some (aA, .sc undef)
  | none => none
 | .call { callee := .builtin .append, args := xs, argTypes := ts } => match xs.toList.map st.eval with
  | [s, x] => match dn tt st.mem ts.toList s x with
   | some (size, nZ, rows) => some (ct st.mem key size rows nZ)
   | none => none
  | _ => none
 | .mapUpdate T m k x => match ch P st.mem T (st.eval m) (st.eval k) (st.eval x) with
  | some aA => some (aA, .sc undef)
  | none => none
 | .insert T m k x => match ch P st.mem T (st.eval m) (st.eval k) (st.eval x) with
  | some aA => some (aA, .sc undef)
  | none => none
 | _ => none
def rz (tt : Table) (key : Nat) (o : Oper) (st : St) : Option (List au) :=
 match o.op with
 | .store T p x => match st.eval p with
  | .ptr b off => if b = key then gU tt st.mem T (.ptr key off) (st.eval x) else none
  | _ => none
 | _ => none
def isHole (mem : List au) (k : Nat) : Bool := match mem[k]? with | some .hole => true | _ => false
theorem gg {mem : List au} {k : Nat} : isHole mem k = true ↔ mem[k]? = some .hole := by
 unfold isHole
 split
 ·rename_i h; simp [h]
 ·rename_i h; simp; exact fun e => h e

def sS (P : Program) (f : FuncId) (vs : List V) (e : Nat) (rs : List V) : Prop := ∃ v, aR P f vs [] (.ms 0 v 0 rs.length) [.rows v e rs]
def kW (P : Program) (o : Oper) (ev : Operand → V) (Q : Nat → List V → Prop) : Prop :=
 match o.op with
 | .call { callee := .value f, args := xs, .. } => match ba (ev f) (xs.toList.map ev) with
  | some (g, vs) => ∃ vs' e rs, cj [] vs = some vs' ∧ sS P g vs' e rs ∧ Q e rs
  | none => False
 | _ => False
theorem il {P : Program} {o : Oper} {ev : Operand → V} {Q : Nat → List V → Prop} : kW P o ev Q ↔ ∃ e rs, kW P o ev (fun e' rs' => e' = e ∧ rs' = rs) ∧ Q e rs := by
 unfold kW
 split
 ·split
  ·constructor
   ·rintro ⟨vs', e, rs, h1, h2, h3⟩; exact ⟨e, rs, ⟨vs', e, rs, h1, h2, rfl, rfl⟩, h3⟩
   ·rintro ⟨e, rs, ⟨vs', e', rs', h1, h2, h3, h4⟩, h5⟩; subst h3; subst h4; exact ⟨vs', _, _, h1, h2, h5⟩
  ·exact ⟨fun h => h.elim, fun ⟨_, _, h, _⟩ => h⟩
 ·exact ⟨fun h => h.elim, fun ⟨_, _, h, _⟩ => h⟩
def sT (st : St) (key : Nat) (dst : Option Tmp) (e : Nat) (rs : List V) : St := { st with mem := st.mem.set key (.rows 0 e rs) }.put dst (.ms key 0 0 rs.length)
def RV (P : Program) (f : FuncId) (vs : List V) (st : St) (key : Nat) (dst : Option Tmp) (Q : St → Prop) : Prop := ∃ vs' e rs, cj [] vs = some vs' ∧ sS P f vs' e rs ∧ Q (sT st key dst e rs)
def nA (P : Program) (o : Oper) (key : Nat) (st : St) (Q : St → Prop) : Prop :=
 match o.op with
 | .call { callee := .value f, args := xs, .. } => match ba (st.eval f) (xs.toList.map st.eval) with
  | some (g, vs) => RV P g vs st key o.dst Q
  | none => False
 | _ => False
theorem vl {P : Program} {o : Oper} {key : Nat} {st : St} {Q : St → Prop} : nA P o key st Q = kW P o st.eval fun e rs => Q (sT st key o.dst e rs) := by
 unfold nA kW
 split <;> rfl
def cP : au → au
 | .box cs => .box cs
 | _ => .dead
def kX (tt : Table) (o : Oper) (st : St) : Option V :=
 match o.op with
 | .load T x => kS tt (st.mem.map cP) T (st.eval x)
 | _ => none
def isApp (o : Oper) : Bool := match o.op with | .call { callee := .builtin .append, .. } => true | _ => false
def C5 (o : Oper) : Bool := match o.op with | .alloc _ => false | .box _ _ => false | _ => true
theorem Ez {P : Program} {tt : Table} {o : Oper} {st : St} {v : V} (h : kX tt o st = some v) : fR P tt st o = some v := by
 unfold kX at h
 split at h
 ·rename_i T x ho
  unfold fR
  rw [ho]
  dsimp only
  unfold kS at h ⊢
  split
  ·rename_i b off he
   rw [he] at h
   dsimp only at h
   rw [List.getElem?_map] at h
   cases hb : st.mem[b]? with
   | none => rw [hb] at h; simp at h
   | some B =>
    rw [hb] at h
    cases B <;> simp [cP] at h <;> exact h
  ·rename_i b ay i off he
   rw [he] at h
   dsimp only at h
   have : rowOf (st.mem.map cP) b ay i = none := by
    unfold rowOf
    rw [List.getElem?_map]
    cases hb : st.mem[b]? with
    | none => rfl
    | some B => cases B <;> rfl
   rw [this] at h; cases h
  ·rename_i cs he
   rw [he] at h; exact h
  ·rename_i h1 h2 h3
   split at h
   ·rename_i he; exact absurd he (h1 _ _)
   ·rename_i he; exact absurd he (h2 _ _ _ _)
   ·rename_i he; exact absurd he (h3 _)
   ·cases h
 ·cases h
theorem yK {tt : Table} {mem : List au} {ts : List TypeId} {s x : V} {size b ay : Nat} {rows : List V} (h : dn tt mem ts s x = some (size, some (b, ay), rows)) : ∃ e rs, mem[b]? = some (.rows ay e rs) := by
 have hl : ∀ {sz : Nat} {rs : List V}, lA mem sz s = some (some (b, ay), rs) → ∃ e rs, mem[b]? = some (.rows ay e rs) := fun {sz rs} h => by
  unfold lA at h
  split at h
  ·cases h
  ·split at h <;> cases h
  ·split at h
   ·rename_i v' e rs' hb
    split at h
    ·rename_i hc
     simp only [Option.some.injEq,Prod.mk.injEq] at h
     obtain ⟨⟨rfl, rfl⟩, rfl⟩ := h
     exact ⟨_, _, by rw [hb, hc.1]⟩
    ·cases h
   ·cases h
  ·cases h
 unfold dn at h
 split at h
 ·split at h
  ·split at h
   ·split at h
    ·split at h
     ·split at h
      ·split at h
       ·rename_i nZ rs Vl
        split at h
        ·split at h
         ·split at h
          case isFalse => cases h
          simp only [Option.some.injEq,Prod.mk.injEq] at h
          obtain ⟨-, rfl, -⟩ := h
          exact hl Vl
         ·cases h
        ·cases h
       ·cases h
      ·cases h
     ·cases h
    ·cases h
   ·cases h
  ·cases h
 ·cases h
theorem GM {P : Program} {tt : Table} {key : Nat} {o : Oper} {st : St} {m : List au} {v : V} (ha : isApp o = true) (hh : st.mem[key]? = some .hole) (h : oA P tt key o st = some (m, v)) : m.map cP = st.mem.map cP := by
 have yF : ∀ (k : Nat) (B0 B : au), st.mem[k]? = some B0 → cP B = cP B0 → (st.mem.set k B).map cP = st.mem.map cP := fun k B0 B h0 hB => by
  apply List.ext_getElem?
  intro q
  rw [List.getElem?_map, List.getElem?_map, List.getElem?_set]
  split
  ·rename_i hq; subst hq
   rw [if_pos (List.getElem?_eq_some_iff.1 h0).1, h0, Option.map_some, Option.map_some, hB]
  ·rfl
 unfold isApp at ha
 split at ha
 ·rename_i ho
  unfold oA at h
  rw [ho] at h
  dsimp only at h
  split at h
  ·split at h
   ·rename_i size nZ rows Vm
    simp only [Option.some.injEq] at h
    cases nZ with
    | none =>
     simp only [ct,Prod.mk.injEq] at h
     obtain ⟨rfl, -⟩ := h
     unfold aX
     rw [if_pos (List.getElem?_eq_some_iff.1 hh).1]
     exact yF _ _ _ hh rfl
    | some p =>
     obtain ⟨b, ay⟩ := p
     simp only [ct,Prod.mk.injEq] at h
     obtain ⟨rfl, -⟩ := h
     have hb : ∃ e rs, st.mem[b]? = some (.rows ay e rs) := by
      exact yK Vm
     obtain ⟨e, rs, hb⟩ := hb
     exact yF _ _ _ hb rfl
   ·cases h
  ·cases h
 ·cases ha
def lK (P : Program) (o : Oper) (st : St) (Q : St → Prop) : Prop :=
 match o.op with
 | .call { callee := .value f, args := xs, .. } => match ba (st.eval f) (xs.toList.map st.eval) with
  | some (g, vs) => ∃ vs' r, cj st.mem vs = some vs' ∧ aP P g vs' r ∧ Q ({ st with mem := cI st.mem (vs.flatMap ck) r }.put o.dst r)
  | none => False
 | _ => False
theorem sU {P : Program} {o : Oper} {st : St} {K K' : St → Prop} (h : lK P o st K) (hk : ∀ s, K s → K' s) : lK P o st K' := by
 unfold lK at h ⊢
 split at h
 ·split at h
  ·obtain ⟨vs', r, h1, h2, h3⟩ := h
   exact ⟨vs', r, h1, h2, hk _ h3⟩
  ·exact h.elim
 ·exact h.elim
def A6 (P : Program) (g : FuncId) (vs : List V) (k : Nat) (st : St) (dst : Option Tmp) (Q : St → Prop) : Prop :=
 ∃ v B0 B, B0.ay = 0 ∧ B.ay = 0 ∧ st.mem[k]? = some B0 ∧ (∀ mem : List au, mem[k]? = some B0 → aR P g vs mem v (mem.set k B)) ∧ Q ({ st with mem := st.mem.set k B }.put dst v)
def vm (P : Program) (o : Oper) (k : Nat) (st : St) (Q : St → Prop) : Prop :=
 match o.op with
 | .call { callee := .value f, args := xs, .. } => match ba (st.eval f) (xs.toList.map st.eval) with
  | some (g, vs) => A6 P g vs k st o.dst Q
  | none => False
 | _ => False
def uK (P : Program) (o : Oper) (k : Nat) (st : St) (v : V) (m : List au) : Prop :=
 match o.op with
 | .call { callee := .value f, args := xs, .. } => match ba (st.eval f) (xs.toList.map st.eval) with
  | some (g, vs) => ∃ B0 B, B0.ay = 0 ∧ B.ay = 0 ∧ st.mem[k]? = some B0 ∧ (∀ mem : List au, mem[k]? = some B0 → aR P g vs mem v (mem.set k B)) ∧ m = st.mem.set k B
  | none => False
 | _ => False
theorem EA {P : Program} {o : Oper} {k : Nat} {st : St} {Q : St → Prop} : vm P o k st Q ↔ ∃ v m, uK P o k st v m ∧ Q ({ st with mem := m }.put o.dst v) := by
 unfold vm uK
 split
 ·split
  ·constructor
   ·rintro ⟨v, B0, B, h1, h2, h3, h4, h5⟩; exact ⟨v, _, ⟨B0, B, h1, h2, h3, h4, rfl⟩, h5⟩
   ·rintro ⟨v, m, ⟨B0, B, h1, h2, h3, h4, rfl⟩, h5⟩; exact ⟨v, B0, B, h1, h2, h3, h4, h5⟩
  ·exact ⟨fun h => h.elim, fun ⟨_, _, h, _⟩ => h.elim⟩
 ·exact ⟨fun h => h.elim, fun ⟨_, _, h, _⟩ => h.elim⟩
theorem A7 {P : Program} {o : Oper} {k : Nat} {st st' : St} {v : V} {m : List au} (h : ∀ x ∈ o.op.operands, st.eval x = st'.eval x) (hm : st.mem = st'.mem) : uK P o k st v m = uK P o k st' v m := by
 unfold uK
 split
 ·rename_i f xs ts heq
  rw [heq] at h
  have jm : xs.toList.map st.eval = xs.toList.map st'.eval := List.map_congr_left fun x hx => h x (by simp [Op.operands, Call.operands]; exact .inr (by simpa using hx))
  have hf : st.eval f = st'.eval f := h f (by simp [Op.operands, Call.operands])
  rw [jm, hf, hm]
 ·rfl
theorem GN {P : Program} {o : Oper} {k : Nat} {st : St} {v : V} {m : List au} (h : uK P o k st v m) : ∃ B0 B : au, B0.ay = 0 ∧ B.ay = 0 ∧ st.mem[k]? = some B0 ∧ m = st.mem.set k B ∧ ∀ mem : List au, mem[k]? = some B0 → uK P o k { st with mem := mem } v (mem.set k B) := by
 have ev : ∀ (mem : List au), St.eval { st with mem := mem } = st.eval := fun mem => funext fun x => by cases x <;> rfl
 unfold uK at h
 split at h
 ·rename_i f xs ts heq
  split at h
  ·rename_i g vs hg
   obtain ⟨B0, B, h1, h2, h3, h4, h5⟩ := h
   refine ⟨B0, B, h1, h2, h3, h5, fun mem hm => ?_⟩
   unfold uK
   simp only [heq,ev,hg]
   exact ⟨B0, B, h1, h2, hm, h4, rfl⟩
  ·exact h.elim
 ·exact h.elim
def dC (P : Program) (tt : Table) (all : Array Oper) (base : Nat) (o : Oper) (p : Pl) (st : St) (Q : St → Prop) : Prop :=
 match cO all st.fr o with
 | some true => match p.cls with
  | .n => wR P tt o { st with mem := [] } st Q
  | .r => wR P tt o { st with mem := dc (p.mask.map (base + ·) ++ p.abs) st.mem } st Q
  | .a => isHole st.mem (base + p.key) = true ∧ match dZ tt o (base + p.key) st with
   | some (B, v) => Q ({ st with mem := st.mem.set (base + p.key) B }.put o.dst v)
   | none => nA P o (base + p.key) st Q
  | .w => isHole st.mem (base + p.key) = true ∧ match oA P tt (base + p.key) o st with
   | some (m, v) => Q ({ st with mem := m }.put o.dst v)
   | none => False
  | .s => match rz tt (base + p.key) o st with
   | some m => Q ({ st with mem := m }.put o.dst (.sc undef))
   | none => False
  | .b => match kX tt o st with
   | some v => Q (st.put o.dst v)
   | none => False
  | .z => lK P o st Q
  | .e => vm P o p.key st Q
 | some false => Q (st.put o.dst (.sc undef))
 | none => False

def lf (P : Program) (tt : Table) (all : Array Oper) (base : Nat) (o : Oper) (p : Pl) (st : St) (v : V) (m : List au) : Prop :=
 match cO all st.fr o with
 | some true => match p.cls with
  | .n => mP P tt o { st with mem := [] } (fun u => u = v) ∧ m = st.mem
  | .r => mP P tt o { st with mem := dc (p.mask.map (base + ·) ++ p.abs) st.mem } (fun u => u = v) ∧ m = st.mem
  | .a => isHole st.mem (base + p.key) = true ∧ ∃ B, (dZ tt o (base + p.key) st = some (B, v) ∨ dZ tt o (base + p.key) st = none ∧ kW P o st.eval (fun e rs => B = .rows 0 e rs ∧ v = .ms (base + p.key) 0 0 rs.length)) ∧ m = st.mem.set (base + p.key) B
  | .w => isHole st.mem (base + p.key) = true ∧ oA P tt (base + p.key) o st = some (m, v)
  | .s => v = .sc undef ∧ rz tt (base + p.key) o st = some m
  | .b => kX tt o st = some v ∧ m = st.mem
  | .z => False
  | .e => uK P o p.key st v m
 | some false => v = .sc undef ∧ m = st.mem
 | none => False

theorem yL {P : Program} {tt : Table} {o : Oper} {st : St} {Q : V → Prop} : mP P tt o st Q ↔ ∃ v, mP P tt o st (fun u => u = v) ∧ Q v := by
 unfold mP
 split
 ·split
  ·constructor
   ·rintro ⟨vs', r, h1, h2, h3⟩; exact ⟨r, ⟨vs', r, h1, h2, rfl⟩, h3⟩
   ·rintro ⟨v, ⟨vs', r, h1, h2, rfl⟩, h3⟩; exact ⟨vs', r, h1, h2, h3⟩
  ·exact ⟨fun h => h.elim, fun ⟨_, h, _⟩ => h⟩
 ·split
  ·exact ⟨fun h => ⟨_, rfl, h⟩, fun ⟨_, h, hq⟩ => by subst h; exact hq⟩
  ·exact ⟨fun h => h.elim, fun ⟨_, h, _⟩ => h⟩

theorem dU {P : Program} {tt : Table} {all : Array Oper} {base : Nat} {o : Oper} {p : Pl} {st : St} {Q : St → Prop} (hz : p.cls ≠ .z) :
  dC P tt all base o p st Q ↔ ∃ v m, lf P tt all base o p st v m ∧ Q ({ st with mem := m }.put o.dst v) := by
 unfold dC lf
 split
 ·split
  ·rw [rN, yL]; exact ⟨fun ⟨v, h1, h2⟩ => ⟨v, st.mem, ⟨h1, rfl⟩, h2⟩, fun ⟨v, m, ⟨h1, h2⟩, h3⟩ => ⟨v, h1, by subst h2; exact h3⟩⟩
  ·rw [rN, yL]; exact ⟨fun ⟨v, h1, h2⟩ => ⟨v, st.mem, ⟨h1, rfl⟩, h2⟩, fun ⟨v, m, ⟨h1, h2⟩, h3⟩ => ⟨v, h1, by subst h2; exact h3⟩⟩
  ·split
   ·rename_i B v hb
    refine ⟨fun ⟨h1, h2⟩ => ⟨v, _, ⟨h1, B, .inl hb, rfl⟩, h2⟩, fun ⟨u, m, ⟨h1, B', h2, h3⟩, h4⟩ => ?_⟩
    rcases h2 with h2 | ⟨h2, -⟩
    ·rw [hb] at h2; cases h2; subst h3; exact ⟨h1, h4⟩
    ·rw [hb] at h2; cases h2
   ·rename_i hb
    rw [vl]
    constructor
    ·rintro ⟨h1, h2⟩
     obtain ⟨e, rs, h3, h4⟩ := il.1 h2
     exact ⟨_, _, ⟨h1, .rows 0 e rs, .inr ⟨hb, il.2 ⟨e, rs, h3, rfl, rfl⟩⟩, rfl⟩, h4⟩
    ·rintro ⟨u, m, ⟨h1, B', h2, h3⟩, h4⟩
     rcases h2 with h2 | ⟨-, h2⟩
     ·rw [hb] at h2; cases h2
     ·obtain ⟨e, rs, h5, h6, h7⟩ := il.1 h2
      subst h6; subst h7; subst h3
      exact ⟨h1, il.2 ⟨e, rs, h5, h4⟩⟩
  ·split
   ·rename_i m v hb; exact ⟨fun ⟨h1, h2⟩ => ⟨v, m, ⟨h1, hb⟩, h2⟩, fun ⟨u, m', ⟨h1, h2⟩, h4⟩ => by rw [hb] at h2; cases h2; exact ⟨h1, h4⟩⟩
   ·rename_i hb; exact ⟨fun h => h.2.elim, fun ⟨_, _, ⟨_, h⟩, _⟩ => by rw [hb] at h; cases h⟩
  ·split
   ·rename_i m hb; exact ⟨fun h => ⟨_, m, ⟨rfl, hb⟩, h⟩, fun ⟨u, m', ⟨h1, h2⟩, h4⟩ => by rw [hb] at h2; cases h2; subst h1; exact h4⟩
   ·rename_i hb; exact ⟨fun h => h.elim, fun ⟨_, _, ⟨_, h⟩, _⟩ => by rw [hb] at h; cases h⟩
  ·split
   ·rename_i v hb; exact ⟨fun h => ⟨v, st.mem, ⟨hb, rfl⟩, h⟩, fun ⟨u, m', ⟨h1, h2⟩, h4⟩ => by rw [hb] at h1; cases h1; subst h2; exact h4⟩
   ·rename_i hb; exact ⟨fun h => h.elim, fun ⟨_, _, ⟨h, _⟩, _⟩ => by rw [hb] at h; cases h⟩
  ·rename_i hc; exact absurd hc hz
  ·exact EA
 ·exact ⟨fun h => ⟨_, _, ⟨rfl, rfl⟩, h⟩, fun ⟨v, m, ⟨h1, h2⟩, h3⟩ => by subst h1; subst h2; exact h3⟩
 ·exact ⟨fun h => h.elim, fun ⟨_, _, h, _⟩ => h⟩

/-! ### what an operation looks at -/

theorem dV {ρ ρ' : Operand → V} {xs : Array Operand} (h : ∀ x ∈ xs, ρ x = ρ' x) : xs.toList.map ρ = xs.toList.map ρ' :=
 List.map_congr_left fun x hx => h x (by simpa using hx)
theorem qN {bm : List (Nat × Nat)} {ρ ρ' : Operand → V} : ∀ {ps : List (Nat × Operand)} {cs : List V}, (∀ p ∈ ps, ρ p.2 = ρ' p.2) → ow bm ρ ps cs = ow bm ρ' ps cs
 | [], cs, _ => rfl
 | (i, x) :: r, cs, h => by
  simp only [ow,h (i,x) (by simp)]
  split
  ·split
   ·split
    ·exact qN fun p hp => h p (by simp [hp])
    ·rfl
   ·rfl
  ·rfl
theorem lL {ρ ρ' : Operand → V} : ∀ {ps : List (Nat × Operand)}, (∀ p ∈ ps, ρ p.2 = ρ' p.2) → gI ρ ps = gI ρ' ps
 | [], _ => rfl
 | (i, x) :: r, h => by
  simp only [gI,h (i,x) (by simp)]
  rw [lL fun p hp => h p (by simp [hp])]
theorem wS {P : Program} {tt : Table} {T : TypeId} {ρ ρ' : Operand → V} {ps : List (Nat × Operand)} (h : ∀ p ∈ ps, ρ p.2 = ρ' p.2) : gV P tt T ps ρ = gV P tt T ps ρ' := by
 unfold gV
 split
 ·rw [qN h, lL h]
 ·rfl
theorem sW {tt : Table} {T : TypeId} {len : Nat} {ρ ρ' : Operand → V} {ps : List (Nat × Operand)} (h : ∀ p ∈ ps, ρ p.2 = ρ' p.2) : pE tt T len ps ρ = pE tt T len ps ρ' := by
 unfold pE
 have : (ps.map fun p => ρ p.2) = ps.map fun p => ρ' p.2 := List.map_congr_left h
 rw [this]

theorem EB {P : Program} {tt : Table} {o : Oper} {st st' : St} (h : ∀ x ∈ o.op.operands, st.eval x = st'.eval x) (hm : st.mem = st'.mem) : fR P tt st o = fR P tt st' o := by
 obtain ⟨dst, op, type, pos, after, guard⟩ := o
 cases op <;> simp only [Op.operands] at h <;> try rfl
 case slice T x lo hi mx =>
  cases mx <;> cases lo <;> cases hi <;> try rfl
  all_goals (simp only [fR]; simp_all)
 case makeFunc fn first captured =>
  simp only [fR]
  rw [dV (xs := first) fun x hx => h x (by simp [hx]), dV (xs := captured) fun x hx => h x (by simp [hx])]
 case call c =>
  obtain ⟨callee, args, ts⟩ := c
  have jm : args.toList.map st.eval = args.toList.map st'.eval := dV fun x hx => h x (by simp [Call.operands, hx])
  cases callee with
  | builtin b => cases b <;> simp only [fR,jm,hm]
  | _ => rfl
 all_goals (simp only [fR]; simp_all)
theorem A8 {P : Program} {tt : Table} {o : Oper} {st st' : St} (h : ∀ x ∈ o.op.operands, st.eval x = st'.eval x) (hm : st.mem = st'.mem) : ry P tt o st = ry P tt o st' := by
 have h0 := EB (P := P) (tt := tt) h hm
 obtain ⟨dst, op, type, pos, after, guard⟩ := o
 cases op <;> try exact h0
 case build T ps => exact wS fun p hp => h p.2 (by simp only [Op.operands]; simpa using ⟨p.1, by simpa using hp⟩)
 case buildSlice T len ps =>
  simp only [ry]
  rw [sW fun p hp => h p.2 (by simp only [Op.operands]; simpa using ⟨p.1, by simpa using hp⟩)]
theorem sX {P : Program} {tt : Table} {o : Oper} {st st' : St} {Q : V → Prop} (h : ∀ x ∈ o.op.operands, st.eval x = st'.eval x) (hm : st.mem = st'.mem) : mP P tt o st Q = mP P tt o st' Q := by
 have h0 := A8 (P := P) (tt := tt) h hm
 unfold mP
 rw [h0]
 split
 ·rename_i f xs ts heq
  rw [heq] at h
  have jm : xs.toList.map st.eval = xs.toList.map st'.eval := dV fun x hx => h x (by simp [Op.operands, Call.operands, hx])
  have hf : st.eval f = st'.eval f := h f (by simp [Op.operands, Call.operands])
  rw [jm, hf]
 ·rfl
theorem oB {tt : Table} {o : Oper} {key : Nat} {st st' : St} (h : ∀ x ∈ o.op.operands, st.eval x = st'.eval x) : dZ tt o key st = dZ tt o key st' := by
 obtain ⟨dst, op, type, pos, after, guard⟩ := o
 cases op <;> try rfl
 case makeMap t r => cases r <;> rfl
 case makeSlice t l c => simp only [dZ]; rw [h l (by simp [Op.operands]), h c (by simp [Op.operands])]
 case box T x => simp only [dZ]; rw [h x (by simp [Op.operands])]
 case buildSlice T len ps =>
  simp only [dZ]
  rw [sW fun p hp => h p.2 (by simp only [Op.operands]; simpa using ⟨p.1, by simpa using hp⟩)]
theorem qO {P : Program} {o : Oper} {ρ ρ' : Operand → V} {Q : Nat → List V → Prop} (h : ∀ x ∈ o.op.operands, ρ x = ρ' x) : kW P o ρ Q = kW P o ρ' Q := by
 unfold kW
 split
 ·rename_i f xs ts heq
  rw [heq] at h
  have jm : xs.toList.map ρ = xs.toList.map ρ' := dV fun x hx => h x (by simp [Op.operands, Call.operands, hx])
  have hf : ρ f = ρ' f := h f (by simp [Op.operands, Call.operands])
  rw [jm, hf]
 ·rfl
theorem A9 {P : Program} {tt : Table} {o : Oper} {key : Nat} {st st' : St} (h : ∀ x ∈ o.op.operands, st.eval x = st'.eval x) (hm : st.mem = st'.mem) : oA P tt key o st = oA P tt key o st' := by
 obtain ⟨dst, op, type, pos, after, guard⟩ := o
 cases op <;> try rfl
 case store T p x => simp only [oA,hm]; rw [h p (by simp [Op.operands]), h x (by simp [Op.operands])]
 case mapUpdate T m k x => simp only [oA,hm]; rw [h m (by simp [Op.operands]), h k (by simp [Op.operands]), h x (by simp [Op.operands])]
 case insert T m k x => simp only [oA,hm]; rw [h m (by simp [Op.operands]), h k (by simp [Op.operands]), h x (by simp [Op.operands])]
 case call c =>
  obtain ⟨callee, args, ts⟩ := c
  have jm : args.toList.map st.eval = args.toList.map st'.eval := dV fun x hx => h x (by simp [Op.operands, Call.operands, hx])
  cases callee with
  | builtin b => cases b <;> simp only [oA,jm,hm]
  | _ => rfl

theorem Ba {tt : Table} {o : Oper} {key : Nat} {st st' : St} (h : ∀ x ∈ o.op.operands, st.eval x = st'.eval x) (hm : st.mem = st'.mem) : rz tt key o st = rz tt key o st' := by
 obtain ⟨dst, op, type, pos, after, guard⟩ := o
 cases op <;> try rfl
 case store T p x => simp only [rz,hm]; rw [h p (by simp [Op.operands]), h x (by simp [Op.operands])]
theorem GO {tt : Table} {o : Oper} {key : Nat} {st : St} {m : List au} (h : rz tt key o st = some m) :
  ∃ B0 B : au, B0.ay = 0 ∧ B.ay = 0 ∧ st.mem[key]? = some B0 ∧ m = st.mem.set key B ∧ ∀ mem : List au, mem[key]? = some B0 → rz tt key o { st with mem := mem } = some (mem.set key B) := by
 have ev : ∀ (mem : List au) (x : Operand), St.eval { st with mem := mem } x = st.eval x := fun mem x => by cases x <;> rfl
 unfold rz at h ⊢
 obtain ⟨dst, op, type, pos, after, guard⟩ := o
 cases op <;> try (cases h)
 case store T p x =>
  simp only [ev]
  dsimp only at h
  split at h
  ·rename_i b off hp
   split at h
   ·rename_i hb
    subst hb
    unfold gU at h
    split at h
    ·cases h
    ·rename_i new hn
     split at h
     ·rename_i kd
      dsimp only at h
      split at h
      ·rename_i cs uj
       split at h
       ·rename_i hle
        cases h
        refine ⟨.box cs, .box (cA cs off new), rfl, rfl, uj, rfl, fun mem hm => ?_⟩
        simp only [hp,if_true]
        unfold gU
        simp only [hn,kd,if_true,hm,hle]
       ·cases h
      ·cases h
     ·cases h
   ·cases h
  ·cases h

theorem eval_put {st : St} {dst : Option Tmp} {v : V} {x : Operand} (h : ∀ d, dst = some d → x ≠ .tmp d) : (st.put dst v).eval x = st.eval x := by
 cases dst with
 | none => rfl
 | some d =>
  cases x with
  | tmp t =>
   have bD : d ≠ t := fun e => h d rfl (e ▸ rfl)
   simp [St.eval, St.put, List.getD, List.getElem?_set_ne bD]
  | _ => rfl
theorem Kl (st : St) (dst : Option Tmp) (v : V) : (st.put dst v).mem = st.mem := by cases dst <;> rfl
theorem uL {all : Array Oper} {o : Oper} {d : Tmp} (h : d ∉ o.looksAt all) : ∀ x ∈ o.op.operands, x ≠ .tmp d := by
 rintro x hx rfl
 exact h (by unfold Oper.looksAt; exact List.mem_append_left _ (List.mem_filterMap.2 ⟨.tmp d, by simpa using hx, rfl⟩))
theorem yM {all : Array Oper} {o : Oper} {st : St} {dst : Option Tmp} {v : V} (h : ∀ d, dst = some d → d ∉ o.looksAt all) : cO all (st.put dst v).fr o = cO all st.fr o := by
 cases dst with
 | none => rfl
 | some d =>
  have hd := h d rfl
  unfold cO
  split
  ·rfl
  ·rename_i j want hg
   split
   ·rfl
   ·rename_i e he
    have bD : d ≠ e := by
     rintro rfl
     exact hd (by unfold Oper.looksAt; exact List.mem_append_right _ (by rw [hg]; simp only []; rw [he]; simp))
    simp only [St.put,List.getElem?_set_ne bD]

section
variable {P : Program} {tt : Table} {all : Array Oper} {base : Nat}
theorem yN {o : Oper} {st st' : St} (h : ∀ x ∈ o.op.operands, st.eval x = st'.eval x) (hm : st.mem = st'.mem) : kX tt o st = kX tt o st' := by
 unfold kX
 split
 ·rename_i T x ho
  rw [hm, h x (by rw [ho]; simp [Op.operands])]
 ·rfl
theorem EC {o : Oper} {p : Pl} {st st' : St} {v : V} {m : List au} (hw : cO all st.fr o = cO all st'.fr o) (h : ∀ x ∈ o.op.operands, st.eval x = st'.eval x) (hm : st.mem = st'.mem) :
  lf P tt all base o p st v m = lf P tt all base o p st' v m := by
 have e1 : ∀ (mem : List au) (x : Operand), St.eval { st with mem := mem } x = st.eval x := fun mem x => by cases x <;> rfl
 have e2 : ∀ (mem : List au) (x : Operand), St.eval { st' with mem := mem } x = st'.eval x := fun mem x => by cases x <;> rfl
 unfold lf
 rw [hw, oB h, A9 h hm, Ba h hm, yN h hm, A7 h hm, hm]
 simp only [qO h]
 rw [sX (st := { st with mem := [] }) (st' := { st' with mem := [] }) (fun x hx => by rw [e1, e2]; exact h x hx) rfl,
  sX (st := { st with mem := dc (p.mask.map (base + ·) ++ p.abs) st'.mem }) (st' := { st' with mem := dc (p.mask.map (base + ·) ++ p.abs) st'.mem }) (fun x hx => by rw [e1, e2]; exact h x hx) rfl]
theorem C6 {o : Oper} {p : Pl} {st : St} {dst : Option Tmp} {u v : V} {m : List au} (h : ∀ d, dst = some d → d ∉ o.looksAt all) : lf P tt all base o p (st.put dst u) v m = lf P tt all base o p st v m :=
 EC (yM h) (fun x hx => eval_put fun d hd => uL (h d hd) x hx) (Kl _ _ _)

def pL (all : Array Oper) (x : Oper) (px : Pl) (y : Oper) (py : Pl) : Bool :=
 px.cls != .z && py.cls != .z && x.apart all y && (px.cls == .n || py.cls == .n || (px.cls == .r && py.cls == .r) || ((px.cls == .a || px.cls == .s) && py.cls == .r && py.mask.contains px.key) || (px.cls == .r && (py.cls == .a || py.cls == .s) && px.mask.contains py.key) || ((px.cls == .a || px.cls == .s) && (py.cls == .a || py.cls == .s) && px.key != py.key) || (px.cls == .b && (py.cls == .r || py.cls == .b || (py.cls == .w && isApp y) || (py.cls == .a && C5 y))) || (py.cls == .b && (px.cls == .r || (px.cls == .w && isApp x) || (px.cls == .a && C5 x))) || (px.cls == .e && py.cls == .r && py.abs.contains px.key) || (px.cls == .r && py.cls == .e && px.abs.contains py.key))

theorem Bb {o : Oper} {key : Nat} {st : St} {B : au} {v : V} (h : dZ tt o key st = some (B, v)) : B.ay = 0 := by
 unfold dZ at h
 split at h
 ·split at h <;> cases h <;> rfl
 ·split at h <;> cases h <;> rfl
 ·split at h <;> cases h <;> rfl
 ·cases h; rfl
 ·split at h <;> cases h <;> rfl
 ·cases h

theorem pM {o : Oper} {p : Pl} (hp : p.cls = .n) {st : St} {v : V} {m : List au} (h : lf P tt all base o p st v m) (mem : List au) : m = st.mem ∧ lf P tt all base o p { st with mem := mem } v mem := by
 unfold lf at h ⊢
 dsimp only
 split at h
 ·rename_i hw
  rw [hp] at h
  simp only [hw,hp]
  exact ⟨h.2, h.1, trivial⟩
 ·rename_i hw; simp only [hw]; exact ⟨h.2, h.1, trivial⟩
 ·exact h.elim
theorem cV {o : Oper} {p : Pl} (hp : p.cls = .r) {st : St} {v : V} {m : List au} (h : lf P tt all base o p st v m) {mem : List au} (hm : dc (p.mask.map (base + ·) ++ p.abs) mem = dc (p.mask.map (base + ·) ++ p.abs) st.mem) :
  m = st.mem ∧ lf P tt all base o p { st with mem := mem } v mem := by
 unfold lf at h ⊢
 dsimp only
 split at h
 ·rename_i hw
  rw [hp] at h
  simp only [hw,hp]
  exact ⟨h.2, by rw [hm]; exact h.1, trivial⟩
 ·rename_i hw; simp only [hw]; exact ⟨h.2, h.1, trivial⟩
 ·exact h.elim
theorem mr {o : Oper} {p : Pl} (hp : p.cls = .a ∨ p.cls = .s) {st : St} {v : V} {m : List au} (h : lf P tt all base o p st v m) :
  (m = st.mem ∧ ∀ mem, lf P tt all base o p { st with mem := mem } v mem) ∨
  ∃ B0 B : au, B0.ay = 0 ∧ B.ay = 0 ∧ st.mem[base + p.key]? = some B0 ∧ m = st.mem.set (base + p.key) B ∧ ∀ mem : List au, mem[base + p.key]? = some B0 → lf P tt all base o p { st with mem := mem } v (mem.set (base + p.key) B) := by
 unfold lf at h
 split at h
 ·rename_i hw
  rcases hp with hp | hp
  ·rw [hp] at h
   obtain ⟨h1, B, h2, h3⟩ := h
   have Rn : B.ay = 0 := by
    rcases h2 with h2 | ⟨-, h2⟩
    ·exact Bb h2
    ·obtain ⟨e, rs, -, h5, -⟩ := il.1 h2
     rw [h5]; rfl
   refine .inr ⟨.hole, B, rfl, Rn, gg.1 h1, h3, fun mem hm => ?_⟩
   unfold lf
   simp only [hw,hp]
   refine ⟨gg.2 hm, B, ?_, rfl⟩
   have e0 : dZ tt o (base + p.key) { st with mem := mem } = dZ tt o (base + p.key) st := oB fun x _ => by cases x <;> rfl
   rw [e0]
   have e1 : ∀ Q, kW P o (St.eval { st with mem := mem }) Q = kW P o st.eval Q := fun Q => qO fun x _ => by cases x <;> rfl
   rw [e1]
   exact h2
  ·rw [hp] at h
   obtain ⟨h1, h2⟩ := h
   obtain ⟨B0, B, h3, h4, h5, h6, h7⟩ := GO h2
   refine .inr ⟨B0, B, h3, h4, h5, h6, fun mem hm => ?_⟩
   unfold lf
   simp only [hw,hp]
   exact ⟨h1, h7 mem hm⟩
 ·rename_i hw
  refine .inl ⟨h.2, fun mem => ?_⟩
  unfold lf
  simp only [hw]
  exact ⟨h.1, trivial⟩
 ·exact h.elim

theorem vn {o : Oper} {p : Pl} (hp : p.cls = .e) {st : St} {v : V} {m : List au} (h : lf P tt all base o p st v m) :
  (m = st.mem ∧ ∀ mem, lf P tt all base o p { st with mem := mem } v mem) ∨
  ∃ B0 B : au, B0.ay = 0 ∧ B.ay = 0 ∧ st.mem[p.key]? = some B0 ∧ m = st.mem.set p.key B ∧ ∀ mem : List au, mem[p.key]? = some B0 → lf P tt all base o p { st with mem := mem } v (mem.set p.key B) := by
 unfold lf at h
 split at h
 ·rename_i hw
  rw [hp] at h
  obtain ⟨B0, B, h1, h2, h3, h4, h5⟩ := GN h
  refine .inr ⟨B0, B, h1, h2, h3, h4, fun mem hm => ?_⟩
  unfold lf
  simp only [hw,hp]
  exact h5 mem hm
 ·rename_i hw
  refine .inl ⟨h.2, fun mem => ?_⟩
  unfold lf
  simp only [hw]
  exact ⟨h.1, trivial⟩
 ·exact h.elim

theorem pO {o : Oper} {p : Pl} (hp : p.cls = .b) {st : St} {v : V} {m : List au} (h : lf P tt all base o p st v m) :
  m = st.mem ∧ ∀ mem : List au, mem.map cP = st.mem.map cP → lf P tt all base o p { st with mem := mem } v mem := by
 unfold lf at h ⊢
 dsimp only
 split at h
 ·rename_i hw
  rw [hp] at h
  simp only [hw,hp]
  refine ⟨h.2, fun mem hm => ⟨?_, trivial⟩⟩
  have h1 := h.1
  unfold kX at h1 ⊢
  split at h1
  ·rename_i T x ho
   have e : St.eval { st with mem := mem } x = st.eval x := by cases x <;> rfl
   show kS tt (mem.map cP) T (St.eval { st with mem := mem } x) = some v
   rw [hm, e]; exact h1
  ·cases h1
 ·rename_i hw; simp only [hw]; exact ⟨h.2, fun _ _ => ⟨h.1, trivial⟩⟩
 ·exact h.elim
theorem vo {o : Oper} {p : Pl} (hp : p.cls = .w) (ha : isApp o = true) {st : St} {v : V} {m : List au} (h : lf P tt all base o p st v m) : m.map cP = st.mem.map cP := by
 unfold lf at h
 split at h
 ·rw [hp] at h
  exact GM ha (gg.1 h.1) h.2
 ·rw [h.2]
 ·exact h.elim
theorem sY {o : Oper} {p : Pl} (hp : p.cls = .a) (ha : C5 o = true) {st : St} {v : V} {m : List au} (h : lf P tt all base o p st v m) : m.map cP = st.mem.map cP := by
 unfold lf at h
 split at h
 ·rw [hp] at h
  obtain ⟨h1, B, h2, rfl⟩ := h
  have hB : cP B = .dead := by
   rcases h2 with h2 | ⟨-, h2⟩
   ·unfold dZ at h2
    unfold C5 at ha
    split at h2
    ·rename_i he; rw [he] at ha; cases ha
    ·rename_i he; rw [he] at ha; cases ha
    ·split at h2 <;> cases h2; rfl
    ·cases h2; rfl
    ·split at h2 <;> cases h2; rfl
    ·cases h2
   ·obtain ⟨e, rs, -, h5, -⟩ := il.1 h2
    rw [h5]; rfl
  have hh := gg.1 h1
  apply List.ext_getElem?
  intro q
  rw [List.getElem?_map, List.getElem?_map, List.getElem?_set]
  split
  ·rename_i hq; subst hq
   rw [if_pos (List.getElem?_eq_some_iff.1 hh).1, hh, Option.map_some, Option.map_some, hB]; rfl
  ·rfl
 ·rw [h.2]
 ·exact h.elim
theorem St.put_comm (st : St) {x y : Option Tmp} (v u : V) (h : ∀ d, x = some d → y ≠ some d) : (st.put x v).put y u = (st.put y u).put x v := by
 cases x with
 | none => rfl
 | some d =>
  cases y with
  | none => rfl
  | some e =>
   have bD : d ≠ e := fun he => h d rfl (he ▸ rfl)
   simp [St.put, List.set_comm _ _ bD]
theorem yO (st : St) (x : Option Tmp) (v : V) (m : List au) : { st.put x v with mem := m } = St.put { st with mem := m } x v := by cases x <;> rfl

theorem Bc {x y : Oper} {px py : Pl} (bB : pL all x px y py = true) {st : St} {Q : St → Prop} (h : dC P tt all base x px st fun st' => dC P tt all base y py st' Q) :
  dC P tt all base y py st fun st' => dC P tt all base x px st' Q := by
 unfold pL at bB
 rw [Bool.and_eq_true, Bool.and_eq_true, Bool.and_eq_true] at bB
 obtain ⟨⟨⟨Um, Un⟩, Vm⟩, kf⟩ := bB
 have Um : px.cls ≠ .z := by simpa using Um
 have Un : py.cls ≠ .z := by simpa using Un
 obtain ⟨YU, MU, Vn⟩ := Oper.apart_spec Vm
 obtain ⟨v, m1, h1, h2⟩ := (dU Um).1 h
 obtain ⟨u, m2, h3, h4⟩ := (dU Un).1 h2
 rw [C6 YU] at h3
 have fin : ∀ RW , lf P tt all base y py st u RW → lf P tt all base x px { st with mem := RW } v m2 → dC P tt all base y py st fun st' => dC P tt all base x px st' Q := fun RW h5 h6 => by
  refine (dU Un).2 ⟨u, RW, h5, (dU Um).2 ⟨v, m2, by rw [C6 Vn]; exact h6, ?_⟩⟩
  have e1 : ({ (St.put { st with mem := m1 } x.dst v) with mem := m2 } : St).put y.dst u = ({ (St.put { st with mem := RW } y.dst u) with mem := m2 } : St).put x.dst v := by
   rw [yO, yO]
   exact St.put_comm _ _ _ MU
  rw [← e1]; exact h4
 have back : ∀ (m : List au) (z : Oper) (pz : Pl) (c : V) (m' : List au), lf P tt all base z pz { ({ st with mem := m } : St) with mem := st.mem } c m' = lf P tt all base z pz st c m' := fun _ _ _ _ _ => rfl
 simp only [Bool.or_eq_true,Bool.and_eq_true,beq_iff_eq,bne_iff_ne] at kf
 rcases kf with ((((((((hn | hn) | ⟨hr, um⟩) | ⟨⟨ha, hr⟩, hm⟩) | ⟨⟨hr, ha⟩, hm⟩) | ⟨⟨ha, RX⟩, bD⟩) | ⟨hb, hy⟩) | ⟨hb, hx⟩) | ⟨⟨he, hr⟩, hm⟩) | ⟨⟨hr, he⟩, hm⟩
 ·-- x JQ not look
  obtain ⟨rfl, -⟩ := pM hn h1 []
  exact fin m2 h3 (pM hn h1 m2).2
 ·-- y JQ not look
  obtain ⟨h5, h6⟩ := pM hn h3 st.mem
  dsimp only at h5; subst h5
  exact fin st.mem h6 h1
 ·obtain ⟨rfl, -⟩ := cV hr h1 rfl
  obtain ⟨h5, h6⟩ := cV um h3 (mem := st.mem) rfl
  dsimp only at h5; subst h5
  exact fin st.mem h6 h1
 ·rcases mr ha h1 with ⟨rfl, -⟩ | ⟨B0, B, FX, hv, hh, rfl, -⟩
  ·obtain ⟨h5, h6⟩ := cV hr h3 (mem := st.mem) rfl
   dsimp only at h5; subst h5
   exact fin st.mem h6 h1
  ·have uG : dc (py.mask.map (base + ·) ++ py.abs) (st.mem.set (base + px.key) B) = dc (py.mask.map (base + ·) ++ py.abs) st.mem := mq (List.mem_append_left _ (List.mem_map.2 ⟨_, by simpa using hm, rfl⟩)) hh FX hv
   obtain ⟨h5, h6⟩ := cV hr h3 (mem := st.mem) uG.symm
   dsimp only at h5; subst h5
   exact fin st.mem h6 h1
 ·obtain ⟨rfl, -⟩ := cV hr h1 rfl
  rcases mr ha h3 with ⟨h5, h6⟩ | ⟨B0, B, FX, hv, hh, h5, h6⟩
  ·dsimp only at h5; subst h5
   exact fin st.mem h3 h1
  ·dsimp only at h5 hh; subst h5
   have uG : dc (px.mask.map (base + ·) ++ px.abs) (st.mem.set (base + py.key) B) = dc (px.mask.map (base + ·) ++ px.abs) st.mem := mq (List.mem_append_left _ (List.mem_map.2 ⟨_, by simpa using hm, rfl⟩)) hh FX hv
   exact fin _ h3 (cV hr h1 uG).2
 ·rcases mr ha h1 with ⟨rfl, hx⟩ | ⟨B0, B, FX, hv, hh, rfl, hx⟩
  ·exact fin m2 h3 (hx m2)
  ·rcases mr RX h3 with ⟨h5, h6⟩ | ⟨rA, B', YV, rn, JB, h5, h6⟩
   ·dsimp only at h5; subst h5
    exact fin st.mem (h6 st.mem) h1
   ·dsimp only at h5 JB; subst h5
    have Ge : base + px.key ≠ base + py.key := by omega
    rw [List.getElem?_set_ne Ge] at JB
    have h7 := h6 st.mem JB
    have h8 := hx (st.mem.set (base + py.key) B') (by rw [List.getElem?_set_ne (fun e => Ge e.symm)]; exact hh)
    refine fin _ h7 ?_
    rw [List.set_comm _ _ Ge]
    exact h8
 ·obtain ⟨rfl, h5⟩ := pO hb h1
  refine fin m2 h3 (h5 m2 ?_)
  rcases hy with ((hy | hy) | ⟨hy, ha⟩) | ⟨hy, ha⟩
  ·rw [(cV hy h3 rfl).1]
  ·rw [(pO hy h3).1]
  ·exact vo hy ha h3
  ·exact sY hy ha h3
 ·obtain ⟨h5, h6⟩ := pO hb h3
  dsimp only at h5; subst h5
  refine fin st.mem (h6 st.mem ?_) h1
  rcases hx with (hx | ⟨hx, ha⟩) | ⟨hx, ha⟩
  ·rw [(cV hx h1 rfl).1]
  ·exact (vo hx ha h1).symm
  ·exact (sY hx ha h1).symm
 ·rcases vn he h1 with ⟨rfl, -⟩ | ⟨B0, B, FX, hv, hh, rfl, -⟩
  ·obtain ⟨h5, h6⟩ := cV hr h3 (mem := st.mem) rfl
   dsimp only at h5; subst h5
   exact fin st.mem h6 h1
  ·have uG : dc (py.mask.map (base + ·) ++ py.abs) (st.mem.set px.key B) = dc (py.mask.map (base + ·) ++ py.abs) st.mem := mq (List.mem_append_right _ (by simpa using hm)) hh FX hv
   obtain ⟨h5, h6⟩ := cV hr h3 (mem := st.mem) uG.symm
   dsimp only at h5; subst h5
   exact fin st.mem h6 h1
 ·obtain ⟨rfl, -⟩ := cV hr h1 rfl
  rcases vn he h3 with ⟨h5, h6⟩ | ⟨B0, B, FX, hv, hh, h5, h6⟩
  ·dsimp only at h5; subst h5
   exact fin st.mem h3 h1
  ·dsimp only at h5 hh; subst h5
   have uG : dc (px.mask.map (base + ·) ++ px.abs) (st.mem.set py.key B) = dc (px.mask.map (base + ·) ++ px.abs) st.mem := mq (List.mem_append_right _ (by simpa using hm)) hh FX hv
   exact fin _ h3 (cV hr h1 uG).2
end
end Go.Eng
end

section
namespace Go.Eng
variable [aE]
open Go.RowKit (Below)

theorem mu {mem : List au} {size : Nat} {l : Int} {h : Option Int} {x v : V} (hc : cutAt [] size l h x = some v) : cutAt mem size l h x = some v := by
 unfold cutAt at hc ⊢
 split at hc
 ·exact hc
 ·simp [eH] at hc
 ·cases hc
theorem GQ {P : Program} {tt : Table} {mem : List au} {T : TypeId} {x v : V} {lo hi : Option V} (hc : sh P tt [] T x lo hi = some v) : sh P tt mem T x lo hi = some v := by
 unfold sh at hc ⊢
 split
 ·exact hc
 ·rename_i bD
  split at hc
  ·exact absurd rfl (bD _)
  ·split at hc
   ·cases hc
   ·split at hc
    ·cases hc
    ·split at hc
     ·split at hc
      ·exact mu hc
      ·split at hc
       ·exact mu hc
       ·cases hc
     ·split at hc
      ·cases hc
      ·split at hc
       ·exact mu hc
       ·split at hc
        ·exact mu hc
        ·cases hc
theorem ED {tt : Table} {mem : List au} {T : TypeId} {p v : V} (h : kS tt [] T p = some v) : kS tt mem T p = some v := by
 cases p <;> simp [kS, rowOf] at h ⊢
 exact h
theorem Bd {tt : Table} {mem : List au} {T : TypeId} {p i v : V} (h : iB tt [] T p i = some v) : iB tt mem T p i = some v := by
 unfold iB at h ⊢
 split at h
 ·split at h
  ·split at h
   ·cases p <;> simp [indexAt, eH] at h ⊢
    exact h
   ·cases h
  ·cases h
 ·cases h
theorem Be {tt : Table} {mem : List au} {T : TypeId} {b o : Nat} {i : V} : iB tt mem T (.ptr b o) i = none := by
 unfold iB
 split
 ·split
  ·split <;> rfl
  ·rfl
 ·rfl
theorem Bf {P : Program} {tt : Table} {mem : List au} {T : TypeId} {p i v : V} (h : (match iB tt [] T p i with | some v => some v | none => sk P tt T p i) = some v) : (match iB tt mem T p i with | some v => some v | none => sk P tt T p i) = some v := by
 split at h
 ·rename_i u hu
  cases h
  rw [Bd hu]
 ·have hp : ∃ b o, p = .ptr b o := by
   unfold sk at h
   split at h
   ·exact ⟨_, _, rfl⟩
   ·cases h
  obtain ⟨b, o, rfl⟩ := hp
  rw [Be]; exact h
theorem yP {P : Program} {mem : List au} {T : TypeId} {m i v : V} {ok : Bool} (h : c7 P [] T m i ok = some v) : c7 P mem T m i ok = some v := by
 unfold c7 at h ⊢
 split at h
 ·split at h
  ·split at h
   ·rename_i hk
    rw [if_pos hk]
    unfold od at h ⊢
    split at h
    ·simp at h
    ·exact h
    ·cases h
   ·cases h
  ·cases h
 ·cases h
theorem GR {mem : List au} {it v : V} (h : Ei [] it = some v) : Ei mem it = some v := by
 unfold Ei at h
 split at h
 ·simp at h
 ·cases h
theorem GU {P : Program} {tt : Table} {mem : List au} {ts : Array TypeId} {ty : TypeId} {xs : List V} {v : V} (h : (match oe [] ts P xs with | some v => some v | none => rq P tt ts ty xs) = some v) :
  (match oe mem ts P xs with | some v => some v | none => rq P tt ts ty xs) = some v := by
 by_cases hx : ∃ b, xs = [.mp b]
 ·obtain ⟨b, rfl⟩ := hx
  simp [oe, rq, cd, js, bp] at h
 ·have hn : ∀ m, oe m ts P xs = none := fun m => by
   unfold oe
   split
   ·exact absurd ⟨_, rfl⟩ hx
   ·rfl
  rw [hn] at h ⊢
  exact h
theorem EE (st : St) (mem : List au) (x : Operand) : St.eval { st with mem := mem } x = st.eval x := by cases x <;> rfl
theorem b9 (st : St) (mem : List au) : St.eval { st with mem := mem } = st.eval := funext fun x => EE st mem x
theorem EF {P : Program} {mem : List au} {s d : TypeId} {x v : V} (h : jG P [] s d x = some v) : jG P mem s d x = some v := by
 cases x <;> first | exact h | (simp [jG] at h)
theorem Km {P : Program} {tt : Table} {st : St} {o : Oper} {v : V} (h : fR P tt { st with mem := [] } o = some v) : fR P tt st o = some v := by
 obtain ⟨dst, op, type, pos, after, guard⟩ := o
 cases op
 case load T x => simp only [fR,b9] at h ⊢; exact ED h
 case indexAddr T x i => simp only [fR,b9] at h ⊢; exact Bf h
 case entry it => simp only [fR,b9] at h ⊢; exact GR h
 case convert s d x => simp only [fR,b9] at h ⊢; exact EF h
 case lookup T x i ok => simp only [fR,b9] at h ⊢; exact yP h
 case slice T x lo hi mx =>
  cases mx
  ·simp only [fR,b9] at h ⊢; exact GQ h
  ·cases lo <;> cases hi <;> simp only [fR,b9,reduceCtorEq] at h ⊢
   exact h
 case call c =>
  obtain ⟨callee, args, ts⟩ := c
  cases callee with
  | builtin b => cases b <;> first | (simp only [fR,b9] at h ⊢; exact h) | (simp only [fR,b9] at h ⊢; exact GU h) | (simp [fR] at h)
  | _ => simp [fR] at h
 all_goals first | (simp only [fR,b9] at h ⊢; exact h) | (simp [fR] at h)

theorem qP {mem : List au} {v v' : V} (h : bz [] v = some v') : bz mem v = some v' ∧ eg v = [] := by
 unfold bz at h
 split at h
 ·exact ⟨h, rfl⟩
 ·exact ⟨h, rfl⟩
 ·exact ⟨h, rfl⟩
 ·exact ⟨h, rfl⟩
 ·exact ⟨h, rfl⟩
 ·exact ⟨h, rfl⟩
 ·simp at h
 ·exact ⟨h, rfl⟩
 ·cases h
theorem oC {mem : List au} : ∀ {vs vs' : List V}, c8 [] vs = some vs' → c8 mem vs = some vs' ∧ vs.flatMap eg = []
 | [], vs', h => ⟨h, rfl⟩
 | c :: r, vs', h => by
  simp only [c8] at h ⊢
  split at h
  ·rename_i c' hc
   split at h
   ·rename_i r' hr
    obtain ⟨h1, h2⟩ := qP (mem := mem) hc
    obtain ⟨h3, h4⟩ := oC (mem := mem) hr
    rw [h1, h3]
    exact ⟨h, by simp [List.flatMap_cons, h2, h4]⟩
   ·cases h
  ·cases h
theorem GV {mem : List au} {v v' : V} (h : er [] v = some v') : er mem v = some v' ∧ ck v = [] := by
 unfold er at h
 split at h
 ·rename_i cs
  split at h
  ·rename_i l hl
   obtain ⟨h1, h2⟩ := oC (mem := mem) hl
   exact ⟨by simp only [er,h1]; exact h, h2⟩
  ·cases h
 ·rename_i bD
  obtain ⟨h1, h2⟩ := qP (mem := mem) h
  exact ⟨by cases v <;> first | exact h1 | exact absurd rfl (bD _), by cases v <;> first | exact h2 | exact absurd rfl (bD _)⟩
theorem oD {mem : List au} : ∀ {vs vs' : List V}, cj [] vs = some vs' → cj mem vs = some vs' ∧ vs.flatMap ck = []
 | [], vs', h => ⟨h, rfl⟩
 | c :: r, vs', h => by
  simp only [cj] at h ⊢
  split at h
  ·rename_i c' hc
   split at h
   ·rename_i r' hr
    obtain ⟨h1, h2⟩ := GV (mem := mem) hc
    obtain ⟨h3, h4⟩ := oD (mem := mem) hr
    rw [h1, h3]
    exact ⟨h, by simp [List.flatMap_cons, h2, h4]⟩
   ·cases h
  ·cases h
theorem kY {v v' : V} (h : bz [] v = some v') {E : Env} {x : Value} (hr : aT E v x) : aT E v' x := by
 unfold bz at h
 split at h
 ·cases h; exact hr
 ·cases h; exact oq hr
 ·cases h; exact hr
 ·cases h; cases hr with | full _ _ _ h => exact h
 ·cases h; exact hr
 ·cases h; exact hr
 ·simp at h
 ·cases h
  cases hr with
  | fU _ f _ _ xs ys hx hy h1 h2 =>
   have e1 : xs = #[] := by simpa using hx.symm
   have e2 : ys = #[] := by simpa using hy.symm
   subst e1; subst e2; exact .sc _ _
 ·cases h
theorem jK {E : Env} : ∀ {vs vs' : List V} {xs : List Value}, c8 [] vs = some vs' → aO E vs xs → aO E vs' xs
 | [], vs', xs, h, hr => by cases h; exact hr
 | c :: r, vs', xs, h, hr => by
  obtain ⟨x, ys, rfl, h1, h2⟩ := hr.of_cons
  simp only [c8] at h
  split at h
  ·rename_i c' hc
   split at h
   ·rename_i r' um
    cases h
    exact .cons (kY hc h1) (jK um h2)
   ·cases h
  ·cases h
theorem wT {v v' : V} (h : er [] v = some v') {E : Env} {x : Value} (hr : aT E v x) : aT E v' x := by
 unfold er at h
 split at h
 ·rename_i cs
  split at h
  ·rename_i l hl
   cases h
   cases hr with
   | agg _ _ xs hlen hh =>
    have := jK hl (E := E) (xs := xs.toList) ⟨by simpa using hlen, fun i c x hc hx => hh i c x hc (by simpa using hx)⟩
    exact .agg _ _ _ (by simpa using this.1) fun i c x hc hx => this.2 i c x hc (by simpa using hx)
  ·cases h
 ·exact kY h hr
theorem oE {E : Env} : ∀ {vs vs' : List V} {xs : List Value}, cj [] vs = some vs' → aO E vs xs → aO E vs' xs
 | [], vs', xs, h, hr => by cases h; exact hr
 | c :: r, vs', xs, h, hr => by
  obtain ⟨x, ys, rfl, h1, h2⟩ := hr.of_cons
  simp only [cj] at h
  split at h
  ·rename_i c' hc
   split at h
   ·rename_i r' um
    cases h
    exact .cons (wT hc h1) (oE um h2)
   ·cases h
  ·cases h
theorem oF (mem : List au) (r : V) : cI mem [] r = mem := by unfold cI; split <;> rfl

theorem sS.hole {P : Program} {f : FuncId} {vs vs' : List V} {e : Nat} {rs : List V} (hp : cj [] vs = some vs') (h : sS P f vs' e rs) {mem : List au} {key : Nat} (bX : mem[key]? = some .hole) :
  aR P f vs mem (.ms key 0 0 rs.length) (mem.set key (.rows 0 e rs)) := by
 obtain ⟨v0, h⟩ := h
 refine ⟨h.1, fun E w xs hs hx => ?_⟩
 obtain ⟨MJ, hk⟩ := oD (mem := mem) hp
 have h1 := ga hs (keys := []) hx MJ (by rw [hk]; simp)
 have hE : (E.kg w []).pure = ⟨E.F, fun _ _ => none, E.gl⟩ := by
  refine Env.Ef (funext fun ad => ?_) rfl
  simp only [Env.pure,Env.kg]
  cases hh : E.F ad <;> simp
 rw [hE] at h1
 have RY : key < mem.length := (List.getElem?_eq_some_iff.1 bX).1
 have gf : ∀ v, E.aG key v = none := hs.mem key _ bX
 have eS : aV ⟨E.F, fun _ _ => none, E.gl⟩ w { tmps := #[], defers := [] } { fr := [], mem := [] } :=
  ⟨hs.F, (fun k v g e c h => by cases h), (fun k B h => by simp at h), (fun k _ v => rfl), (fun k B h => by simp at h), (fun k k' v v' g e c e' c' h => by cases h), .nil _⟩
 refine (h.2 _ w xs eS h1).mono ?_
 rintro en w' ⟨E', x, rfl, dm, lr, hr⟩
 have iD : ∀ k v g e c, E'.aG k v = some (g, e, c) → w.heap.size ≤ g := fun k v g e c hb => by
  rcases dm.aG _ _ _ _ _ hb with ⟨_, _, _, _, h⟩ | h
  ·cases h
  ·exact h
 have hold : ∀ b, b < w.heap.size → w'.heap[b]? = w.heap[b]? := fun b hb => dm.heap b hb fun _ _ _ _ h => by cases h
 have RZ : ∀ ad y, E'.F ad = some y → E.F ad = some y ∨ w.heap.size ≤ ad.block := fun ad y hy => by
  rcases dm.F _ _ hy with h | h | ⟨_, _, _, _, h⟩
  ·exact .inl h
  ·exact .inr h
  ·cases h
 have Kn : (⟨E'.F, fun k v => if k = key then (if v = 0 then E'.aG 0 v0 else none) else E.aG k v, E'.gl⟩ : Env).aG key 0 = E'.aG 0 v0 := by simp
 have EG : ∀ v, v ≠ 0 → (⟨E'.F, fun k v => if k = key then (if v = 0 then E'.aG 0 v0 else none) else E.aG k v, E'.gl⟩ : Env).aG key v = none := fun v hv => by simp [hv]
 have ke : ∀ k v, k ≠ key → (⟨E'.F, fun k v => if k = key then (if v = 0 then E'.aG 0 v0 else none) else E.aG k v, E'.gl⟩ : Env).aG k v = E.aG k v := fun k v hk => if_neg hk
 generalize R0 : (⟨E'.F, fun k v => if k = key then (if v = 0 then E'.aG 0 v0 else none) else E.aG k v, E'.gl⟩ : Env) = E2 at Kn EG ke
 have eJ : E2.F = E'.F := by rw [← R0]
 have u7 : E2.pure = E'.pure := Env.Ef eJ rfl
 have C7 : ∀ v t, E2.aG key v = some t → v = 0 ∧ E'.aG 0 v0 = some t := fun v t ht => by
  by_cases hv : v = 0
  ·subst hv; exact ⟨rfl, Kn ▸ ht⟩
  ·rw [EG v hv] at ht; cases ht
 have hle : E.le E2 := ⟨fun ad y hy => by rw [eJ]; exact dm.le.F _ _ hy, fun k v t hk => by
  by_cases bS : k = key
  ·subst bS; rw [gf v] at hk; cases hk
  ·rw [ke k v bS]; exact hk⟩
 refine ⟨E2, x, rfl, ⟨hle, fun k v g e c hk => ?_, fun ad y hy => ?_, dm.os, dm.tape, dm.output, dm.size, fun b hb _ => hold b hb⟩, ⟨fun ad y hy => lr.F _ _ (by rw [← eJ]; exact hy), fun k v g e c hk => ?_, fun k B hk => ?_, fun k hk v => ?_, fun k B hk v hv => ?_, fun k k' v v' g e1 c1 e2 c2 h5 h6 => ?_, .nil _⟩, ?_⟩
 ·by_cases bS : k = key
  ·subst bS; obtain ⟨-, h⟩ := C7 _ _ hk; exact .inr (iD _ _ _ _ _ h)
  ·rw [ke k v bS] at hk; exact .inl ⟨k, v, e, c, hk⟩
 ·rw [eJ] at hy
  rcases RZ ad y hy with h | h
  ·exact .inl h
  ·exact .inr (.inl h)
 ·by_cases bS : k = key
  ·subst bS; obtain ⟨-, h⟩ := C7 _ _ hk; exact lr.lt _ _ _ _ _ h
  ·rw [ke k v bS] at hk; have := hs.lt _ _ _ _ _ hk; have := dm.size; omega
 ·rw [List.getElem?_set] at hk
  by_cases bS : key = k
  ·subst bS
   simp only [if_true,RY] at hk
   cases hk
   have h0 := lr.mem 0 _ rfl
   rcases h0 with ⟨h1, h2⟩ | ⟨g, T, ys, c, h1, h2, h3, h4, h5, h6⟩
   ·exact .inl ⟨h1, by rw [Kn]; exact h2⟩
   ·exact .inr ⟨g, T, ys, c, by rw [Kn]; exact h1, h2, h3, h4, by rw [u7]; exact h5, fun o => by rw [eJ]; exact h6 o⟩
  ·rw [if_neg bS] at hk
   refine (hs.mem k B hk).mono hle (fun v hv => by rw [ke k v (fun e => bS e.symm)]; exact hv) (fun g e c hb => hold g (hs.lt _ _ _ _ _ hb)) fun g e c o hb hn => ?_
   rw [eJ]
   cases hy : E'.F ⟨g, o, none⟩ with
   | none => rfl
   | some y =>
    rcases RZ _ y hy with h | h
    ·rw [hn] at h; cases h
    ·have := hs.lt _ _ _ _ _ hb; simp at h; omega
 ·dsimp only at hk
  rw [List.length_set] at hk
  rw [ke k v (by omega)]; exact hs.top k (by dsimp only; omega) v
 ·rw [List.getElem?_set] at hk
  by_cases bS : key = k
  ·subst bS
   simp only [if_true,RY] at hk
   cases hk
   exact EG v (by simp [au.ay] at hv; omega)
  ·rw [if_neg bS] at hk
   rw [ke k v (fun e => bS e.symm)]; exact hs.ay k B hk v hv
 ·by_cases fK : k = key <;> by_cases kC : k' = key
  ·rw [fK, kC]
  ·subst fK
   obtain ⟨-, h⟩ := C7 _ _ h5
   rw [ke k' _ kC] at h6
   have := hs.lt _ _ _ _ _ h6; have := iD _ _ _ _ _ h; omega
  ·subst kC
   obtain ⟨-, h⟩ := C7 _ _ h6
   rw [ke k _ fK] at h5
   have := hs.lt _ _ _ _ _ h5; have := iD _ _ _ _ _ h; omega
  ·rw [ke k _ fK] at h5; rw [ke k' _ kC] at h6
   exact hs.apart _ _ _ _ _ _ _ _ _ h5 h6
 ·rcases wC hr with ⟨h0, rfl⟩ | ⟨g, e, c, aa, cap, rfl, hb, hl, h0, hc⟩
  ·rw [h0]; exact .cZ _ _ _ _
  ·exact .ms _ _ _ _ _ g e c _ _ (by rw [Kn]; exact hb) hl h0 hc

theorem aV.GX {E : Env} {w : World} {a : Act} {st : St} (hs : aV E w a st) {xs : Array Value} {rs : List V} {e c : Nat} (T : TypeId) (hl : rs.length ≤ c) (hr : fF E.pure e rs (fun o => xs[o]?)) :
  ∃ E', aV E' (w.alloc (.cells xs T (0, 0))) a st ∧ dk E w E' (w.alloc (.cells xs T (0, 0))) ∧ aT E' (.slice rs) (.slice (some ⟨w.heap.size, 0, none⟩) rs.length c) := by
 have lB : ∀ o, (w.alloc (.cells xs T (0, 0))).cell? ⟨w.heap.size, o, none⟩ = xs[o]? := fun o => jf (heap_alloc_new w _) o
 have hle : E.le ⟨fun ad => match E.F ad with | some x => some x | none => if ad.block = w.heap.size ∧ ad.spot = none then xs[ad.off]? else none, E.aG, E.gl.mono fun ad x h => by simp only [h]⟩ := ⟨fun ad x h => by dsimp only; rw [h], fun _ _ _ h => h⟩
 refine ⟨⟨fun ad => match E.F ad with | some x => some x | none => if ad.block = w.heap.size ∧ ad.spot = none then xs[ad.off]? else none, E.aG, E.gl.mono fun ad x h => by simp only [h]⟩, ⟨fun ad x hx => ?_, fun k v g e c h => ?_, fun k B hB => ?_, hs.top, hs.ay, hs.apart, hs.fr.mono hle⟩, ⟨hle, fun k v g e c h => .inl ⟨k, v, e, c, h⟩, fun ad x hx => ?_, rfl, rfl, rfl, by simp, fun b hb _ => Go.RowKit.Below.heap_alloc w _ b hb⟩, ?_⟩
 ·dsimp only at hx
  split at hx
  ·rename_i y hy; cases hx
   rw [World.cell?_alloc_lt w _ ad (World.block_lt_of_cell? w ad (hs.F ad _ hy))]; exact hs.F ad _ hy
  ·split at hx
   ·rename_i hc
    obtain ⟨b, o, el⟩ := ad
    obtain ⟨rfl, rfl⟩ := hc
    rw [lB]; exact hx
   ·cases hx
 ·have := hs.lt _ _ _ _ _ h; simp; omega
 ·refine (hs.mem k B hB).mono hle (fun v h => h) (fun g e' c' hb => Go.RowKit.Below.heap_alloc w _ g (hs.lt _ _ _ _ _ hb)) fun g e c o hb hn => ?_
  dsimp only
  rw [hn]
  have := hs.lt _ _ _ _ _ hb
  simp; intro h; omega
 ·dsimp only at hx
  split at hx
  ·rename_i y hy; cases hx; exact .inl hy
  ·split at hx
   ·rename_i hc; exact .inr (.inl (by rw [hc.1]; exact Nat.le_refl _))
   ·cases hx
 ·have hn : ∀ o, E.F ⟨w.heap.size, o, none⟩ = none := fun o => by
   cases hx : E.F ⟨w.heap.size, o, none⟩ with
   | none => rfl
   | some x => have := World.block_lt_of_cell? w _ (hs.F _ _ hx); simp at this
  refine .slice _ rs _ c e ⟨w.heap.size, 0, none⟩ (fun i j => (xs[i * e + j]?).getD undef) (fun _ => rfl) hl (fun i row hi => (hr i row hi).1) (fun i row j cc hi hj => ?_) (fun i row j cc hi hj => ?_) fun i row j cc hi hj => ?_
  ·obtain ⟨x, hx, h1, h2⟩ := (hr i row hi).2 j cc hj
   rw [add_lit, Nat.zero_add]
   simp only [hn,true_and,if_true,and_self]
   dsimp only at hx; rw [hx]; rfl
  ·obtain ⟨x, hx, h1, h2⟩ := (hr i row hi).2 j cc hj
   dsimp only at hx ⊢; rw [hx]; exact h1
  ·obtain ⟨x, hx, h1, h2⟩ := (hr i row hi).2 j cc hj
   dsimp only at hx ⊢; rw [hx]; exact h2.mono (Env.fC hle)

section
variable {P : Program} {tt : Table} (ht : TT P tt)
include ht
theorem sZ {E : Env} {w : World} {a : Act} {st : St} (hs : aV E w a st) {o : Oper} {mem : List au} {Q : V → Prop} {R : St → Prop} (h : mP P tt o { st with mem := mem } Q) (hQ : ∀ v, Q v → R (st.put o.dst v))
  (kh : ∀ v, fR P tt { st with mem := mem } o = some v → ∃ x, (execOp a.eval o).run P w = .ok (.value x) w ∧ aT E v x)
  {ρ : Option Nat} {n : Nat} {next : Act → World → Prop} {Q' : Exit → Act → World → Prop} (hn : ∀ v w', yB E w a o.dst R v w' → next (a.put o.dst v) w') : o.wpIn (WF ρ) n P a w next Q' := by
 obtain ⟨dst, op, type, pos, after, guard⟩ := o
 have gen : ∀ (kr : ∀ c, op ≠ .defer c), (∀ f xs ts, op ≠ .call { callee := .value f, args := xs, argTypes := ts }) → (∀ T ps, op ≠ .build T ps) → (∀ T l ps, op ≠ .buildSlice T l ps) → Oper.wpIn (WF ρ) n P { dst := dst, op := op, type := type, pos := pos, after := after, guard := guard } a w next Q' := by
  intro kr h1 h2 h3
  have hv : ∃ v, fR P tt { st with mem := mem } { dst := dst, op := op, type := type, pos := pos, after := after, guard := guard } = some v ∧ Q v := by
   unfold mP at h
   split at h
   ·rename_i heq; exact absurd heq (h1 _ _ _)
   ·unfold ry at h
    dsimp only at h
    split at h
    ·rename_i v hv
     split at hv
     ·exact absurd rfl (h2 _ _)
     ·exact absurd rfl (h3 _ _ _)
     ·exact ⟨v, hv, h⟩
    ·exact h.elim
  obtain ⟨v, hv, hq⟩ := hv
  obtain ⟨x, h4, h5⟩ := kh v hv
  exact aY kr h4 (hn _ _ ⟨E, _, hs.put dst h5, dk.refl E w, hQ _ hq⟩)
 cases op
 case defer c => simp [mP, ry, fR] at h
 case build T ps =>
  simp only [mP,ry,b9] at h
  split at h
  ·rename_i v hv
   obtain ⟨x, h1, h2⟩ := ox ht hs hv
   exact aY (by simp) (aW h1) (hn _ _ ⟨E, _, hs.put dst h2, dk.refl E w, hQ _ h⟩)
  ·exact h.elim
 case buildSlice T len ps =>
  simp only [mP,ry,b9] at h
  split at h
  ·rename_i v hv
   split at hv
   ·rename_i size rs hl
    cases hv
    obtain ⟨Z, e, h1, h2, h3, h4⟩ := wB ht (fun p _ => hs.eval p.2) hl
    obtain ⟨E', h5, h6, h7⟩ := hs.GX (xs := Z) (rs := rs) (c := len) e (by omega) h4
    rw [h3] at h7
    exact aY (by simp) (dB h1) (hn _ _ ⟨E', _, h5.put dst h7, h6, hQ _ h⟩)
   ·cases hv
  ·exact h.elim
 case call c =>
  obtain ⟨callee, args, ts⟩ := c
  cases callee with
  | value f =>
   simp only [mP,b9] at h
   split at h
   ·rename_i g vs hg
    obtain ⟨vs', r, h1, h2, h3⟩ := h
    obtain ⟨h4, h5⟩ := oD (mem := st.mem) h1
    obtain ⟨ys, h6, h7⟩ := lH (P := P) (w := w) (hs.eval f) (hs.jF args) hg
    have hc : vg P g vs st dst R := by
     rcases h2 with h2 | h2
     ·exact .inl ⟨vs', r, h4, h2, by rw [h5, oF]; exact hQ _ h3⟩
     ·refine .inr (.inr (.inr ⟨r, fun E1 w1 YW AZ uA => ?_, hQ _ h3⟩))
      obtain ⟨x, g1, g2⟩ := h2 E1 w1 YW AZ (oE h1 uA)
      exact ⟨x, g1, g2⟩
    rcases qK hs hc h6 with ⟨h8, h9⟩ | ⟨v, h8, h9⟩
    ·refine qI (by simp) (f := g) (xs := ys) ?_ h9 fun e w' ⟨v, hv, ha⟩ => ⟨v, hv, hn _ _ ha⟩
     rw [← h8, ← h7]
     simp only [execOp,resolve]
    ·refine aY (by simp) (v := v) ?_ (hn _ _ h9)
     rw [← h8, ← h7]
     simp only [execOp,resolve]
   ·exact h.elim
  | _ => exact gen (by simp) (by simp) (by simp) (by simp)
 all_goals exact gen (by simp) (by simp) (by simp) (by simp)

omit ht in
theorem oG {mem : List au} {k : Nat} (h : mem[k]? = some .hole) (B : au) : aX mem k B = mem.set k B := by
 unfold aX; rw [if_pos (List.getElem?_eq_some_iff.1 h).1]

theorem yQ {all : Array Oper} {base : Nat} {E : Env} {w : World} {a : Act} {st : St} (hs : aV E w a st) {i : Nat} {o : Oper} {p : Pl} {Q : St → Prop} (hi : all[i]? = some o) (h : dC P tt all base o p st Q)
  {ρ : Option Nat} {n : Nat} {next : Act → World → Prop} {Q' : Exit → Act → World → Prop} (hn : ∀ v w', yB E w a o.dst Q v w' → next (a.put o.dst v) w') : wpOpIn (WF ρ) n P all Q' i next a w := by
 unfold wpOpIn
 rw [hi]
 dsimp only
 unfold dC at h
 split at h
 ·rename_i hw
  rw [if_pos (gz hs hw)]
  split at h
  ·rw [rN] at h; exact sZ ht hs h (fun _ h => h) (fun v hv => mh ht hs (Km hv)) hn
  ·rw [rN] at h; exact sZ ht hs h (fun _ h => h) (fun v hv => mh ht (hs.dc _) hv) hn
  ·obtain ⟨hh, h⟩ := h
   rw [gg] at hh
   split at h
   ·rename_i B v hb
    refine da ht hs (key := base + p.key) (.inl hh) ?_ hn
    unfold dZ at hb
    unfold bx
    split at hb
    ·rename_i T heq
     rw [heq]
     dsimp only
     split at hb
     ·rename_i i hi; cases hb; rw [hi]; dsimp only; rw [oG hh]; exact h
     ·cases hb
    ·rename_i heq
     rw [heq]
     dsimp only
     split at hb
     ·rename_i i hi; cases hb; rw [hi]; dsimp only; rw [oG hh]; exact h
     ·cases hb
    ·rename_i heq
     rw [heq]
     dsimp only
     split at hb
     ·rename_i i hi; cases hb; rw [hi]; dsimp only; rw [oG hh]; exact h
     ·cases hb
    ·rename_i heq
     rw [heq]
     dsimp only
     cases hb; rw [oG hh]; exact h
    ·rename_i heq
     rw [heq]
     dsimp only
     split at hb
     ·rename_i i hi; cases hb; rw [hi]; dsimp only; rw [oG hh]; exact h
     ·cases hb
    ·cases hb
   ·rw [vl] at h
    unfold kW at h
    split at h
    ·rename_i f xs ts heq
     split at h
     ·rename_i g vs hg
      obtain ⟨vs', e, rs, h1, h2, h3⟩ := h
      refine da ht hs (key := base + p.key) (.inl hh) ?_ hn
      unfold bx
      rw [heq]
      dsimp only
      split
      ·rename_i k hk; rw [hk] at hg; simp [ba] at hg
      ·rw [hg]
       exact .inr (.inl ⟨_, _, h2.hole h1 hh, h3⟩)
     ·exact h.elim
    ·exact h.elim
  ·obtain ⟨hh, h⟩ := h
   rw [gg] at hh
   split at h
   ·rename_i m v hb
    refine da ht hs (key := base + p.key) (.inl hh) ?_ hn
    unfold oA at hb
    unfold bx
    split at hb
    ·rename_i heq
     rw [heq]
     dsimp only
     split at hb
     ·rename_i i hi; cases hb; rw [hi]; exact h
     ·cases hb
    ·rename_i xs ts heq
     rw [heq]
     dsimp only
     split at hb
     ·rename_i s x Ka
      rw [Ka]
      dsimp only
      split at hb
      ·rename_i size nZ rows ha
       rw [ha]
       simp only [Option.some.injEq] at hb
       dsimp only
       rw [hb]; exact h
      ·cases hb
     ·cases hb
    ·rename_i heq
     rw [heq]
     dsimp only
     split at hb
     ·rename_i i hi; cases hb; rw [hi]; exact h
     ·cases hb
    ·rename_i heq
     rw [heq]
     dsimp only
     split at hb
     ·rename_i i hi; cases hb; rw [hi]; exact h
     ·cases hb
    ·cases hb
   ·exact h.elim
  ·split at h
   ·rename_i m hb
    refine da ht hs (key := st.mem.length) (.inr rfl) ?_ hn
    unfold rz at hb
    unfold bx
    split at hb
    ·rename_i heq
     rw [heq]
     dsimp only
     split at hb
     ·rename_i b off hp
      split at hb
      ·rename_i hk
       subst hk
       rw [hp, hb]; exact h
      ·cases hb
     ·cases hb
    ·cases hb
   ·exact h.elim
  ·split at h
   ·rename_i v hb
    refine da ht hs (key := st.mem.length) (.inr rfl) ?_ hn
    have ho := Ez (P := P) hb
    unfold kX at hb
    unfold bx
    split at hb
    ·rename_i heq
     rw [heq]
     dsimp only
     rw [ho]; exact h
    ·cases hb
   ·exact h.elim
  ·refine da ht hs (key := st.mem.length) (.inr rfl) ?_ hn
   unfold lK at h
   unfold bx
   split at h
   ·rename_i f xs ts heq
    split at h
    ·rename_i g vs hg
     obtain ⟨vs', r, h1, h2, h3⟩ := h
     rw [heq]
     dsimp only
     split
     ·rename_i k hk; rw [hk] at hg; simp [ba] at hg
     ·rw [hg]
      exact .inl ⟨vs', r, h1, h2, h3⟩
    ·exact h.elim
   ·exact h.elim
  ·refine da ht hs (key := st.mem.length) (.inr rfl) ?_ hn
   unfold vm at h
   unfold bx
   split at h
   ·rename_i f xs ts heq
    split at h
    ·rename_i g vs hg
     obtain ⟨v, B0, B, -, -, h1, h2, h3⟩ := h
     rw [heq]
     dsimp only
     split
     ·rename_i k hk; rw [hk] at hg; simp [ba] at hg
     ·rw [hg]
      exact .inr (.inl ⟨_, _, h2 _ h1, h3⟩)
    ·exact h.elim
   ·exact h.elim
 ·rename_i hw
  rw [if_neg (by rw [gz hs hw]; simp)]
  exact ⟨fun _ _ => trivial, hn _ _ ⟨E, _, hs.put o.dst (.sc _ _), dk.refl E w, h⟩⟩
 ·exact h.elim
end
end Go.Eng
end

section
namespace Go.Eng
variable [aE]

def Uo : Pl := ⟨.n, 0, [], [], []⟩
def iJ (o : Oper) (k : Nat) : Bool := o.after.any fun e => Region.binds .any e && e.on == k
def lM (all : Array Oper) (y : Oper) (py : Pl) : Nat → List Oper → List Pl → Bool
 | _, [], _ => true
 | k, x :: r, px => (iJ y k || py.MT.contains k || pL all x (px.headD Uo) y py) && lM all y py (k + 1) r px.tail
def Bg (o : Oper) (i : Nat) : Bool := o.after.all fun e => !Region.binds .any e || decide (e.on < i)
def lN (plan : List Pl) (i : Nat) : Pl := (plan[i]?).getD Uo
def GY (plan : List Pl) (y : Oper) (py : Pl) : Bool := py.MT.all fun k => iJ y k || y.after.any fun e => Region.binds .any e && (lN plan e.on).MT.contains k
def rO (all : Array Oper) (plan : List Pl) : Nat → List Oper → List Pl → Bool
 | _, [], _ => true
 | i, y :: r, py => Bg y i && GY plan y (py.headD Uo) && lM all y (py.headD Uo) 0 (all.toList.take i) plan && rO all plan (i + 1) r py.tail
def s8 (all : Array Oper) (plan : List Pl) : Bool := rO all plan 0 all.toList plan

theorem nB {α : Type} (l : List α) (i : Nat) (d : α) : (l.drop i).headD d = (l[i]?).getD d := by
 rw [List.headD_eq_head?_getD, List.head?_drop]

theorem oH {all : Array Oper} {y : Oper} {py : Pl} {plan : List Pl} : ∀ {l : List Oper} {n : Nat}, lM all y py n l (plan.drop n) = true → ∀ k x, l[k]? = some x → (iJ y (n + k) = true ∨ (n + k) ∈ py.MT) ∨ pL all x (lN plan (n + k)) y py = true
 | [], n, _, k, x, h => by simp at h
 | z :: r, n, h, k, x, hk => by
  simp only [lM,Bool.and_eq_true,Bool.or_eq_true,nB] at h
  cases k with
  | zero => simp at hk; subst hk; simpa [lN] using h.1
  | succ k =>
   have h2 := h.2
   rw [List.tail_drop] at h2
   have := oH h2 k x (by simpa using hk)
   rw [Nat.add_assoc, Nat.add_comm 1 k] at this
   exact this
theorem qQ {all : Array Oper} {plan : List Pl} : ∀ {l : List Oper} {n : Nat}, rO all plan n l (plan.drop n) = true → ∀ k y, l[k]? = some y → (Bg y (n + k) = true ∧ GY plan y (lN plan (n + k)) = true) ∧ lM all y (lN plan (n + k)) 0 (all.toList.take (n + k)) plan = true
 | [], n, _, k, x, h => by simp at h
 | z :: r, n, h, k, x, hk => by
  simp only [rO,Bool.and_eq_true,nB] at h
  cases k with
  | zero => simp at hk; subst hk; exact h.1
  | succ k =>
   have h2 := h.2
   rw [List.tail_drop] at h2
   have := qQ h2 k x (by simpa using hk)
   rw [Nat.add_assoc, Nat.add_comm 1 k] at this
   exact this
theorem jL {all : Array Oper} {plan : List Pl} (h : s8 all plan = true) {i : Nat} {y : Oper} (hi : all[i]? = some y) :
  (∀ e ∈ y.after, Region.binds .any e = true → e.on < i) ∧ (∀ k ∈ (lN plan i).MT, iJ y k = true ∨ ∃ e ∈ y.after, Region.binds .any e = true ∧ k ∈ (lN plan e.on).MT) ∧ ∀ k x, k < i → all[k]? = some x → (iJ y k = true ∨ k ∈ (lN plan i).MT) ∨ pL all x (lN plan k) y (lN plan i) = true := by
 have := qQ (n := 0) h i y (by simpa using hi)
 rw [Nat.zero_add] at this
 obtain ⟨⟨h1, h3⟩, h2⟩ := this
 refine ⟨fun e he hb => ?_, fun k hk => ?_, fun k x hk hx => ?_⟩
 ·unfold Bg at h1
  have := Array.all_eq_true_iff_forall_mem.1 h1 e he
  simpa [hb] using this
 ·unfold GY at h3
  have := List.all_eq_true.1 h3 k hk
  rw [Bool.or_eq_true] at this
  refine this.imp id fun h => ?_
  rw [Array.any_eq_true'] at h
  obtain ⟨e, he, h⟩ := h
  rw [Bool.and_eq_true] at h
  exact ⟨e, he, h.1, by simpa using h.2⟩
 ·have := oH (n := 0) h2 k x (by rw [List.getElem?_take_of_lt hk]; simpa using hx)
  rwa [Nat.zero_add] at this

section
variable {P : Program} {tt : Table} {all : Array Oper} {plan : List Pl} {base : Nat}
def yR (P : Program) (tt : Table) (all : Array Oper) (plan : List Pl) (base : Nat) : List Nat → St → (St → Prop) → Prop
 | [], st, K => K st
 | i :: r, st, K => match all[i]? with
  | some o => dC P tt all base o (lN plan i) st fun st' => yR P tt all plan base r st' K
  | none => False
theorem s9 {o : Oper} {p : Pl} {st : St} {K K' : St → Prop} (h : ∀ s, K s → K' s) (hh : dC P tt all base o p st K) : dC P tt all base o p st K' := by
 by_cases hz : p.cls = .z
 ·unfold dC at hh ⊢
  split at hh
  ·rw [hz] at hh ⊢
   exact sU hh h
  ·exact h _ hh
  ·exact hh.elim
 ·obtain ⟨v, m, h1, h2⟩ := (dU hz).1 hh
  exact (dU hz).2 ⟨v, m, h1, h _ h2⟩
theorem ta {i : Nat} {o : Oper} (hi : all[i]? = some o) {K : St → Prop} {σ2 : List Nat} : ∀ {σ1 : List Nat} {st : St}, (∀ k ∈ σ1, ∀ x, all[k]? = some x → pL all x (lN plan k) o (lN plan i) = true) →
  yR P tt all plan base (σ1 ++ i :: σ2) st K → dC P tt all base o (lN plan i) st fun st' => yR P tt all plan base (σ1 ++ σ2) st' K
 | [], st, _, h => by simpa [yR, hi] using h
 | k :: r, st, hp, h => by
  simp only [List.cons_append,yR] at h ⊢
  cases hk : all[k]? with
  | none => rw [hk] at h; exact h.elim
  | some x =>
   rw [hk] at h
   dsimp only at h ⊢
   exact Bc (hp k (by simp) x hk) (s9 (fun s hs => ta hi (fun k' eQ => hp k' (by simp [eQ])) hs) h)

theorem oI {y : Oper} {k : Nat} {listed : Array Bool} (h : iJ y k = true) (hl : ∀ e ∈ y.after, Region.binds .any e = true → listed.getD e.on false = true) : listed.getD k false = true := by
 unfold iJ at h
 rw [Array.any_eq_true'] at h
 obtain ⟨e, he, h⟩ := h
 rw [Bool.and_eq_true, beq_iff_eq] at h
 rw [← h.2]; exact hl e he h.1

def GZ (all : Array Oper) (listed : Array Bool) : Prop := ∀ (i : Nat) (o : Oper), listed.getD i false = true → all[i]? = some o → ∀ e ∈ o.after, Region.binds .any e = true → listed.getD e.on false = true
theorem Bh (bB : s8 all plan = true) {listed : Array Bool} (hc : GZ all listed) (kd : listed.size = all.size) : ∀ (i : Nat) (y : Oper), all[i]? = some y → (∀ e ∈ y.after, Region.binds .any e = true → listed.getD e.on false = true) → ∀ k ∈ (lN plan i).MT, listed.getD k false = true := by
 intro i
 induction i using Nat.strongRecOn with
 | _ i ih =>
  intro y hy hl k hk
  rcases (jL bB hy).2.1 k hk with h | ⟨e, he, hb, h⟩
  ·exact oI h hl
  ·have h1 := hl e he hb
   have aF : e.on < all.size := by
    have : e.on < i := (jL bB hy).1 e he hb
    have := (Array.getElem?_eq_some_iff.1 hy).1
    omega
   have hz := Array.getElem?_eq_getElem aF
   exact ih e.on ((jL bB hy).1 e he hb) _ hz (hc e.on _ h1 hz) k h

theorem yS (ht : TT P tt) (bB : s8 all plan = true) {ρ : Option Nat} {n : Nat} {K : St → Prop} {Q' : Exit → Act → World → Prop} : ∀ (fuel : Nat) (listed : Array Bool) (σ : List Nat), listed.size = all.size → GZ all listed → σ.length ≤ fuel → σ.Pairwise (· < ·) → (∀ i, i ∈ σ ↔ listed[i]? = some false) →
  ∀ {E : Env} {w : World} {a : Act} {st : St}, aV E w a st → yR P tt all plan base σ st K → (∀ a' w', a'.defers = a.defers → (∃ E' st', aV E' w' a' st' ∧ dk E w E' w' ∧ K st') → Q' .normal a' w') → wpAnyIn (WF ρ) n P .any all Q' fuel listed a w := by
 intro fuel
 have done : ∀ (listed : Array Bool) (σ : List Nat), listed.size = all.size → σ.Pairwise (· < ·) → (∀ i, i ∈ σ ↔ listed[i]? = some false) → Region.ready .any all listed = [] → σ = [] := by
  intro listed σ kd vp wU hr
  cases σ with
  | nil => rfl
  | cons i r =>
   exfalso
   have Up := (wU i).1 (by simp)
   have aF : i < all.size := by rw [← kd]; exact (Array.getElem?_eq_some_iff.1 Up).1
   have : i ∈ Region.ready .any all listed := by
    refine mem_ready.2 ⟨by simp [Array.getD_eq_getD_getElem?, Up], all[i], Array.getElem?_eq_getElem aF, fun e he hb => ?_⟩
    have NI := (jL bB (Array.getElem?_eq_getElem aF)).1 e he hb
    have hs : e.on < listed.size := by omega
    cases hv : listed[e.on] with
    | true => simp [Array.getD_eq_getD_getElem?, Array.getElem?_eq_getElem hs, hv]
    | false =>
     have : e.on ∈ i :: r := (wU e.on).2 (by rw [Array.getElem?_eq_getElem hs, hv])
     rcases List.mem_cons.1 this with h | h
     ·omega
     ·have := List.rel_of_pairwise_cons vp h; omega
   rw [hr] at this; cases this
 induction fuel with
 | zero =>
  intro listed σ kd kf hlen vp wU E w a st hs h hq
  have hσ : σ = [] := List.length_eq_zero_iff.1 (by omega)
  subst hσ
  refine ⟨?_, hq _ _ rfl ⟨E, st, hs, dk.refl E w, h⟩⟩
  cases hr : Region.ready .any all listed with
  | nil => rfl
  | cons j l =>
   have hj : j ∈ Region.ready .any all listed := by rw [hr]; simp
   obtain ⟨h0, o, ho, -⟩ := mem_ready.1 hj
   have aF : j < listed.size := by rw [kd]; exact (Array.getElem?_eq_some_iff.1 ho).1
   have : j ∈ ([] : List Nat) := (wU j).2 (by
    rw [Array.getElem?_eq_getElem aF]; congr 1
    simpa [Array.getD_eq_getD_getElem?, Array.getElem?_eq_getElem aF] using h0)
   cases this
 | succ fuel ih =>
  intro listed σ kd kf hlen vp wU E w a st hs h hq
  refine ⟨fun hr => ?_, fun i hi => ?_⟩
  ·have := done listed σ kd vp wU hr
   subst this
   exact hq _ _ rfl ⟨E, st, hs, dk.refl E w, h⟩
  ·obtain ⟨h0, o, ho, Oh⟩ := mem_ready.1 hi
   have aF : i < listed.size := by rw [kd]; exact (Array.getElem?_eq_some_iff.1 ho).1
   have Up : listed[i]? = some false := by
    rw [Array.getElem?_eq_getElem aF]; congr 1
    simpa [Array.getD_eq_getD_getElem?, Array.getElem?_eq_getElem aF] using h0
   obtain ⟨σ1, σ2, rfl⟩ := List.append_of_mem ((wU i).2 Up)
   rw [List.pairwise_append] at vp
   obtain ⟨eS, eD, Oi⟩ := vp
   rw [List.pairwise_cons] at eD
   have kZ := ta ho (σ1 := σ1) (fun k hk x hx => by
    have Vo : k < i := Oi k hk i (by simp)
    rcases (jL bB ho).2.2 k x Vo hx with hw | hw
    ·exfalso
     have h1 := hw.elim (fun hw => oI hw Oh) fun hw => Bh bB kf kd i o ho Oh k hw
     have h2 := (wU k).1 (by simp [hk])
     rw [Array.getD_eq_getD_getElem?, h2] at h1
     cases h1
    ·exact hw) h
   refine yQ ht hs ho kZ ?_
   rintro v w' ⟨E', st', h1, h2, h3⟩
   refine ih (listed.setIfInBounds i true) (σ1 ++ σ2) (by simpa using kd) ?_ ?_ ?_ ?_ h1 h3 fun a' Xx hd ⟨xU, N0, h4, h5, h6⟩ => hq _ _ (hd.trans (put_defers _ _ _)) ⟨xU, N0, h4, h2.trans h5, h6⟩
   ·intro j z hj hz e he hb
    by_cases QT : j = i
    ·subst QT
     rw [ho] at hz; cases hz
     exact getD_set_true (Oh e he hb)
    ·rw [getD_set_ne false (fun e => QT e.symm)] at hj
     exact getD_set_true (kf j z hj hz e he hb)
   ·simp at hlen ⊢; omega
   ·rw [List.pairwise_append]
    exact ⟨eS, eD.2, fun x hx y hy => Oi x hx y (by simp [hy])⟩
   ·intro j
    rw [Array.getElem?_setIfInBounds]
    by_cases QT : i = j
    ·subst QT
     rw [if_pos rfl]
     constructor
     ·intro hj
      rcases List.mem_append.1 hj with h | h
      ·have := Oi i h i (by simp); omega
      ·have := eD.1 i h; omega
     ·split
      ·intro h; cases h
      ·intro h; cases h
    ·rw [if_neg QT, ← wU j]
     simp only [List.mem_append,List.mem_cons]
     constructor
     ·rintro (h | h)
      ·exact .inl h
      ·exact .inr (.inr h)
     ·rintro (h | h | h)
      ·exact .inl h
      ·exact absurd h.symm QT
      ·exact .inr h

def runM (P : Program) (tt : Table) (all : Array Oper) (base : Nat) : List Oper → List Pl → St → (St → Prop) → Prop
 | [], _, st, K => K st
 | o :: r, p :: ps, st, K => dC P tt all base o p st fun st' => runM P tt all base r ps st' K
 | _ :: _, [], _, _ => False
theorem G0 {K : St → Prop} : ∀ {l : List Oper} {n : Nat} {st : St}, (∀ k x, l[k]? = some x → all[n + k]? = some x) → runM P tt all base l (plan.drop n) st K → yR P tt all plan base (List.range' n l.length) st K
 | [], n, st, _, h => h
 | o :: r, n, st, bn, h => by
  have ho : all[n]? = some o := bn 0 o rfl
  rw [List.length_cons, List.range'_succ, yR, ho]
  dsimp only
  cases hd : plan.drop n with
  | nil => rw [hd] at h; exact h.elim
  | cons p ps =>
   rw [hd] at h
   have hp : lN plan n = p := by rw [lN, ← nB, hd]; rfl
   have Ko : ps = plan.drop (n + 1) := by rw [← List.tail_drop, hd]; rfl
   rw [hp]
   subst Ko
   exact s9 (fun s hs => G0 (fun k x hk => by have := bn (k + 1) x (by simpa using hk); rwa [show n + (k + 1) = n + 1 + k by omega] at this) hs) h

theorem aV.R1 {E : Env} {w : World} {a : Act} {st : St} (hs : aV E w a st) (m : Nat) : aV E w a { st with mem := st.mem ++ List.replicate m .hole } := by
 have get : ∀ {k : Nat} {B : au}, (st.mem ++ List.replicate m .hole)[k]? = some B → st.mem[k]? = some B ∨ (B = au.hole ∧ st.mem.length ≤ k) := fun {k B} h => by
  rcases Nat.lt_or_ge k st.mem.length with hk | hk
  ·rw [List.getElem?_append_left hk] at h; exact .inl h
  ·rw [List.getElem?_append_right hk, List.getElem?_replicate] at h
   split at h
   ·cases h; exact .inr ⟨rfl, hk⟩
   ·cases h
 refine ⟨hs.F, hs.lt, fun k B hk => ?_, fun k hk => hs.top k (by simp at hk; omega), fun k B hk v hv => ?_, hs.apart, hs.fr⟩
 ·rcases get hk with h | ⟨rfl, bS⟩
  ·exact hs.mem k B h
  ·exact fun v => hs.top k bS v
 ·rcases get hk with h | ⟨rfl, bS⟩
  ·exact hs.ay k B h v hv
  ·exact hs.top k bS v

theorem pP (ht : TT P tt) (hm : P.follows .mixedOrders = true) {ρ : Option Nat} {n0 : Nat} {st : St} {Q : Exit → St → Prop} (plan : List Pl) (m : Nat) {id : Nat} {ops : Array Oper} (bB : s8 ops plan = true)
  (h : runM P tt ops st.mem.length ops.toList plan { st with mem := st.mem ++ List.replicate m .hole } (Q .normal)) : gA P ρ n0 (.region id ops true) st Q := fun E0 w0 h0 E w a he hs uG => by
 refine wpIn_region_any hm ?_
 have hd : aV E { w with drawn := w.drawn + 1 } a { st with mem := st.mem ++ List.replicate m .hole } := (hs.drew (w := w)).R1 m
 have hI := G0 (all := ops) (plan := plan) (n := 0) (l := ops.toList) (fun k x hk => by rw [Nat.zero_add]; simpa using hk) h
 rw [← List.range_eq_range'] at hI
 refine yS (P := P) (tt := tt) ht bB ops.size _ (List.range ops.toList.length) (by simp) (fun j z hj => by simp [Array.getD_eq_getD_getElem?, Array.getElem?_replicate] at hj; split at hj <;> simp at hj) (by simp) (List.pairwise_lt_range) (fun i => ?_) hd hI fun a' w' R2 ⟨E', st', h1, h2, h3⟩ => ⟨E', st', h1, (he.trans (dk.drew E w)).trans h2, ?_, h3⟩
 ·simp only [List.mem_range,Array.getElem?_replicate]
  simp
 ·rw [R2]; exact (uG.F1 (dk.drew E w)).F1 h2
end
end Go.Eng
end

section
namespace Go.Eng
variable [aE]
open Go.RowKit (Below)

def kD : au → Bool
 | .rows _ _ _ => true
 | .mO _ _ _ => true
 | .dead => true
 | .hole => true
 | _ => false

theorem aR.live {P : Program} {f : FuncId} {vs vs' : List V} {b v s l : Nat} {aA : List au} (hp : cj [] vs = some vs') (h : aR P f vs' [] (.ms b v s l) aA) (hm : aA.all kD = true) (mem : List au) :
  aR P f vs mem (.ms (mem.length + b) v s l) (mem ++ aA) := by
 refine ⟨h.1, fun E w xs hs hx => ?_⟩
 obtain ⟨MJ, hk⟩ := oD (mem := mem) hp
 have h1 := ga hs (keys := []) hx MJ (by rw [hk]; simp)
 have hE : (E.kg w []).pure = ⟨E.F, fun _ _ => none, E.gl⟩ := by
  refine Env.Ef (funext fun ad => ?_) rfl
  simp only [Env.pure,Env.kg]
  cases hh : E.F ad <;> simp
 rw [hE] at h1
 have eS : aV ⟨E.F, fun _ _ => none, E.gl⟩ w { tmps := #[], defers := [] } { fr := [], mem := [] } :=
  ⟨hs.F, (fun k v g e c h => by cases h), (fun k B h => by simp at h), (fun k _ v => rfl), (fun k B h => by simp at h), (fun k k' v v' g e c e' c' h => by cases h), .nil _⟩
 refine (h.2 _ w xs eS h1).mono ?_
 rintro en w' ⟨E', x, rfl, dm, lr, hr⟩
 have iD : ∀ k v g e c, E'.aG k v = some (g, e, c) → w.heap.size ≤ g := fun k v g e c hb => by
  rcases dm.aG _ _ _ _ _ hb with ⟨_, _, _, _, h⟩ | h
  ·cases h
  ·exact h
 have hold : ∀ b, b < w.heap.size → w'.heap[b]? = w.heap[b]? := fun b hb => dm.heap b hb fun _ _ _ _ h => by cases h
 have RZ : ∀ ad y, E'.F ad = some y → E.F ad = some y ∨ w.heap.size ≤ ad.block := fun ad y hy => by
  rcases dm.F _ _ hy with h | h | ⟨_, _, _, _, h⟩
  ·exact .inl h
  ·exact .inr h
  ·cases h
 have ke : ∀ k v, k < mem.length → (⟨E'.F, fun k v => if k < mem.length then E.aG k v else E'.aG (k - mem.length) v, E'.gl⟩ : Env).aG k v = E.aG k v := fun k v hk => if_pos hk
 have nk : ∀ k v, mem.length ≤ k → (⟨E'.F, fun k v => if k < mem.length then E.aG k v else E'.aG (k - mem.length) v, E'.gl⟩ : Env).aG k v = E'.aG (k - mem.length) v := fun k v hk => if_neg (by omega)
 generalize R0 : (⟨E'.F, fun k v => if k < mem.length then E.aG k v else E'.aG (k - mem.length) v, E'.gl⟩ : Env) = E2 at ke nk
 have eJ : E2.F = E'.F := by rw [← R0]
 have u7 : E2.pure = E'.pure := Env.Ef eJ rfl
 have hle : E.le E2 := ⟨fun ad y hy => by rw [eJ]; exact dm.le.F _ _ hy, fun k v t hk => by
  rcases Nat.lt_or_ge k mem.length with bS | bS
  ·rw [ke k v bS]; exact hk
  ·rw [hs.top k bS v] at hk; cases hk⟩
 have get : ∀ {k : Nat} {B : au}, (mem ++ aA)[k]? = some B → (k < mem.length ∧ mem[k]? = some B) ∨ (mem.length ≤ k ∧ aA[k - mem.length]? = some B) := fun {k B} h => by
  rcases Nat.lt_or_ge k mem.length with hk | hk
  ·rw [List.getElem?_append_left hk] at h; exact .inl ⟨hk, h⟩
  ·rw [List.getElem?_append_right hk] at h; exact .inr ⟨hk, h⟩
 refine ⟨E2, x, rfl, ⟨hle, fun k v g e c hk => ?_, fun ad y hy => ?_, dm.os, dm.tape, dm.output, dm.size, fun b hb _ => hold b hb⟩, ⟨fun ad y hy => lr.F _ _ (by rw [← eJ]; exact hy), fun k v g e c hk => ?_, fun k B hk => ?_, fun k hk v => ?_, fun k B hk v hv => ?_, fun k k' v v' g e1 c1 e2 c2 h5 h6 => ?_, .nil _⟩, ?_⟩
 ·rcases Nat.lt_or_ge k mem.length with bS | bS
  ·rw [ke k v bS] at hk; exact .inl ⟨k, v, e, c, hk⟩
  ·rw [nk k v bS] at hk; exact .inr (iD _ _ _ _ _ hk)
 ·rw [eJ] at hy
  rcases RZ ad y hy with h | h
  ·exact .inl h
  ·exact .inr (.inl h)
 ·rcases Nat.lt_or_ge k mem.length with bS | bS
  ·rw [ke k v bS] at hk; have := hs.lt _ _ _ _ _ hk; have := dm.size; omega
  ·rw [nk k v bS] at hk; exact lr.lt _ _ _ _ _ hk
 ·rcases get hk with ⟨bS, hB⟩ | ⟨bS, hB⟩
  ·refine (hs.mem k B hB).mono hle (fun v hv => by rw [ke k v bS]; exact hv) (fun g e c hb => hold g (hs.lt _ _ _ _ _ hb)) fun g e c o hb hn => ?_
   rw [eJ]
   cases hy : E'.F ⟨g, o, none⟩ with
   | none => rfl
   | some y =>
    rcases RZ _ y hy with h | h
    ·rw [hn] at h; cases h
    ·have := hs.lt _ _ _ _ _ hb; simp at h; omega
  ·have hl := List.all_eq_true.1 hm B (List.mem_of_getElem? hB)
   have h0 := lr.mem _ B hB
   cases B with
   | hole => exact fun v => by rw [nk k v bS]; exact h0 v
   | dead => trivial
   | box cs => simp [kD] at hl
   | loop s p fr ps a b => simp [kD] at hl
   | map bf clock => simp [kD] at hl
   | ed m since seen last => simp [kD] at hl
   | gZ s pos => simp [kD] at hl
   | iz => simp [kD] at hl
   | rows v e rs =>
    rcases h0 with ⟨h1, h2⟩ | ⟨g, T, ys, c, h1, h2, h3, h4, h5, h6⟩
    ·exact .inl ⟨h1, by rw [nk k v bS]; exact h2⟩
    ·exact .inr ⟨g, T, ys, c, by rw [nk k v bS]; exact h1, h2, h3, h4, by rw [u7]; exact h5, fun o => by rw [eJ]; exact h6 o⟩
   | mO v e rs =>
    rcases h0 with ⟨h1, h2⟩ | ⟨g, c, h1, h2, h3⟩
    ·exact .inl ⟨h1, by rw [nk k v bS]; exact h2⟩
    ·exact .inr ⟨g, c, by rw [nk k v bS]; exact h1, h2, by rw [u7, eJ]; exact h3⟩
 ·dsimp only at hk
  simp only [List.length_append] at hk
  rw [nk k v (by omega)]; exact lr.top _ (by dsimp only; omega) v
 ·rcases get hk with ⟨bS, hB⟩ | ⟨bS, hB⟩
  ·rw [ke k v bS]; exact hs.ay k B hB v hv
  ·rw [nk k v bS]; exact lr.ay _ B hB v hv
 ·rcases Nat.lt_or_ge k mem.length with fK | fK <;> rcases Nat.lt_or_ge k' mem.length with kC | kC
  ·rw [ke k _ fK] at h5; rw [ke k' _ kC] at h6
   exact hs.apart _ _ _ _ _ _ _ _ _ h5 h6
  ·rw [ke k _ fK] at h5; rw [nk k' _ kC] at h6
   have := hs.lt _ _ _ _ _ h5; have := iD _ _ _ _ _ h6; omega
  ·rw [nk k _ fK] at h5; rw [ke k' _ kC] at h6
   have := hs.lt _ _ _ _ _ h6; have := iD _ _ _ _ _ h5; omega
  ·rw [nk k _ fK] at h5; rw [nk k' _ kC] at h6
   have := lr.apart _ _ _ _ _ _ _ _ _ h5 h6
   omega
 ·cases hr with
  | ms _ b v s l g e c a cap hb hl h0 hc => exact .ms _ _ _ _ _ g e c _ _ (by rw [nk _ v (by omega), Nat.add_sub_cancel_left]; exact hb) hl h0 hc
  | cZ => exact .cZ _ _ _ _

theorem aV.lO {E : Env} {w : World} {a : Act} {st : St} (hs : aV E w a st) (v e : Nat) : aV E w a { st with mem := st.mem ++ [.rows v e []] } := by
 have get : ∀ {k : Nat} {B : au}, (st.mem ++ [au.rows v e []])[k]? = some B → st.mem[k]? = some B ∨ (B = au.rows v e [] ∧ st.mem.length ≤ k) := fun {k B} h => by
  rcases Nat.lt_or_ge k st.mem.length with hk | hk
  ·rw [List.getElem?_append_left hk] at h; exact .inl h
  ·rw [List.getElem?_append_right hk] at h
   cases bS : k - st.mem.length with
   | zero => rw [bS] at h; cases h; exact .inr ⟨rfl, hk⟩
   | succ j => rw [bS] at h; cases h
 refine ⟨hs.F, hs.lt, fun k B hk => ?_, fun k hk => hs.top k (by simp at hk; omega), fun k B hk v hv => ?_, hs.apart, hs.fr⟩
 ·rcases get hk with h | ⟨rfl, bS⟩
  ·exact hs.mem k B h
  ·exact .inl ⟨rfl, hs.top k bS v⟩
 ·rcases get hk with h | ⟨rfl, bS⟩
  ·exact hs.ay k B h v hv
  ·exact hs.top k bS v
theorem aV.yU {E : Env} {w : World} {a : Act} {st : St} (hs : aV E w a st) {i : Nat} (b v : Nat) (h : st.fr[i]? = some (.sc (.slice none 0 0))) : aV E w a { st with fr := st.fr.set i (.ms b v 0 0) } := hs.Kb h
theorem EH {P : Program} {ρ : Option Nat} {n0 : Nat} {c : Code} {st : St} {Q : Exit → St → Prop} (i v e : Nat) (h0 : st.fr[i]? = some (.sc (.slice none 0 0))) (h : gA P ρ n0 c { fr := st.fr.set i (.ms st.mem.length v 0 0), mem := st.mem ++ [.rows v e []] } Q) : gA P ρ n0 c st Q :=
 sN (fun E w a hs => (hs.yU (i := i) st.mem.length v h0).lO v e) h
end Go.Eng
end

section
namespace Go.Eng
variable [aE]
open Go.RowKit (Below)

theorem tb {E E' : Env} {w w' : World} {mem aA l : List au} (hs : aV E w { tmps := #[], defers := [] } { fr := [], mem := mem ++ l }) (Vp : dk (E.cut mem.length) w E' w') (AH : aV E' w' { tmps := #[], defers := [] } { fr := [], mem := aA })
  (hlen : aA.length = mem.length) (hb : aA.all (aB mem.length) = true) : ∃ E2, dk E w E2 w' ∧ aV E2 w' { tmps := #[], defers := [] } { fr := [], mem := aA ++ l } ∧ (E'.cut mem.length).le E2 := by
 have eS := AH.cut (n := mem.length) rfl (by rw [List.take_of_length_le (by dsimp only; omega)]; exact hb)
 rw [List.take_of_length_le (by dsimp only; omega)] at eS
 dsimp only at eS
 have yV : ∀ k, mem.length ≤ k → ∀ v, (E.cut mem.length).aG k v = none := fun k hk v => if_neg (by omega)
 have dm : dk (E.cut mem.length) w (E'.cut mem.length) w' := Vp.cut yV
 have hY : ∀ k v t, (E.cut mem.length).aG k v = some t → k < mem.length ∧ E.aG k v = some t := fun k v t h => by
  rcases Nat.lt_or_ge k mem.length with hk | hk
  ·exact ⟨hk, (if_pos hk).symm.trans h⟩
  ·rw [yV k hk] at h; cases h
 have R3 : ∀ k v t, (E'.cut mem.length).aG k v = some t → k < mem.length := fun k v t h => by
  rcases Nat.lt_or_ge k mem.length with hk | hk
  ·exact hk
  ·have h0 : (E'.cut mem.length).aG k v = none := if_neg (by omega)
   rw [h0] at h; cases h
 generalize YX : E'.cut mem.length = xU at eS dm R3
 have ke : ∀ k v, k < mem.length → (⟨xU.F, fun k v => if k < mem.length then xU.aG k v else E.aG k v, xU.gl⟩ : Env).aG k v = xU.aG k v := fun k v hk => if_pos hk
 have nk : ∀ k v, mem.length ≤ k → (⟨xU.F, fun k v => if k < mem.length then xU.aG k v else E.aG k v, xU.gl⟩ : Env).aG k v = E.aG k v := fun k v hk => if_neg (by omega)
 generalize R0 : (⟨xU.F, fun k v => if k < mem.length then xU.aG k v else E.aG k v, xU.gl⟩ : Env) = E2 at ke nk
 have eJ : E2.F = xU.F := by rw [← R0]
 have kf : ∀ k v t, k < mem.length → E.aG k v = some t → (E.cut mem.length).aG k v = some t := fun k v t hk h => (if_pos hk).trans h
 have hle : E.le E2 := ⟨fun ad y hy => by rw [eJ]; exact dm.le.F _ _ hy, fun k v t hk => by
  rcases Nat.lt_or_ge k mem.length with bS | bS
  ·rw [ke k v bS]; exact dm.le.aG _ _ _ (kf _ _ _ bS hk)
  ·rw [nk k v bS]; exact hk⟩
 have R4 : xU.le E2 := ⟨fun ad y hy => by rw [eJ]; exact hy, fun k v t hk => by rw [ke k v (R3 _ _ _ hk)]; exact hk⟩
 have sG : ∀ k v g e c, mem.length ≤ k → E.aG k v = some (g, e, c) → ∀ k0 v0 e0 c0, (E.cut mem.length).aG k0 v0 ≠ some (g, e0, c0) := fun k v g e c hk hb k0 v0 e0 c0 h => by
  obtain ⟨h1, h2⟩ := hY _ _ _ h
  have := hs.apart _ _ _ _ _ _ _ _ _ h2 hb
  omega
 have get : ∀ {k : Nat} {B : au}, (aA ++ l)[k]? = some B → (k < mem.length ∧ aA[k]? = some B) ∨ (mem.length ≤ k ∧ (mem ++ l)[k]? = some B) := fun {k B} h => by
  rcases Nat.lt_or_ge k mem.length with hk | hk
  ·rw [List.getElem?_append_left (by omega)] at h; exact .inl ⟨hk, h⟩
  ·rw [List.getElem?_append_right (by omega), hlen] at h
   exact .inr ⟨hk, by rw [List.getElem?_append_right hk]; exact h⟩
 refine ⟨E2, ⟨hle, fun k v g e c hk => ?_, fun ad y hy => ?_, dm.os, dm.tape, dm.output, dm.size, fun b hb bD => dm.heap b hb fun k v e c h => bD _ _ _ _ (hY _ _ _ h).2⟩, ⟨fun ad y hy => eS.F _ _ (by rw [← eJ]; exact hy), fun k v g e c hk => ?_, fun k B hk => ?_, fun k hk v => ?_, fun k B hk v hv => ?_, fun k k' v v' g e1 c1 e2 c2 h5 h6 => ?_, .nil _⟩, R4⟩
 ·rcases Nat.lt_or_ge k mem.length with bS | bS
  ·rw [ke k v bS] at hk
   rcases dm.aG _ _ _ _ _ hk with ⟨k0, v0, e0, c0, h⟩ | h
   ·exact .inl ⟨_, _, _, _, (hY _ _ _ h).2⟩
   ·exact .inr h
  ·rw [nk k v bS] at hk; exact .inl ⟨_, _, _, _, hk⟩
 ·rw [eJ] at hy
  rcases dm.F _ _ hy with h | h | ⟨k0, v0, e0, c0, h⟩
  ·exact .inl h
  ·exact .inr (.inl h)
  ·exact .inr (.inr ⟨_, _, _, _, (hY _ _ _ h).2⟩)
 ·rcases Nat.lt_or_ge k mem.length with bS | bS
  ·rw [ke k v bS] at hk; exact eS.lt _ _ _ _ _ hk
  ·rw [nk k v bS] at hk; exact Nat.lt_of_lt_of_le (hs.lt _ _ _ _ _ hk) dm.size
 ·rcases get hk with ⟨bS, hB⟩ | ⟨bS, hB⟩
  ·exact (eS.mem k B hB).mono R4 (fun v hv => by rw [ke k v bS]; exact hv) (fun _ _ _ _ => rfl) fun g e c o _ hn => by rw [eJ]; exact hn
  ·refine (hs.mem k B hB).mono hle (fun v hv => by rw [nk k v bS]; exact hv) (fun g e c hb => dm.heap g (hs.lt _ _ _ _ _ hb) fun k0 v0 e0 c0 h => sG _ _ _ _ _ bS hb _ _ _ _ h) fun g e c o hb hn => ?_
   rw [eJ]
   cases hy : xU.F ⟨g, o, none⟩ with
   | none => rfl
   | some y =>
    rcases dm.F _ _ hy with h | h | ⟨k0, v0, e0, c0, h⟩
    ·have h' : E.F ⟨g, o, none⟩ = some y := h
     rw [hn] at h'; cases h'
    ·have := hs.lt _ _ _ _ _ hb; simp at h; omega
    ·exact absurd h (sG _ _ _ _ _ bS hb _ _ _ _)
 ·dsimp only at hk
  simp only [List.length_append] at hk
  rw [nk k v (by omega)]; exact hs.top k (by simp; omega) v
 ·rcases get hk with ⟨bS, hB⟩ | ⟨bS, hB⟩
  ·rw [ke k v bS]; exact eS.ay k B hB v hv
  ·rw [nk k v bS]; exact hs.ay k B hB v hv
 ·have mixed : ∀ k k' v v' g e1 c1 e2 c2, k < mem.length → mem.length ≤ k' → xU.aG k v = some (g, e1, c1) → E.aG k' v' = some (g, e2, c2) → k = k' := fun k k' v v' g e1 c1 e2 c2 hk eQ h h' => by
   rcases dm.aG _ _ _ _ _ h with ⟨k0, v0, e0, c0, h0⟩ | h0
   ·exact absurd h0 (sG _ _ _ _ _ eQ h' _ _ _ _)
   ·have := hs.lt _ _ _ _ _ h'; omega
  rcases Nat.lt_or_ge k mem.length with fK | fK <;> rcases Nat.lt_or_ge k' mem.length with kC | kC
  ·rw [ke k _ fK] at h5; rw [ke k' _ kC] at h6
   exact eS.apart _ _ _ _ _ _ _ _ _ h5 h6
  ·rw [ke k _ fK] at h5; rw [nk k' _ kC] at h6
   exact mixed _ _ _ _ _ _ _ _ _ fK kC h5 h6
  ·rw [nk k _ fK] at h5; rw [ke k' _ kC] at h6
   exact (mixed _ _ _ _ _ _ _ _ _ kC fK h6 h5).symm
  ·rw [nk k _ fK] at h5; rw [nk k' _ kC] at h6
   exact hs.apart _ _ _ _ _ _ _ _ _ h5 h6

theorem yW {E : Env} {w : World} {mem l : List au} (hs : aV E w { tmps := #[], defers := [] } { fr := [], mem := mem ++ l }) (hb : mem.all (aB mem.length) = true) : aV (E.cut mem.length) w { tmps := #[], defers := [] } { fr := [], mem := mem } := by
 have h := hs.cut (n := mem.length) rfl (by rw [List.take_left]; exact hb)
 rwa [List.take_left] at h
theorem aO.below {E : Env} {n : Nat} {vs : List V} {xs : List Value} (h : aO E vs xs) (hb : vs.all (ai n) = true) : aO (E.cut n) vs xs :=
 ⟨h.1, fun i v x hv hx => fi (h.2 i v x hv hx) (List.all_eq_true.1 hb v (List.mem_of_getElem? hv))⟩

theorem aR.frame {P : Program} {f : FuncId} {vs : List V} {r : V} {mem aA : List au} (h : aR P f vs mem r aA) (hv : vs.all (ai mem.length) = true) (hm : mem.all (aB mem.length) = true) (hr : ai mem.length r = true) (hlen : aA.length = mem.length) (G1 : aA.all (aB mem.length) = true) (l : List au) :
  aR P f vs (mem ++ l) r (aA ++ l) := by
 refine ⟨h.1, fun E w xs hs hx => ?_⟩
 refine (h.2 _ w xs (yW hs hm) (hx.below hv)).mono ?_
 rintro en w' ⟨E', x, rfl, dm, lr, ot⟩
 obtain ⟨E2, h1, h2, h3⟩ := tb hs dm lr hlen G1
 exact ⟨E2, x, rfl, h1, h2, (fi ot hr).mono h3⟩
theorem QM.frame {P : Program} {k : Nat} {vs : List V} {mem aA : List au} {b : Bool} (h : QM P k vs mem b aA) (hk : k < mem.length) (hv : vs.all (ai mem.length) = true) (hm : mem.all (aB mem.length) = true) (hlen : aA.length = mem.length) (G1 : aA.all (aB mem.length) = true) (l : List au) :
  QM P k vs (mem ++ l) b (aA ++ l) := by
 intro E w xs lp e c hs hx hb
 obtain ⟨fn, tmps, assign, body, h1, h2⟩ := h _ w xs lp e c (yW hs hm) (hx.below hv) ((if_pos hk).trans hb)
 refine ⟨fn, tmps, assign, body, h1, h2.mono ?_⟩
 rintro en w' ⟨E', rfl, dm, lr⟩
 obtain ⟨E2, h3, h4, -⟩ := tb hs dm lr hlen G1
 exact ⟨E2, rfl, h3, h4⟩
theorem R5 : (false == true) = false := rfl
theorem R6 : (true == false) = false := rfl
theorem Kp (mem : List au) (ts : Array TypeId) (P : Program) (r : List V) : oe mem ts P [.slice r] = none := rfl
theorem Kq (mem : List au) (ts : Array TypeId) (P : Program) (b v s l : Nat) : oe mem ts P [.ms b v s l] = none := rfl
theorem Kr (mem : List au) (ts : Array TypeId) (P : Program) (x : Value) : oe mem ts P [.sc x] = none := rfl
end Go.Eng
end
