/-
  THE ENGINE, L: the steps are sound; code; functions.
  THE ENGINE, M: a table of types, checked by the kernel.
  THE ENGINE, N: rules and facts for carrying it out by simp.
  THE ENGINE, O: closures' contracts; a range over a function.
  THE ENGINE, P: regions that draw their order.
  THE ENGINE, Q: regions that draw their order are sound.
  THE ENGINE, R: a region that draws its order comes to what it comes to in the order of its text.
  THE ENGINE, S: functions that hand back rows that their caller may write.
  THE ENGINE, U: what a contract does not speak of stays.
  THE ENGINE, FB: a struct that nobody writes any more is frozen.
-/
import Derived.Test.YtnboooapeopjoaaGreatDoorE2
import Derived.RangeFuncRecord
import Derived.OrdersIn
set_option linter.all false
section
namespace Go.Eng
variable [aA]
open Go.RowKit (Below)

theorem eY {P : Program} {s : Sem Value} {w w' : World} {x : Value} (h : s.run P w = .ok x w') : (do pure (Next.value (← s)) : Sem Next).run P w = .ok (.value x) w' := by
 simp [h]

def zO (E : Env) (w : World) (a : Act) (dst : Option Tmp) (Q : St → Prop) (v : Value) (w' : World) : Prop := ∃ E' st', bH E' w' (a.put dst v) st' ∧ ec E w E' w' ∧ Q st'

def WF (ρ : Option Nat) : Fence := { fn := fun _ => True, depth := none, alive := false, round := ρ }
theorem ui {ρ : Option Nat} {n : Nat} {P : Program} {f : FuncId} {xs : Array Value} {w : World} {R : Ending → World → Prop} (h : Calls P f xs w R) : CallsIn (WF ρ) n P f xs w R := by
 have h1 : CallsIn Fence.wide n P f xs w R := callsIn_wide.2 h
 cases ρ with
 | none => exact h1
 | some l => exact h1.inRound l
theorem zP {n : Nat} {P : Program} {f : FuncId} {xs : Array Value} {w : World} {R : Ending → World → Prop} (h : CallsIn (WF none) n P f xs w R) : Calls P f xs w R := callsIn_wide.1 h
theorem Cp {ρ : Option Nat} {n : Nat} {P : Program} {l : Nat} {f : FuncId} {tmps : Array Value} {assign body : Code} {w : World} {R : Ending → World → Prop} (h : RoundIn Fence.wide 0 P l f tmps assign body w R) : RoundIn (WF ρ) n P l f tmps assign body w R := by
 refine ⟨trivial, fun c cs _ => ?_⟩
 exact h.2 c cs (room_wide _)
section
variable {P : Program} {ρ : Option Nat} {n : Nat} {o : Oper} {a : Act} {w w' : World} {next : Act → World → Prop} {Q : Exit → Act → World → Prop} (iK : ∀ c, o.op ≠ .defer c)
include iK
theorem bQ {v : Value} (h : (execOp a.eval o).run P w = .ok (.value v) w') (hn : next (a.put o.dst v) w') : o.wpIn (WF ρ) n P a w next Q := by
 refine ⟨fun _ _ => trivial, ?_⟩
 rw [Oper.semAt_eq _ _ _ iK, h]; exact hn
theorem ke (h : (execOp a.eval o).run P w = .ok .skip w') (hn : next (a.put o.dst undef) w') : o.wpIn (WF ρ) n P a w next Q := by
 refine ⟨fun _ _ => trivial, ?_⟩
 rw [Oper.semAt_eq _ _ _ iK, h]; exact hn
theorem sD {f : FuncId} {xs : Array Value} {R : Ending → World → Prop} (h : (execOp a.eval o).run P w = .ok (.enter f xs) w) (hc : Calls P f xs w R) (hR : ∀ e w', R e w' → ∃ v, e = .returned v ∧ next (a.put o.dst v) w') :
  o.wpIn (WF ρ) n P a w next Q := by
 refine ⟨fun _ _ => trivial, ?_⟩
 rw [Oper.semAt_eq _ _ _ iK, h]
 refine ⟨fun h => by simp [WF] at h, (ui hc).mono fun e w' he => ?_⟩
 obtain ⟨v, rfl, hn⟩ := hR e w' he
 exact hn
theorem sE {l : Nat} {f : FuncId} {tmps : Array Value} {assign body : Code} {R : Ending → World → Prop} (h : (execOp a.eval o).run P w = .ok (.round l f tmps assign body) w) (hc : RoundIn Fence.wide 0 P l f tmps assign body w R)
  (hR : ∀ e w', R e w' → ∃ v, e = .returned v ∧ next (a.put o.dst v) w') : o.wpIn (WF ρ) n P a w next Q := by
 refine ⟨fun _ _ => trivial, ?_⟩
 rw [Oper.semAt_eq _ _ _ iK, h]
 refine ⟨fun h => by simp [WF] at h, (Cp hc).mono fun e w' he => ?_⟩
 obtain ⟨v, rfl, hn⟩ := hR e w' he
 exact hn
end

theorem sF {P : Program} {E : Env} {w : World} {a : Act} {st : St} (hs : bH E w a st) {f : FuncId} {vs : List V} {dst : Option Tmp} {Q : St → Prop} (h : sB P f vs st dst Q) {xs : Array Value} (hx : bo E vs xs.toList) :
  ((callFunc f xs).run P w = .ok (.enter f xs) w ∧ Calls P f xs w fun e w' => ∃ v, e = .returned v ∧ zO E w a dst Q v w') ∨ ∃ v, (callFunc f xs).run P w = .ok (.value v) w ∧ zO E w a dst Q v w := by
 rcases h with ⟨vs', r, hp, hf, hQ⟩ | ⟨r, aQ, hf, hQ⟩ | ⟨R, hf, hQ⟩ | ⟨r, hf, hQ⟩
 ·refine .inl ⟨hf.1 xs w, (Fh hs hx hp hf).mono ?_⟩
  rintro e w' ⟨E', x, rfl, ea, lS, hr⟩
  exact ⟨x, rfl, E', _, lS.put dst hr, ea, hQ⟩
 ·refine .inl ⟨hf.1 xs w, (hf.2 E w xs hs.bare hx).mono ?_⟩
  rintro e w' ⟨E', x, rfl, ea, lS, hr⟩
  exact ⟨x, rfl, E', _, (hs.zK lS ea.le).put dst hr, ea, hQ⟩
 ·refine .inl ⟨hf.1 xs w, (hf.2 E w xs hs.bare hx).mono ?_⟩
  rintro e w' ⟨E', x, r, aQ, rfl, hR, ea, lS, hr⟩
  exact ⟨x, rfl, E', _, (hs.zK lS ea.le).put dst hr, ea, hQ _ _ hR⟩
 ·obtain ⟨x, h1, h2⟩ := hf E w xs hs.F hx
  exact .inr ⟨x, h1, E, _, hs.put dst h2, ec.refl E w, hQ⟩

theorem eo {P : Program} {tt : Table} (ht : TT P tt) {E : Env} {w : World} {a : Act} {st : St} (hs : bH E w a st) {key : Nat} (hk : e6 st.mem key) {o : Oper} {Q : St → Prop} (h : bP P tt key o st Q)
  {ρ : Option Nat} {n : Nat} {next : Act → World → Prop} {Q' : Exit → Act → World → Prop} (hn : ∀ v w', zO E w a o.dst Q v w' → next (a.put o.dst v) w') : o.wpIn (WF ρ) n P a w next Q' := by
 obtain ⟨dst, op, type, pos, after, guard⟩ := o
 have iK : ∀ c, op ≠ .defer c := by
  rintro c rfl
  simp [bP, iJ] at h
 unfold bP at h
 dsimp only at h
 split at h
 ·-- alloc
  rename_i T
  split at h
  ·rename_i i hi
   obtain ⟨info, vW, -, -, z, hz, zq⟩ := ht.size T i hi
   have hr : bo E (i.zero.map V.sc) z.cells.toList := by
    rw [zq]; exact ⟨by simp, fun k c x hc hx => by
     simp only [List.getElem?_map,hx,Option.map_some,Option.some.injEq] at hc; subst hc; exact .sc _ _⟩
   obtain ⟨E', h1, h2, h3⟩ := hs.Hh hk hr T
   refine bQ iK (v := .pointer (some ⟨w.heap.size, 0, none⟩)) (w' := w.alloc (.cells z.cells T (0, 0))) ?_ (hn _ _ ⟨E', _, h1.put dst h3, h2, h⟩)
   have S0 : (zeroValue T).run P w = .ok z w := by simp [zeroValue, dK vW, hz]
   simp [execOp, Instr.alloc, S0, newVar, newRow]
  ·exact h.elim
 ·-- box
  rename_i T x
  split at h
  ·rename_i cs xp
   obtain ⟨hr, -⟩ := lX (hs.eval x) xp
   obtain ⟨E', h1, h2, h3⟩ := hs.Hh hk hr T
   refine bQ iK (v := .pointer (some ⟨w.heap.size, 0, none⟩)) (w' := w.alloc (.cells (a.eval x).cells T (0, 0))) ?_ (hn _ _ ⟨E', _, h1.put dst h3, h2, h⟩)
   simp [execOp, Instr.box, newVar, newRow]
  ·exact h.elim
 ·-- build
  split at h
  ·rename_i v hv
   obtain ⟨x, h1, h2⟩ := qa ht hs hv
   exact bQ iK (bN h1) (hn _ _ ⟨E, _, hs.put dst h2, ec.refl E w, h⟩)
  ·exact h.elim
 ·-- buildSlice
  rename_i T len parts
  split at h
  ·rename_i size rs hl
   obtain ⟨Z, e, h1, h2, h3, h4⟩ := xL ht (fun p _ => hs.eval p.2) hl
   obtain ⟨E', h5, h6, h7⟩ := hs.pX hk (xs := Z) (rs := rs) (c := len) e h2 (by omega) h4
   rw [h3] at h7
   exact bQ iK (eY h1) (hn _ _ ⟨E', _, h5.put dst h7, h6, h⟩)
  ·split at h
   ·rename_i size rs hl
    unfold LQ at hl
    split at hl
    ·rename_i vs' S7
     obtain ⟨E1, o0, LS, Hy⟩ := hs.freeze S7
     have S8 : ∀ (l : List (Nat × Operand)) (us Hu : List V), us = l.map (fun p => st.eval p.2) → dq st.mem us = some Hu → bo E1 Hu (l.map fun p => a.eval p.2) → ∀ p ∈ l, bC E1 (YS st.mem st.eval p.2) (a.eval p.2) := by
      intro l
      induction l with
      | nil => intro us Hu _ _ _ p hp; simp at hp
      | cons q r ih =>
       intro us Hu hu hp hr p Po
       subst hu
       simp only [List.map_cons,dq] at hp
       split at hp
       ·rename_i c' hc
        split at hp
        ·rename_i r' y1
         cases hp
         obtain ⟨y, ys, hy, g1, g2⟩ := hr.of_cons
         simp only [List.map_cons,List.cons.injEq] at hy
         obtain ⟨rfl, rfl⟩ := hy
         rcases List.mem_cons.1 Po with rfl | Po
         ·unfold YS; rw [hc]; exact g1
         ·exact ih _ _ rfl y1 g2 p Po
        ·cases hp
       ·cases hp
     have rq : bo E (parts.toList.map fun p => st.eval p.2) (parts.toList.map fun p => a.eval p.2) := by
      refine ⟨by simp, fun i v x hv hx => ?_⟩
      simp only [List.getElem?_map,Option.map_eq_some_iff] at hv hx
      obtain ⟨q, hq, rfl⟩ := hv
      obtain ⟨q', Lp, rfl⟩ := hx
      rw [hq] at Lp; cases Lp
      exact hs.eval q.2
     have YU := S8 parts.toList _ _ rfl S7 (Hy _ rq)
     have ff : e6 ({ st with mem := aR st.mem (xU st.eval parts.toList) } : St).mem key := by
      unfold e6
      dsimp only
      rw [lZ, oN]
      rcases hk with hk | hk
      ·rw [hk]; exact .inl rfl
      ·exact .inr hk
     obtain ⟨Z, e, h1, h2, h3, h4⟩ := xL ht (w := w) YU hl
     obtain ⟨E', h5, h6, h7⟩ := o0.pX ff (xs := Z) (rs := rs) (c := len) e h2 (by omega) h4
     rw [h3] at h7
     exact bQ iK (eY h1) (hn _ _ ⟨E', _, h5.put dst h7, LS.trans h6, h⟩)
    ·cases hl
   ·exact h.elim
 ·-- store
  rename_i T p x
  split at h
  ·rename_i aQ hm
   obtain ⟨w', h1, h2, h3⟩ := pZ ht hs (hs.eval _) (hs.eval _) hm
   refine ke iK (w' := w') ?_ (hn _ _ ⟨E, _, h2.put dst (.sc _ _), h3, h⟩)
   simp [execOp, h1]
  ·split at h
   ·rename_i aQ hm
    unfold xV at hm
    split at hm
    ·rename_i v' tK
     obtain ⟨E1, o0, LS, Hy⟩ := hs.freeze (vs := [st.eval x]) (vs' := [v']) (by simp [dq, tK])
     simp only [List.flatMap_cons,List.flatMap_nil,List.append_nil] at o0
     obtain ⟨z, r, hz, h4, -⟩ := (Hy [a.eval x] (.cons (hs.eval x) (.nil _))).of_cons
     simp only [List.cons.injEq] at hz
     obtain ⟨rfl, -⟩ := hz
     obtain ⟨w', h1, h2, h3⟩ := pZ ht o0 ((hs.eval p).mono LS.le) h4 hm
     refine ke iK (w' := w') ?_ (hn _ _ ⟨E1, _, h2.put dst (.sc _ _), LS.trans h3, h⟩)
     simp [execOp, h1]
    ·cases hm
   ·exact h.elim
 ·-- append
  rename_i xs ts
  split at h
  ·rename_i s x LU
   split at h
   ·rename_i size o4 rows ha
    have he := hs.lz xs
    rw [LU] at he
    obtain ⟨y, r1, hy, Cg, he⟩ := he.of_cons
    obtain ⟨z, r2, hz, Cm, he⟩ := he.of_cons
    have := he.of_nil
    subst this; subst hz
    have rq : xs.map a.eval = #[y, z] := by rw [← Array.toArray_toList (xs := xs.map a.eval), hy]
    obtain ⟨v, w', E', h1, h2, h3, h4⟩ := wb ht hs (ty := type) hk Cg Cm ha
    refine bQ iK (v := v) (w' := w') ?_ (hn _ _ ⟨E', _, h2.put dst h4, h3, h⟩)
    simp only [execOp,resolve,Sem.run_bind,Sem.run_pure,Result.andThen_ok,invoke,builtin,rq,h1]
   ·unfold sC at h
    split at h
    ·rename_i size b v l rs news ha
     have he := hs.lz xs
     rw [LU] at he
     obtain ⟨y, r1, hy, Cg, he⟩ := he.of_cons
     obtain ⟨z, r2, hz, Cm, he⟩ := he.of_cons
     have := he.of_nil
     subst this; subst hz
     have rq : xs.map a.eval = #[y, z] := by rw [← Array.toArray_toList (xs := xs.map a.eval), hy]
     obtain ⟨u, w', E', o', jw, h1, Pp, NZ, h2, h3, h4⟩ := wi ht hs (ty := type) Cg Cm ha
     refine bQ iK (v := u) (w' := w') ?_ (hn _ _ ⟨E', _, h2.put dst h4, h3, h o' jw Pp NZ⟩)
     simp only [execOp,resolve,Sem.run_bind,Sem.run_pure,Result.andThen_ok,invoke,builtin,rq,h1]
    ·exact h.elim
  ·exact h.elim
 ·-- a call
  rename_i f xs ts
  split at h
  ·-- yield
   rename_i k R7
   have hf := hs.eval f
   rw [R7] at hf
   generalize hfx : a.eval f = fx at hf
   cases hf with
   | fP _ _ l e c hb =>
    rcases h with ⟨b, aQ, hy, hQ⟩ | ⟨R, hy, hQ⟩
    rotate_left
    ·obtain ⟨fn, tmps, assign, body, h1, h2⟩ := hy E w (xs.map a.eval) l e c hs.bare (hs.lz xs) hb
     refine sE iK (l := l) (f := fn) (tmps := tmps) (assign := assign) (body := body) ?_ h2 fun e w' ⟨E', b, aQ, he, hR, ea, lS⟩ => ⟨_, he, hn _ _ ⟨E', _, (hs.zK lS ea.le).put dst (.sc _ _), ea, hQ _ _ hR⟩⟩
     rw [← h1]
     simp [execOp, resolve, hfx, Deferred.ofValue, invoke]
    obtain ⟨fn, tmps, assign, body, h1, h2⟩ := hy E w (xs.map a.eval) l e c hs.bare (hs.lz xs) hb
    refine sE iK (l := l) (f := fn) (tmps := tmps) (assign := assign) (body := body) ?_ h2 fun e w' ⟨E', he, ea, lS⟩ => ⟨_, he, hn _ _ ⟨E', _, (hs.zK lS ea.le).put dst (.sc _ _), ea, hQ⟩⟩
    rw [← h1]
    simp [execOp, resolve, hfx, Deferred.ofValue, invoke]
  ·rename_i R7
   split at h
   ·rename_i g vs hg
    obtain ⟨ys, h1, h2⟩ := nh (P := P) (w := w) (hs.eval f) (hs.lz xs) hg
    rcases sF hs h h1 with ⟨h3, h4⟩ | ⟨v, h3, h4⟩
    ·refine sD iK (f := g) (xs := ys) ?_ h4 fun e w' ⟨v, hv, ha⟩ => ⟨v, hv, hn _ _ ha⟩
     rw [← h3, ← h2]
     simp only [execOp,resolve]
    ·refine bQ iK (v := v) ?_ (hn _ _ h4)
     rw [← h3, ← h2]
     simp only [execOp,resolve]
   ·exact h.elim
 ·split at h
  ·rename_i size rs cap hm
   obtain ⟨E', w', h1, h2, h3, h4⟩ := zH (P := P) ht hs hk (hs.eval _) (hs.eval _) hm
   exact bQ iK (eY h1) (hn _ _ ⟨E', _, h2.put dst h4, h3, h⟩)
  ·exact h.elim
 ·-- a map
  obtain ⟨E', w', h1, h2, h3, h4⟩ := wg (P := P) hs hk _
  exact bQ iK (eY h1) (hn _ _ ⟨E', _, h2.put dst h4, h3, h⟩)
 ·split at h
  ·rename_i aQ hm
   obtain ⟨w', h1, h2, h3⟩ := oM (P := P) hs (hs.eval _) (hs.eval _) (hs.eval _) hm
   refine ke iK (w' := w') ?_ (hn _ _ ⟨E, _, h2.put dst (.sc _ _), h3, h⟩)
   simp [execOp, h1]
  ·exact h.elim
 ·split at h
  ·rename_i aQ hm
   obtain ⟨w', h1, h2, h3⟩ := oM (P := P) hs (hs.eval _) (hs.eval _) (hs.eval _) hm
   refine ke iK (w' := w') ?_ (hn _ _ ⟨E, _, h2.put dst (.sc _ _), h3, h⟩)
   simp [execOp, h1]
  ·exact h.elim
 ·split at h
  ·rename_i aQ v hm
   obtain ⟨z, w', h1, h2, h3, h4⟩ := xP (P := P) hs (hs.eval _) (hs.eval _) hm
   exact bQ iK (eY h1) (hn _ _ ⟨E, _, h2.put dst h4, h3, h⟩)
  ·exact h.elim
 ·rename_i T m s x
  split at h
  ·rename_i aQ hm
   obtain ⟨w', h1, h2, h3⟩ := xQ (P := P) (T := T) hs (hs.eval _) (hs.eval _) (hs.eval _) hm
   refine ke iK (w' := w') ?_ (hn _ _ ⟨E, _, h2.put dst (.sc _ _), h3, h⟩)
   simp [execOp, h1]
  ·exact h.elim
 ·rename_i xs ts
  split at h
  ·rename_i aQ hm
   obtain ⟨w', h1, h2, h3⟩ := we (ty := type) hs (hs.lz xs) hm
   refine bQ iK (v := .tuple #[]) (w' := w') ?_ (hn _ _ ⟨E, _, h2.put dst (.sc _ _), h3, h⟩)
   simp only [execOp,resolve,Sem.run_bind,Sem.run_pure,Result.andThen_ok,invoke,builtin,h1]
  ·exact h.elim
 ·split at h
  ·rename_i B hB
   obtain ⟨E', w', h1, h2, h3, h4⟩ := uc (P := P) hs hk (hs.eval _) hB
   exact bQ iK (eY h1) (hn _ _ ⟨E', _, h2.put dst h4, h3, h⟩)
  ·exact h.elim
 ·obtain ⟨z, w', st', h1, h2, h3, h4⟩ := zy (P := P) (ty := type) hs (hs.eval _) h
  exact bQ iK (eY h1) (hn _ _ ⟨E, st', h2, h3, h4⟩)
 ·-- a Pq
  rename_i op T x y yT
  split at h
  ·rename_i m hm
   obtain ⟨b, hb, dE⟩ := xT (P := P) (w := w) ht x y (hs.eval x) (hs.eval y) hm
   exact bQ iK (bN dE) (hn _ _ ⟨E, _, hs.put dst (.sc _ _), ec.refl E w, h b hb⟩)
  ·split at h
   ·rename_i v hv
    obtain ⟨x, h1, h2⟩ := n4 ht hs hv
    exact bQ iK h1 (hn _ _ ⟨E, _, hs.put dst h2, ec.refl E w, h⟩)
   ·exact h.elim
 ·split at h
  ·rename_i v hv
   obtain ⟨x, h1, h2⟩ := n4 ht hs hv
   exact bQ iK h1 (hn _ _ ⟨E, _, hs.put dst h2, ec.refl E w, h⟩)
  ·exact h.elim

def df (all : Array Oper) (fr : List V) (o : Oper) : Option Bool :=
 match o.guard with
 | none => some true
 | some (j, want) => match (all[j]?).bind (·.dst) with
  | none => some false
  | some d => match fr[d]? with
   | some (.sc (.bool b)) => some (b == want)
   | some (.sc _) => some false
   | some _ => none
   | none => some false

theorem js {E : Env} {w : World} {a : Act} {st : St} (hs : bH E w a st) {all : Array Oper} {o : Oper} {b : Bool} (h : df all st.fr o = some b) : Region.wanted o (yielded all a.tmps) = b := by
 unfold df at h
 unfold Region.wanted
 split at h
 ·rename_i hg; rw [hg]; simpa using h
 ·rename_i j want hg
  rw [hg]
  dsimp only
  unfold yielded
  split at h
  ·rename_i hd; rw [hd]; simp at h; subst h; rfl
  ·rename_i d hd
   rw [hd]
   split at h
   ·rename_i bb hf
    obtain ⟨x, hx, hr⟩ := hs.fr.get hf
    obtain rfl := dk hr
    simp only [Option.some.injEq] at h; subst h
    have : a.tmps[d]? = some (.bool bb) := by simpa using hx
    simp [this]
   ·rename_i v ch hf
    obtain ⟨x, hx, hr⟩ := hs.fr.get hf
    obtain rfl := dk hr
    simp only [Option.some.injEq] at h; subst h
    have : a.tmps[d]? = some x := by simpa using hx
    simp only [Option.bind_some,this]
    cases x <;> first | rfl | exact absurd rfl (ch _)
   ·cases h
   ·rename_i hf
    simp only [Option.some.injEq] at h; subst h
    have hl : st.fr.length = a.tmps.size := by have := hs.fr.1; simpa using this
    have : a.tmps[d]? = none := by
     rw [List.getElem?_eq_none_iff] at hf
     exact Array.getElem?_eq_none (by omega)
    simp [this]

def dc (P : Program) (tt : Table) (all : Array Oper) : List Oper → St → (St → Prop) → Prop
 | [], st, Q => Q st
 | o :: r, st, Q => match df all st.fr o with
  | some true => bP P tt st.mem.length o st fun st' => dc P tt all r st' Q
  | some false => dc P tt all r (st.put o.dst (.sc undef)) Q
  | none => False

@[congr] theorem N0 {P : Program} {f f' : FuncId} {vs vs' : List V} {st st' : St} {dst : Option Tmp} {Q : St → Prop} (hf : f = f') (hv : vs = vs') (h : st = st') : sB P f vs st dst Q = sB P f' vs' st' dst Q := by rw [hf, hv, h]
theorem put_defers (a : Act) (dst : Option Tmp) (v : Value) : (a.put dst v).defers = a.defers := by cases dst <;> rfl
theorem xW {P : Program} {tt : Table} (ht : TT P tt) {ρ : Option Nat} {n : Nat} {all : Array Oper} {Q : St → Prop} {Q' : Exit → Act → World → Prop} : ∀ (S9 pre : List Oper), all.toList = pre ++ S9 →
  ∀ {E : Env} {w : World} {a : Act} {st : St}, bH E w a st → dc P tt all S9 st Q → (∀ a' w', a'.defers = a.defers → (∃ E' st', bH E' w' a' st' ∧ ec E w E' w' ∧ Q st') → Q' .normal a' w') → wpOpsIn (WF ρ) n P all Q' (List.range' pre.length S9.length) a w := by
 intro S9
 induction S9 with
 | nil => intro pre _ E w a st hs h hq; exact hq _ _ rfl ⟨E, st, hs, ec.refl E w, h⟩
 | cons o r ih =>
  intro pre cK E w a st hs h hq
  have fH : all[pre.length]? = some o := by
   rw [← Array.getElem?_toList, cK, List.getElem?_append_right (Nat.le_refl _)]; simp
  have Ta : all.toList = (pre ++ [o]) ++ r := by rw [cK]; simp
  have YV := @ih (pre ++ [o]) Ta
  simp only [List.length_append,List.length_cons,List.length_nil,Nat.zero_add] at YV
  rw [List.length_cons, List.range'_succ, wpOpsIn, fH]
  dsimp only
  simp only [dc] at h
  split at h
  ·rename_i hw
   rw [if_pos (js hs hw)]
   refine eo ht hs (.inr rfl) h ?_
   rintro v w' ⟨E', st', h1, h2, h3⟩
   exact YV h1 h3 fun a'' w'' hd ⟨y2, Pr, h4, h5, h6⟩ => hq _ _ (hd.trans (put_defers _ _ _)) ⟨y2, Pr, h4, h2.trans h5, h6⟩
  ·rename_i hw
   rw [if_neg (by rw [js hs hw]; simp)]
   exact ⟨fun _ _ => trivial, YV (hs.put o.dst (.sc _ _)) h fun a'' w'' hd h => hq _ _ (hd.trans (put_defers _ _ _)) h⟩
  ·exact h.elim

def Marks (E : Env) (w : World) (base : Nat) (ds : List Deferred) : Prop :=
 ∃ rs : List Nat, ds = rs.map (fun r => { target := .collected r, args := #[] }) ∧ rs.Nodup ∧ ∀ r ∈ rs, base ≤ r ∧ w.heap[r]? = some (.deferred (some [])) ∧ ∀ k v e c, E.bd k v ≠ some (r, e, c)
theorem Marks.G4 {E E' : Env} {w w' : World} {base : Nat} {ds : List Deferred} (h : Marks E w base ds) (he : ec E w E' w') : Marks E' w' base ds := by
 obtain ⟨rs, h1, h2, h3⟩ := h
 refine ⟨rs, h1, h2, fun r hr => ?_⟩
 obtain ⟨h6, h4, h5⟩ := h3 r hr
 have aZ : r < w.heap.size := by
  rcases Nat.lt_or_ge r w.heap.size with h | h
  ·exact h
  ·rw [Array.getElem?_eq_none h] at h4; cases h4
 refine ⟨h6, (he.heap r aZ h5).trans h4, fun k v e c hk => ?_⟩
 rcases he.bd _ _ _ _ _ hk with ⟨k0, v0, e0, c0, h⟩ | h
 ·exact h5 _ _ _ _ h
 ·omega
theorem Marks.nil (E : Env) (w : World) (base : Nat) : Marks E w base [] := ⟨[], rfl, .nil, fun r h => by simp at h⟩

def Ps (E0 : Env) (w0 : World) (Q : Exit → St → Prop) : Exit → Act → World → Prop := fun ex a' w' => ∃ E' st', bH E' w' a' st' ∧ ec E0 w0 E' w' ∧ Marks E' w' w0.heap.size a'.defers ∧ Q ex st'

def cD (P : Program) (ρ : Option Nat) (n0 : Nat) (c : Code) (st : St) (Q : Exit → St → Prop) : Prop :=
 ∀ (E0 : Env) (w0 : World), (∀ k, n0 ≤ k → ∀ v, E0.bd k v = none) → ∀ (E : Env) (w : World) (a : Act), ec E0 w0 E w → bH E w a st → Marks E w w0.heap.size a.defers → c.wpIn (WF ρ) 0 P (Ps E0 w0 Q) a w

def dV (next : St → Prop) (Q : Exit → St → Prop) : Exit → St → Prop
 | .normal, st => next st
 | e, st => Q e st
def fR (id : Nat) (Q : Exit → St → Prop) : Exit → St → Prop
 | .exit j, st => if j = id then Q .normal st else Q (.exit j) st
 | e, st => Q e st

section
variable {P : Program} {tt : Table} {ρ : Option Nat} {n0 : Nat} {st : St} {Q : Exit → St → Prop}
theorem cD.mono {c : Code} {Q' : Exit → St → Prop} (h : cD P ρ n0 c st Q) (hq : ∀ e st', Q e st' → Q' e st') : cD P ρ n0 c st Q' :=
 fun E0 w0 h0 E w a he hs hm => wpIn_mono (h E0 w0 h0 E w a he hs hm) fun _ _ _ ⟨E', st', h1, h2, h4, h3⟩ => ⟨E', st', h1, h2, h4, hq _ _ h3⟩
theorem bn (h : Q .normal st) : cD P ρ n0 .skip st Q := fun E0 w0 h0 E w a he hs hm => wpIn_skip ⟨E, st, hs, he, hm, h⟩
theorem aY (h : Q .ret st) : cD P ρ n0 .ret st Q := fun E0 w0 h0 E w a he hs hm => wpIn_ret ⟨E, st, hs, he, hm, h⟩
theorem dy {id : Nat} (h : Q (.exit id) st) : cD P ρ n0 (.exit id) st Q := fun E0 w0 h0 E w a he hs hm => wpIn_exit ⟨E, st, hs, he, hm, h⟩
theorem aS {x y : Code} (h : cD P ρ n0 x st (dV (fun st' => cD P ρ n0 y st' Q) Q)) : cD P ρ n0 (.seq x y) st Q := fun E0 w0 h0 E w a he hs hm => by
 refine wpIn_seq (wpIn_mono (h E0 w0 h0 E w a he hs hm) ?_)
 rintro e a' w' ⟨E', st', h1, h2, h4, h3⟩
 cases e with
 | normal => exact h3 E0 w0 h0 E' w' a' h2 h1 h4
 | _ => exact ⟨E', st', h1, h2, h4, h3⟩
theorem aL {c : Operand} {x y : Code} {b : Bool} (hc : st.eval c = .sc (.bool b)) (h : cD P ρ n0 (if b = true then x else y) st Q) : cD P ρ n0 (.cond c x y) st Q := fun E0 w0 h0 E w a he hs hm => by
 have := hs.eval c
 rw [hc] at this
 exact wpIn_cond (t := b) (dk this) (h E0 w0 h0 E w a he hs hm)
theorem bf {id : Nat} {c : Code} (h : cD P ρ n0 c st (fR id Q)) : cD P ρ n0 (.block id c) st Q := fun E0 w0 h0 E w a he hs hm => by
 refine wpIn_block (wpIn_mono (h E0 w0 h0 E w a he hs hm) ?_)
 rintro e a' w' ⟨E', st', h1, h2, h4, h3⟩
 cases e with
 | exit j =>
  simp only [Exit.inBlock,fR] at h3 ⊢
  split
  ·rename_i hj; rw [if_pos hj] at h3; exact ⟨E', st', h1, h2, h4, h3⟩
  ·rename_i hj; rw [if_neg hj] at h3; exact ⟨E', st', h1, h2, h4, h3⟩
 | _ => exact ⟨E', st', h1, h2, h4, h3⟩
theorem ja (ht : TT P tt) {id : Nat} {ops : Array Oper} (h : dc P tt ops ops.toList st (Q .normal)) : cD P ρ n0 (.region id ops false) st Q := fun E0 w0 h0 E w a he hs hm => by
 refine wpIn_region ?_
 have := xW ht (ρ := ρ) (n := 0) (Q' := Ps E0 w0 Q) ops.toList [] (by simp) hs h (fun a' w' hd ⟨E', st', h1, h2, h3⟩ => ⟨E', st', h1, he.trans h2, by rw [hd]; exact hm.G4 h2, h3⟩)
 rw [List.range_eq_range']
 simpa using this

def iD (P : Program) (ρ : Option Nat) (n0 : Nat) (c : Code) : Nat → St → (Exit → St → Prop) → Prop
 | 0, _, _ => False
 | n + 1, st, Q => cD P ρ n0 c st (dV (fun st' => iD P ρ n0 c n st' Q) Q)
theorem ni {c : Code} (n : Nat) (h : iD P ρ n0 c n st Q) : cD P ρ n0 (.loop c) st Q := fun E0 w0 h0 E w a he hs hm => by
 refine wpIn_loop_rounds n ?_
 have key : ∀ (n : Nat) (E1 : Env) (w1 : World) (a1 : Act) (oz : St), bH E1 w1 a1 oz → ec E0 w0 E1 w1 → Marks E1 w1 w0.heap.size a1.defers → iD P ρ n0 c n oz Q → Code.roundsIn (WF ρ) 0 P c (Ps E0 w0 Q) n a1 w1 := by
  intro n
  induction n with
  | zero => intro E1 w1 a1 oz _ _ _ h; exact h.elim
  | succ n ih =>
   intro E1 w1 a1 oz h1 h2 h5 h3
   refine wpIn_mono (h3 E0 w0 h0 E1 w1 a1 h2 h1 h5) ?_
   rintro e a' w' ⟨E', st', h4, h5, h7, h6⟩
   cases e with
   | normal => exact ih E' w' a' st' h4 h5 h7 h6
   | _ => exact ⟨E', st', h4, h5, h7, h6⟩
 exact key n E w a st hs he hm h

theorem nj {c : Code} {st' : St} (hw : ∀ E w a, bH E w a st → bH E w a st') (h : cD P ρ n0 c st' Q) : cD P ρ n0 c st Q :=
 fun E0 w0 h0 E w a he hs hm => h E0 w0 h0 E w a he (hw E w a hs) hm


mutual
def au (n : Nat) : V → Bool
 | .ms b _ _ _ => decide (b < n)
 | .ptr b _ => decide (b < n)
 | .fP b => decide (b < n)
 | .mp b => decide (b < n)
 | .dZ b _ _ _ => decide (b < n)
 | .undef => true
 | .sc _ => true
 | .slice _ => true
 | .cH _ => true
 | .gn => true
 | .full _ => true
 | .agg cs => aD n cs
 | .cC cs => aD n cs
 | .bp _ first cap => aD n first && aD n cap
def aD (n : Nat) : List V → Bool
 | [] => true
 | c :: r => au n c && aD n r
end
theorem du (n : Nat) (l : List V) : aD n l = l.all (au n) := by
 induction l with
 | nil => rfl
 | cons c r ih => simp [aD, ih]
def az (n : Nat) : aC → Bool
 | .box cs => cs.all (au n)
 | .loop _ _ fr _ _ _ => fr.all (au n)
 | .map bV _ => bV.all (fun k => au n k.2.2)
 | .fh m _ _ _ => decide (m < n)
 | _ => true
def Env.cut (E : Env) (n : Nat) : Env := { F := E.F, bd := fun k v => if k < n then E.bd k v else none, gl := E.gl }

theorem e9 {E : Env} {n : Nat} {v : V} {x : Value} (h : bC E v x) (hb : au n v = true) : bC (E.cut n) v x := by
 induction h with
 | undef => exact .undef _ _
 | sc => exact .sc _ _
 | slice E rows a cap oZ ad xf ha jU hz hF h1 hR ih => exact .slice _ _ _ _ oZ ad xf ha jU hz hF h1 hR
 | ms E b v s l g e c a cap di hl h0 wE => exact .ms _ _ _ _ _ g e c _ _ ((if_pos (by simpa [au] using hb)).trans di) hl h0 wE
 | eN => exact .eN _ _ _ _
 | ptr E b o g e c di => exact .ptr _ _ _ g e c ((if_pos (by simpa [au] using hb)).trans di)
 | fP E b l e c di => exact .fP _ _ l e c ((if_pos (by simpa [au] using hb)).trans di)
 | mp E b l e c di => exact .mp _ _ l e c ((if_pos (by simpa [au] using hb)).trans di)
 | dZ E b v i o g e c di => exact .dZ _ _ _ _ _ g e c ((if_pos (by simpa [au] using hb)).trans di)
 | cH E cs ad xf hF hR ih => exact .cH _ _ _ xf hF hR
 | gn => exact .gn _
 | full E rows a h ih => exact .full _ _ _ (ih rfl)
 | agg E cs xs hl hh ih =>
  rw [au, du] at hb
  exact .agg _ _ _ hl fun i c x hc hx => ih i c x hc hx (List.all_eq_true.1 hb c (List.mem_of_getElem? hc))
 | cC E cs xs hl hh ih =>
  rw [au, du] at hb
  exact .cC _ _ _ hl fun i c x hc hx => ih i c x hc hx (List.all_eq_true.1 hb c (List.mem_of_getElem? hc))
 | bp E f first cap xs ys hx hy h1 h2 O0 O1 =>
  rw [au, du, du, Bool.and_eq_true] at hb
  exact .bp _ _ _ _ _ _ hx hy (fun i c x hc hx => O0 i c x hc hx (List.all_eq_true.1 hb.1 c (List.mem_of_getElem? hc))) fun i c x hc hx => O1 i c x hc hx (List.all_eq_true.1 hb.2 c (List.mem_of_getElem? hc))

theorem bH.cut {E : Env} {w : World} {a : Act} {st : St} (hs : bH E w a st) {n : Nat} (hf : st.fr.all (au n) = true) (hm : (st.mem.take n).all (az n) = true) : bH (E.cut n) w a { st with mem := st.mem.take n } := by
 have eg : ∀ k v, k < n → (E.cut n).bd k v = E.bd k v := fun k v h => if_pos h
 have gv : ∀ k v, n ≤ k → (E.cut n).bd k v = none := fun k v h => if_neg (by omega)
 have aZ : ∀ {k v t}, (E.cut n).bd k v = some t → k < n ∧ E.bd k v = some t := fun {k v t} h => by
  by_cases hk : k < n
  ·rw [eg k v hk] at h; exact ⟨hk, h⟩
  ·rw [gv k v (by omega)] at h; cases h
 have fH : ∀ {k : Nat} {B : aC}, (st.mem.take n)[k]? = some B → k < n ∧ st.mem[k]? = some B := fun {k B} h => by
  rw [List.getElem?_take] at h
  split at h
  ·exact ⟨by assumption, h⟩
  ·cases h
 refine ⟨hs.F, fun k v g e c h => hs.lt _ _ _ _ _ (aZ h).2, fun k B hk => ?_, fun k hk v => ?_, fun k B hk v hv => ?_, fun k k' v v' g e1 c1 e2 c2 h5 h6 => hs.apart _ _ _ _ _ _ _ _ _ (aZ h5).2 (aZ h6).2, ⟨hs.fr.1, fun i v x hv hx => e9 (hs.fr.2 i v x hv hx) (List.all_eq_true.1 hf v (List.mem_of_getElem? hv))⟩⟩
 ·obtain ⟨iE, gD⟩ := fH hk
  have cK := List.all_eq_true.1 hm B (List.mem_of_getElem? hk)
  have h := hs.mem k B gD
  cases B with
  | hole => exact fun v => by rw [eg k v iE]; exact h v
  | dead => trivial
  | box cs =>
   obtain ⟨g, T, xs, h1, h2, h3, h4⟩ := h
   exact ⟨g, T, xs, (eg k 0 iE).trans h1, h2, ⟨h3.1, fun i v x hv hx => e9 (h3.2 i v x hv hx) (List.all_eq_true.1 cK v (List.mem_of_getElem? hv))⟩, h4⟩
  | loop s jV fr params assign body =>
   obtain ⟨l, fn, tmps, db, h1, h2, h3, h4⟩ := h
   exact ⟨l, fn, tmps, db, (eg k 0 iE).trans h1, h2, ⟨h3.1, fun i v x hv hx => e9 (h3.2 i v x hv hx) (List.all_eq_true.1 cK v (List.mem_of_getElem? hv))⟩, h4⟩
  | map bV clock =>
   obtain ⟨g, es, h1, h2, h3, h4⟩ := h
   exact ⟨g, es, (eg k 0 iE).trans h1, h2, ⟨h3.1, fun i kb e hk he => let ⟨p1, p2, p3⟩ := h3.2 i kb e hk he; ⟨p1, p2, e9 p3 (List.all_eq_true.1 cK kb (List.mem_of_getElem? hk))⟩⟩, h4⟩
  | fh m since seen last =>
   obtain ⟨g, gm, e, c, h1, h2, h3, h4⟩ := h
   have YW : m < n := by simpa [az] using cK
   exact ⟨g, gm, e, c, (eg k 0 iE).trans h1, (eg m 0 YW).trans h2, h3, h4⟩
  | jP s pos =>
   obtain ⟨g, h1, h2, h3⟩ := h
   exact ⟨g, (eg k 0 iE).trans h1, h2, h3⟩
  | j7 =>
   obtain ⟨g, h1, h2, h3⟩ := h
   exact ⟨g, (eg k 0 iE).trans h1, h2, h3⟩
  | rows v e rs =>
   rcases h with ⟨h1, h2⟩ | ⟨g, T, xs, c, h1, h2⟩
   ·exact .inl ⟨h1, (eg k v iE).trans h2⟩
   ·exact .inr ⟨g, T, xs, c, (eg k v iE).trans h1, h2⟩
  | pV v e rs =>
   rcases h with ⟨h1, h2⟩ | ⟨g, c, h1, h2⟩
   ·exact .inl ⟨h1, (eg k v iE).trans h2⟩
   ·exact .inr ⟨g, c, (eg k v iE).trans h1, h2⟩
 ·by_cases iE : k < n
  ·rw [eg k v iE]
   refine hs.top k ?_ v
   dsimp only at hk
   rw [List.length_take] at hk; omega
  ·exact gv k v (by omega)
 ·obtain ⟨iE, gD⟩ := fH hk
  rw [eg k v iE]; exact hs.b7 k B gD v hv

def forget (sG : List Nat) (fr : List V) : List V := sG.foldl (fun fr i => fr.set i .undef) fr
theorem bH.forget {E : Env} {w : World} {a : Act} (sG : List Nat) : ∀ {st : St}, bH E w a st → bH E w a { st with fr := Eng.forget sG st.fr } := by
 induction sG with
 | nil => intro st hs; exact hs
 | cons i r ih =>
  intro st hs
  have : bH E w a { st with fr := st.fr.set i .undef } := by
   refine ⟨hs.F, hs.lt, hs.mem, hs.top, hs.b7, hs.apart, ⟨by simpa using hs.fr.1, fun j v x hv hx => ?_⟩⟩
   dsimp only at hv
   rw [List.getElem?_set] at hv
   split at hv
   ·split at hv
    ·cases hv; exact .undef _ _
    ·cases hv
   ·exact hs.fr.2 j v x hv hx
  exact ih this

theorem uj {c : Code} (n : Nat) (sG : List Nat) (hn : n0 ≤ n) (hf : (forget sG st.fr).all (au n) = true) (hm : (st.mem.take n).all (az n) = true)
  (h : cD P ρ n0 c { fr := forget sG st.fr, mem := st.mem.take n } Q) : cD P ρ n0 c st Q := fun E0 w0 h0 E w a he hs y3 => by
 have h1 := (hs.forget sG).cut (n := n) hf hm
 refine h E0 w0 h0 (E.cut n) w a ⟨⟨he.le.F, fun k v t hk => ?_⟩, fun k v g e c hk => ?_, he.F, he.os, he.tape, he.output, he.size, he.heap⟩ h1 ?_
 rotate_left 2
 ·obtain ⟨rs, m1, m2, m3⟩ := y3
  refine ⟨rs, m1, m2, fun r hr => ⟨(m3 r hr).1, (m3 r hr).2.1, fun k v e c hk => ?_⟩⟩
  have : E.bd k v = some (r, e, c) := by
   by_cases iE : k < n
   ·exact ((if_pos iE).symm.trans hk : E.bd k v = _)
   ·have h2 : (E.cut n).bd k v = none := if_neg iE
    rw [h2] at hk; cases hk
  exact (m3 r hr).2.2 _ _ _ _ this
 ·have : k < n := by
   rcases Nat.lt_or_ge k n with aZ | gv
   ·exact aZ
   ·rw [h0 k (by omega) v] at hk; cases hk
  exact (if_pos this).trans (he.le.bd _ _ _ hk)
 ·have : E.bd k v = some (g, e, c) := by
   by_cases iE : k < n
   ·exact ((if_pos iE).symm.trans hk : E.bd k v = _)
   ·have h2 : (E.cut n).bd k v = none := if_neg iE
    rw [h2] at hk; cases hk
  exact he.bd _ _ _ _ _ this

theorem bH.LV {E : Env} {w : World} {a : Act} {st : St} (hs : bH E w a st) {i b v : Nat} (h : st.fr[i]? = some (.sc (.slice none 0 0))) : bH E w a { st with fr := st.fr.set i (.ms b v 0 0) } := by
 refine ⟨hs.F, hs.lt, hs.mem, hs.top, hs.b7, hs.apart, ⟨by simpa using hs.fr.1, fun j u x hu hx => ?_⟩⟩
 dsimp only at hu
 rw [List.getElem?_set] at hu
 split at hu
 ·rename_i D3
  subst D3
  split at hu
  ·cases hu
   have := hs.fr.2 _ _ _ h hx
   rw [dk this]
   exact .eN _ _ _ _
  ·cases hu
 ·exact hs.fr.2 j u x hu hx
end

def oA (tt : Table) (st : St) : ResultVar → Option V
 | .tmp t => some (st.fr.getD t .undef)
 | .cell a T => mB tt st.mem T (st.fr.getD a .undef)
def l4 (tt : Table) (st : St) : List ResultVar → Option (List V)
 | [] => some []
 | r :: rs => match oA tt st r with
  | some v => match l4 tt st rs with | some l => some (v :: l) | none => none
  | none => none
def qb (tt : Table) (rs : Array ResultVar) (st : St) : Option V :=
 match l4 tt st rs.toList with
 | some [v] => Fe st.mem v
 | some vs => Fe st.mem (.cC vs)
 | none => none

theorem kf {P : Program} {tt : Table} (ht : TT P tt) {E : Env} {w : World} {a : Act} {st : St} (hs : bH E w a st) : ∀ (rs : List ResultVar) (vs : List V), l4 tt st rs = some vs →
  ∃ xs : List Value, (rs.mapM (fun | .tmp t => pure (a.tmps.getD t undef) | .cell p t => do loadVar t (← asAddr (a.tmps.getD p undef))) : Sem (List Value)).run P w = .ok xs w ∧ bo E vs xs
 | [], vs, h => by simp [l4] at h; subst h; exact ⟨[], rfl, .nil _⟩
 | r :: rs, vs, h => by
  simp only [l4] at h
  split at h
  ·rename_i v hv
   split at h
   ·rename_i l hl
    simp only [Option.some.injEq] at h; subst h
    obtain ⟨xs, h1, h2⟩ := kf ht hs rs l hl
    have hx : ∃ x, ((match r with | .tmp t => pure (a.tmps.getD t undef) | .cell p t => do loadVar t (← asAddr (a.tmps.getD p undef))) : Sem Value).run P w = .ok x w ∧ bC E v x := by
     cases r with
     | tmp t =>
      simp only [oA,Option.some.injEq] at hv; subst hv
      exact ⟨_, rfl, hs.eval (.tmp t)⟩
     | cell p t =>
      simp only [oA] at hv
      have hp := hs.eval (.tmp p)
      obtain ⟨y, h3, h4⟩ := sn ht hs hp hv
      refine ⟨y, ?_, h4⟩
      have N1 : ∃ ad, a.tmps.getD p undef = .pointer (some ad) := by
       have R8 : bC E (st.fr.getD p .undef) (a.tmps.getD p undef) := hp
       revert R8 hv
       generalize st.fr.getD p .undef = q
       generalize a.tmps.getD p undef = z
       intro hv R8
       cases R8 with
       | ptr => exact ⟨_, rfl⟩
       | dZ => exact ⟨_, rfl⟩
       | cH => exact ⟨_, rfl⟩
       | _ => simp [mB] at hv
      obtain ⟨ad, had⟩ := N1
      have h3' : (Instr.loadAt t (a.tmps.getD p undef)).run P w = .ok y w := h3
      show ((do loadVar t (← asAddr (a.tmps.getD p undef))) : Sem Value).run P w = _
      rw [had] at h3' ⊢
      simpa [Instr.loadAt, Instr.sureAddr, asAddr] using h3'
    obtain ⟨x, h3, h4⟩ := hx
    refine ⟨x :: xs, ?_, .cons h4 h2⟩
    simp only [List.mapM_cons,Sem.run_bind]
    rw [h3]
    simp only [Result.andThen_ok]
    rw [h1]
    rfl
   ·cases h
  ·cases h

theorem Cq {P : Program} {tt : Table} (ht : TT P tt) {E : Env} {w : World} {a : Act} {st : St} (hs : bH E w a st) {fn : Func} {r : V} (h : qb tt fn.results st = some r) :
  ∃ keys x, (results fn a.tmps).run P w = .ok x w ∧ bC (E.lR w keys).pure r x := by
 unfold qb at h
 have run : ∀ xs : List Value, (fn.results.toList.mapM (fun | .tmp t => pure (a.tmps.getD t undef) | .cell p t => do loadVar t (← asAddr (a.tmps.getD p undef))) : Sem (List Value)).run P w = .ok xs w →
   (results fn a.tmps).run P w = .ok (if h : xs.toArray.size = 1 then xs.toArray[0] else .tuple xs.toArray) w := fun xs hx => by
  unfold results
  rw [Array.mapM_eq_mapM_toList]
  simp only [Sem.run_bind,Sem.run_map]
  erw [hx]
  rfl
 split at h
 ·rename_i v hv
  obtain ⟨xs, h1, h2⟩ := kf ht hs _ _ hv
  obtain ⟨x, ys, rfl, h3, h4⟩ := h2.of_cons
  have := h4.of_nil; subst this
  exact ⟨refs v, x, run _ h1, wK hs h3 h fun k hk => hk⟩
 ·rename_i vs ch hv
  obtain ⟨xs, h1, h2⟩ := kf ht hs _ _ hv
  have hl : xs.toArray.size ≠ 1 := by
   have := h2.1
   intro he
   match vs, xs, this, he with
   | [v], _, _, _ => exact ch v rfl
   | [], [], _, he => simp at he
   | [], _ :: _, h, _ => simp at h
   | _ :: _ :: _, [], h, _ => simp at h
   | _ :: _ :: _, _ :: [], h, _ => simp at h
   | _ :: _ :: _, _ :: _ :: _, _, he => simp at he
  have h3 := run _ h1
  rw [dif_neg hl] at h3
  exact ⟨refs (.cC vs), _, h3, wK hs (.cC _ _ _ (by simpa using h2.1) fun i c x hc hx => h2.2 i c x hc (by simpa using hx)) h fun k hk => hk⟩
 ·cases h

def bA (fn : Func) (args : List V) (mem : List aC) : St := { fr := args ++ List.replicate (fn.ntmps - args.length) (.sc undef), mem := mem }
theorem sH {E : Env} (fn : Func) {args : List V} {mem : List aC} {xs : Array Value} (hx : bo E args xs.toList) : bo E (bA fn args mem).fr (xs ++ Array.replicate (fn.ntmps - xs.size) undef).toList := by
 have hl : args.length = xs.size := by have := hx.1; simpa using this
 simp only [bA,Array.toList_append,Array.toList_replicate,hl]
 refine hx.append ⟨by simp, fun i v x hv hx => ?_⟩
 rw [List.getElem?_replicate] at hv hx
 split at hv
 ·rename_i hi; rw [if_pos hi] at hx; cases hv; cases hx; exact .sc _ _
 ·cases hv

theorem xX {P : Program} {w : World} {r : Nat} (h : w.heap[r]? = some (.deferred (some []))) : (Instr.takeDeferred r).run P w = .ok [] { w with heap := w.heap.setIfInBounds r (.deferred none) } := by
 simp [Instr.takeDeferred, getObj, setObj, Sem.run, h, bind, Sem.bind, pure]

theorem l5 {P : Program} {fn : Func} {tmps : Array Value} {R : Ending → World → Prop} : ∀ (rs : List Nat) (w : World), rs.Nodup → (∀ r ∈ rs, w.heap[r]? = some (.deferred (some []))) →
  (∀ w', w'.os = w.os → w'.tape = w.tape → w'.output = w.output → w'.heap.size = w.heap.size → (∀ b, b ∉ rs → w'.heap[b]? = w.heap[b]?) → ∃ v, (results fn tmps).run P w' = .ok v w' ∧ R (.returned v) w') →
  LeavesInM (WF none) 0 P fn tmps R (rs.map (fun r => { target := .collected r, args := #[] })) .returning w
 | [], w, _, _, h => by
  obtain ⟨v, h1, h2⟩ := h w rfl rfl rfl rfl fun _ _ => rfl
  exact ⟨v, h1, h2⟩
 | r :: rs, w, hn, hr, h => by
  refine ⟨by simp, .inl ⟨r, _, rfl, xX (hr r (List.mem_cons_self ..)), ?_⟩⟩
  rw [List.nodup_cons] at hn
  have uo : ∀ b, b ≠ r → (w.heap.setIfInBounds r (.deferred none))[b]? = w.heap[b]? := fun b hb => Array.getElem?_setIfInBounds_ne (fun e => hb e.symm)
  refine l5 rs _ hn.2 (fun r' y1 => ?_) fun w' h1 h2 h3 h4 h5 => ?_
  ·rw [uo r' (fun e => hn.1 (e ▸ y1))]; exact hr r' (List.mem_cons_of_mem _ y1)
  ·exact h w' h1 h2 h3 (by rw [h4]; simp) fun b hb => by
    simp only [List.mem_cons,not_or] at hb
    rw [h5 b hb.2, uo b hb.1]

theorem bH.Hz {E : Env} {w w' : World} {a : Act} {st : St} (hs : bH E w a st) {rs : List Nat} (hr : ∀ r ∈ rs, w.heap[r]? = some (.deferred (some [])) ∧ ∀ k v e c, E.bd k v ≠ some (r, e, c)) (ka : w'.heap.size = w.heap.size)
  (hh : ∀ b, b ∉ rs → w'.heap[b]? = w.heap[b]?) : bH E w' a st := by
 refine ⟨fun ad x hx => ?_, fun k v g e c h => by rw [ka]; exact hs.lt _ _ _ _ _ h, fun k B hk => ?_, hs.top, hs.b7, hs.apart, hs.fr⟩
 ·have hc := hs.F ad x hx
  have : ad.block ∉ rs := fun kX => by
   have := (hr _ kX).1
   simp [World.cell?, this] at hc
  rw [← hc]; simp [World.cell?, hh _ this]
 ·exact (hs.mem k B hk).mono E.le_refl (fun _ h => h) (fun g e c h => hh g fun kX => (hr g kX).2 _ _ _ _ h) fun _ _ _ _ _ h => h

theorem iS {P : Program} {tt : Table} (ht : TT P tt) {f : FuncId} {fn : Func} {body : Code} {args : List V} {r : V} (hf : P.funcs[f]? = some fn) (hb : fn.body = some body)
  (dz : ∀ (xs : Array Value) (w : World), (callFunc f xs).run P w = .ok (.enter f xs) w)
  (h : cD P none 0 body (bA fn args []) fun ex st' => (ex = .ret ∨ ex = .normal) ∧ qb tt fn.results st' = some r) : aT P f args r := by
 refine ⟨dz, fun F hg w xs hF hx => zP (n := 0) (callsIn_of_wp_marks hf hb trivial ?_)⟩
 have hs : bH ⟨F, fun _ _ => none, hg⟩ w { tmps := xs ++ Array.replicate (fn.ntmps - xs.size) undef, defers := [] } (bA fn args []) := by
  refine ⟨hF, (fun k v g e c h => by cases h), (fun k B h => by simp [bA] at h), (fun k _ v => rfl), (fun k B h => by simp [bA] at h), (fun k k' v v' g e c e' c' h => by cases h), sH fn hx⟩
 refine wpIn_mono (h _ w (fun k _ v => rfl) _ w _ (ec.refl _ w) hs (.nil _ _ _)) ?_
 rintro e a' w' ⟨E', st', h1, h2, ⟨rs, hd, iK, Hj⟩, he, hr⟩
 have post : LeavesInM (WF none) 0 P fn a'.tmps (fun e w' => ∃ F' x, e = .returned x ∧ (∀ ad y, F ad = some y → F' ad = some y) ∧ (∀ ad y, F' ad = some y → w'.cell? ad = some y) ∧ (∀ ad y, F' ad = some y → F ad = some y ∨ w.heap.size ≤ ad.block) ∧
   (∃ zJ, bC ⟨F', fun _ _ => none, zJ⟩ r x) ∧ Below w.heap.size w w') a'.defers .returning w' := by
  rw [hd]
  refine l5 rs w' iK (fun r hr => (Hj r hr).2.1) fun w2 k1 k2 k3 k4 k5 => ?_
  have GV := h1.Hz (fun r hr => (Hj r hr).2) k4 k5
  obtain ⟨keys, x, h3, h4⟩ := Cq ht GV hr
  have hold : ∀ r ∈ rs, w.heap.size ≤ r := fun r hr => (Hj r hr).1
  refine ⟨x, h3, (E'.lR w2 keys).F, x, rfl, fun ad y hy => (Env.rH E' w2 keys).F _ _ (h2.le.F _ _ hy), fun ad y hy => Env.D6 GV.F hy, fun ad y hy => ?_, ⟨_, h4⟩, ⟨k1.trans h2.os, k2.trans h2.tape, k3.trans h2.output, by rw [k4]; exact h2.size, fun b hb => (k5 b fun kX => by have := hold b kX; omega).trans (h2.heap b hb (by simp))⟩⟩
  rcases Env.xS hy with h | ⟨k, -, e, c, h⟩
  ·rcases h2.F _ _ h with h | h | ⟨k0, v0, e0, c0, h⟩
   ·exact .inl h
   ·exact .inr h
   ·cases h
  ·rcases h2.bd _ _ _ _ _ h with ⟨k0, v0, e0, c0, h⟩ | h
   ·cases h
   ·exact .inr h
 rcases he with rfl | rfl <;> exact post
end Go.Eng
end

section
namespace Go.Eng
variable [aA]

def n7 : List (Nat × Ti) → Table
 | [], _ => none
 | (k, i) :: r, t => if t = k then some i else n7 r t

def xY : Value → Value → Bool
 | .bool a, .bool b => a == b
 | .int k n, .int k' n' => k == k' && n == n'
 | .string a, .string b => a.data == b.data
 | .pointer none, .pointer none => true
 | .slice none a b, .slice none c d => a == c && b == d
 | .map none, .map none => true
 | .nilFunc, .nilFunc => true
 | .nilIface, .nilIface => true
 | _, _ => false
def kL : List Value → List Value → Bool
 | [], [] => true
 | a :: r, b :: s => xY a b && kL r s
 | _, _ => false
theorem wM {a b : Value} (h : xY a b = true) : a = b := by
 unfold xY at h
 split at h
 ·simp at h; rw [h]
 ·simp at h; rw [h.1, h.2]
 ·rename_i a b
  have : a.data = b.data := by simpa using h
  congr 1
  cases a; cases b; simp_all
 ·rfl
 ·simp at h; rw [h.1, h.2]
 ·rfl
 ·rfl
 ·rfl
 ·cases h
theorem l6 : ∀ {a b : List Value}, kL a b = true → a = b
 | [], [], _ => rfl
 | x :: r, y :: s, h => by
  simp only [kL,Bool.and_eq_true] at h
  rw [wM h.1, l6 h.2]
 | [], _ :: _, h => by simp [kL] at h
 | _ :: _, [], h => by simp [kL] at h

def rJ (P : Program) : List Field → List (Nat × Nat) → Bool
 | [], [] => true
 | f :: r, p :: s => f.offset == p.1 && p.2 != 0 && (match P.info? f.type with | some i => i.size == p.2 | none => false) && rJ P r s
 | _, _ => false

def LW (P : Program) (t : TypeId) (i : Ti) : Bool :=
 match P.info? t with
 | none => false
 | some info => info.size == i.size && info.bytes == i.bytes && (match info.zero with | some z => kL z.cells.toList i.zero | none => false) &&
  match P.underlying t with
  | none => false
  | some d => (i.agg == (match d with | .struct _ => true | .array _ _ => true | _ => false)) &&
   (match i.elem with | none => true | some e => (match d with | .slice e' => e' == e | _ => false)) &&
   (match i.aJ with | [] => true | fl => (match d with | .struct fs => rJ P fs.toList fl | _ => false))

def D8 (P : Program) : List (Nat × Ti) → Bool
 | [] => true
 | (t, i) :: r => LW P t i && D8 P r

theorem uq {P : Program} : ∀ {fs : List Field} {fl : List (Nat × Nat)}, rJ P fs fl = true → fs.length = fl.length ∧ ∀ (k off sz : Nat), fl[k]? = some (off, sz) → ∃ f inf, fs[k]? = some f ∧ f.offset = off ∧ P.info? f.type = some inf ∧ inf.size = sz ∧ sz ≠ 0
 | [], [], _ => ⟨rfl, fun k off sz h => by simp at h⟩
 | f :: r, p :: s, h => by
  simp only [rJ,Bool.and_eq_true,beq_iff_eq,bne_iff_ne] at h
  obtain ⟨⟨⟨h1, h2⟩, h3⟩, h4⟩ := h
  obtain ⟨h5, h6⟩ := uq h4
  refine ⟨by simp [h5], fun k off sz hk => ?_⟩
  cases k with
  | zero =>
   simp only [List.getElem?_cons_zero,Option.some.injEq] at hk; subst hk
   split at h3
   ·rename_i inf hi
    exact ⟨f, inf, rfl, h1, hi, by simpa using h3, h2⟩
   ·cases h3
  | succ k => exact h6 k off sz (by simpa using hk)
 | [], _ :: _, h => by simp [rJ] at h
 | _ :: _, [], h => by simp [rJ] at h

theorem D9 {P : Program} {t : TypeId} {i : Ti} (h : LW P t i = true) :
  (∃ info, P.info? t = some info ∧ info.size = i.size ∧ info.bytes = i.bytes ∧ ∃ z, info.zero = some z ∧ z.cells.toList = i.zero) ∧
  (∃ d, P.underlying t = some d ∧ (i.agg = true ↔ ((∃ fs, d = .struct fs) ∨ ∃ n e, d = .array n e)) ∧ (∀ e, i.elem = some e → d = .slice e) ∧
   (∀ (f off sz : Nat), i.aJ[f]? = some (off, sz) → ∃ fs fd inf, d = .struct fs ∧ fs.size = i.aJ.length ∧ fs[f]? = some fd ∧ fd.offset = off ∧ P.info? fd.type = some inf ∧ inf.size = sz ∧ sz ≠ 0)) := by
 unfold LW at h
 split at h
 ·cases h
 ·rename_i info Tb
  simp only [Bool.and_eq_true,beq_iff_eq] at h
  obtain ⟨⟨⟨h1, h2⟩, h3⟩, h4⟩ := h
  split at h3
  ·rename_i z hz
   refine ⟨⟨info, Tb, h1, h2, z, hz, l6 h3⟩, ?_⟩
   split at h4
   ·cases h4
   ·rename_i d hd
    simp only [Bool.and_eq_true,beq_iff_eq] at h4
    obtain ⟨⟨h5, h6⟩, h7⟩ := h4
    refine ⟨d, hd, ?_, ?_, ?_⟩
    ·rw [h5]
     cases d <;> simp
    ·intro e he
     rw [he] at h6
     dsimp only at h6
     split at h6
     ·simp at h6; rw [h6]
     ·cases h6
    ·intro f off sz hf
     split at h7
     ·rename_i R5; rw [R5] at hf; simp at hf
     ·split at h7
      ·rename_i fs
       obtain ⟨h8, h9⟩ := uq h7
       obtain ⟨fd, inf, h10, h11⟩ := h9 f off sz hf
       exact ⟨fs, fd, inf, rfl, by simpa using h8, by simpa using h10, h11⟩
      ·cases h7
  ·cases h3

theorem rK {P : Program} : ∀ {l : List (Nat × Ti)}, D8 P l = true → ∀ t i, n7 l t = some i → LW P t i = true
 | [], _, t, i, h => by simp [n7] at h
 | (k, j) :: r, h, t, i, ht => by
  simp only [D8,Bool.and_eq_true] at h
  simp only [n7] at ht
  split at ht
  ·rename_i hk; subst hk; cases ht; exact h.1
  ·exact rK h.2 t i ht
theorem tt_of {P : Program} {l : List (Nat × Ti)} (h : D8 P l = true) : TT P (n7 l) :=
 ⟨fun t i ht => (D9 (rK h t i ht)).1, fun t i ht => (D9 (rK h t i ht)).2⟩
end Go.Eng
end

section
namespace Go.Eng
variable [aA]

section
variable {P : Program} {tt : Table} {ρ : Option Nat} {n0 : Nat} {st : St} {Q : Exit → St → Prop}
theorem ai (ht : TT P tt) {id : Nat} {ops : Array Oper} {y : Code} (h : ∀ K : St → Prop, (∀ st', cD P ρ n0 y st' Q → K st') → dc P tt ops ops.toList st K) : cD P ρ n0 (.seq (.region id ops false) y) st Q :=
 aS (ja ht (h (fun st' => cD P ρ n0 y st' Q) fun _ h => h))
theorem aK (ht : TT P tt) {id : Nat} {ops : Array Oper} (h : ∀ K : St → Prop, (∀ st', Q .normal st' → K st') → dc P tt ops ops.toList st K) : cD P ρ n0 (.region id ops false) st Q :=
 ja ht (h (Q .normal) fun _ h => h)
def bc : List Bool → List V → List V
 | _, [] => []
 | [], _ :: r => .undef :: bc [] r
 | b :: m, v :: r => (if b = true then v else .undef) :: bc m r
theorem o8 {E : Env} : ∀ (m : List Bool) {vs : List V} {xs : List Value}, bo E vs xs → bo E (bc m vs) xs
 | m, [], xs, h => by rw [h.of_nil]; cases m <;> exact .nil _
 | [], v :: r, xs, h => by
  obtain ⟨x, ys, rfl, h1, h2⟩ := h.of_cons
  exact .cons (.undef _ _) (o8 [] h2)
 | b :: m, v :: r, xs, h => by
  obtain ⟨x, ys, rfl, h1, h2⟩ := h.of_cons
  refine .cons ?_ (o8 m h2)
  cases b
  ·exact .undef _ _
  ·exact h1
theorem bH.mask {E : Env} {w : World} {a : Act} {st : St} (hs : bH E w a st) (m : List Bool) : bH E w a { st with fr := bc m st.fr } :=
 ⟨hs.F, hs.lt, hs.mem, hs.top, hs.b7, hs.apart, o8 m hs.fr⟩
theorem qc {c : Code} (n : Nat) (m : List Bool) (hn : n0 ≤ n) (hf : (bc m st.fr).all (au n) = true) (hm : (st.mem.take n).all (az n) = true)
  (h : cD P ρ n0 c { fr := bc m st.fr, mem := st.mem.take n } Q) : cD P ρ n0 c st Q :=
 nj (st' := { st with fr := bc m st.fr }) (fun E w a hs => hs.mask m) (uj n [] hn hf hm h)
def zQ (n0 : Nat) (st : St) (I : St → Prop) : Prop :=
 ∃ (n : Nat) (m : List Bool), n0 ≤ n ∧ (bc m st.fr).all (au n) = true ∧ (st.mem.take n).all (az n) = true ∧ I { fr := bc m st.fr, mem := st.mem.take n }
theorem o9 {c : Code} : ∀ {n n' : Nat} {st : St}, n ≤ n' → iD P ρ n0 c n st Q → iD P ρ n0 c n' st Q
 | 0, _, _, _, h => h.elim
 | n + 1, 0, _, hn, _ => by omega
 | n + 1, n' + 1, st, hn, h => cD.mono h fun e st' hq => by
  cases e with
  | normal => exact o9 (by omega) hq
  | _ => exact hq
theorem cA {c : Code} (I : Nat → St → Prop) (N : Nat) (h0 : zQ n0 st (I N))
  (step : ∀ n st, I n st → cD P ρ n0 c st (dV (fun st' => ∃ k, k < n ∧ zQ n0 st' (I k)) Q)) : cD P ρ n0 (.loop c) st Q := by
 have key : ∀ (n : Nat) (st : St), I n st → iD P ρ n0 c (n + 1) st Q := by
  intro n
  induction n using Nat.strongRecOn with
  | _ n ih =>
   intro st hi
   refine cD.mono (step n st hi) fun e st' hq => ?_
   cases e with
   | normal =>
    obtain ⟨k, hk, n1, m, h1, h2, h3, h4⟩ := hq
    have := ih k hk _ h4
    have : iD P ρ n0 c n { fr := bc m st'.fr, mem := st'.mem.take n1 } Q := o9 (by omega) this
    cases n with
    | zero => omega
    | succ n => exact qc n1 m h1 h2 h3 this
   | _ => exact hq
 obtain ⟨n1, m, h1, h2, h3, h4⟩ := h0
 exact qc n1 m h1 h2 h3 (ni (N + 1) (key N _ h4))
theorem zR {c : Code} (h : ∃ n, iD P ρ n0 c n st Q) : cD P ρ n0 (.loop c) st Q := let ⟨n, hn⟩ := h; ni n hn
end

theorem nm {α β : Type} (P : Program) (s : Sem α) (f : α → Sem β) : b8 P (s >>= f) = (b8 P s).bind fun a => b8 P (f a) := by
 show b8 P (s.bind f) = _
 induction s with
 | pure a => rfl
 | program k ih => exact ih P
 | mark m k ih => exact ih
 | _ => rfl
theorem qd {P : Program} {T : TypeId} {d : TypeDesc} (h : P.underlying T = some d) : b8 P (underlying T) = some d := by
 simp [underlying, nm, program, b8, h, pure]
theorem zS {P : Program} {T : TypeId} (hT : P.underlying T = some .bool) (p q : Bool) : b8 P (Op.equal T (.bool p) (.bool q)) = some (p == q) := by
 show b8 P (Op.equalIn (9999 + 1) T (.bool p) (.bool q)) = _
 rw [Op.equalIn, nm, qd hT]
 rfl

section ints
variable (P : Program) (T : TypeId) (x y : Operand) (k : IntKind) (a b : Int)
theorem Pt : c5 P (rn .add T x y) (.sc (.int k a)) (.sc (.int k b)) = some (.sc (.int k (k.wrap (a + b)))) := by
 simp [c5, dj, rn, binOp, Op.intArith, eqGuard, b8, gO, bind, pure, Sem.bind]
theorem Pu : c5 P (rn .sub T x y) (.sc (.int k a)) (.sc (.int k b)) = some (.sc (.int k (k.wrap (a - b)))) := by
 simp [c5, dj, rn, binOp, Op.intArith, eqGuard, b8, gO, bind, pure, Sem.bind]
theorem Pv : c5 P (rn .mul T x y) (.sc (.int k a)) (.sc (.int k b)) = some (.sc (.int k (k.wrap (a * b)))) := by
 simp [c5, dj, rn, binOp, Op.intArith, eqGuard, b8, gO, bind, pure, Sem.bind]
theorem Pw : c5 P (rn .lss T x y) (.sc (.int k a)) (.sc (.int k b)) = some (.sc (.bool (decide (a < b)))) := by
 simp [c5, dj, rn, binOp, Op.intCmp, eqGuard, b8, gO, bind, pure, Sem.bind]
theorem Px : c5 P (rn .leq T x y) (.sc (.int k a)) (.sc (.int k b)) = some (.sc (.bool (decide (a ≤ b)))) := by
 simp [c5, dj, rn, binOp, Op.intCmp, eqGuard, b8, gO, bind, pure, Sem.bind]
theorem Py : c5 P (rn .gtr T x y) (.sc (.int k a)) (.sc (.int k b)) = some (.sc (.bool (decide (b < a)))) := by
 simp [c5, dj, rn, binOp, Op.intCmp, eqGuard, b8, gO, bind, pure, Sem.bind]
theorem Pz : c5 P (rn .geq T x y) (.sc (.int k a)) (.sc (.int k b)) = some (.sc (.bool (decide (b ≤ a)))) := by
 simp [c5, dj, rn, binOp, Op.intCmp, eqGuard, b8, gO, bind, pure, Sem.bind]
theorem PA : c5 P (rn .eql T x y) (.sc (.int k a)) (.sc (.int k b)) = some (.sc (.bool (decide (a = b)))) := by
 simp [c5, dj, rn, binOp, Op.intCmp, eqGuard, b8, gO, bind, pure, Sem.bind]
 rfl
theorem PB : c5 P (rn .neq T x y) (.sc (.int k a)) (.sc (.int k b)) = some (.sc (.bool (!decide (a = b)))) := by
 simp [c5, dj, rn, binOp, Op.intCmp, eqGuard, b8, gO, bind, pure, Sem.bind]
 rfl
theorem PC (ts : Array TypeId) (ty : TypeId) : ib P (Builtin.max_ ts ty) [.sc (.int k a), .sc (.int k b)] = some (.sc (.int k (if a < b then b else a))) := by
 simp [ib, kY, dj, Builtin.max_, Builtin.max2, b8, gO, bind, pure, Sem.bind]
theorem PD (t : Bool) : oJ P (Op.unary .not) (.sc (.bool t)) = some (.sc (.bool (!t))) := by
 simp [oJ, dj, Op.unary, b8, gO, pure]
end ints

section strings
variable (P : Program) (T : TypeId) (x y : Operand) (a b : ByteArray)
theorem LX : c5 P (rn .eql T x y) (.sc (.string a)) (.sc (.string b)) = some (.sc (.bool (a.toList == b.toList))) := by
 simp [c5, dj, rn, binOp, Op.stringOp, eqGuard, b8, gO, bind, pure, Sem.bind]
theorem LY : c5 P (rn .neq T x y) (.sc (.string a)) (.sc (.string b)) = some (.sc (.bool (!(a.toList == b.toList)))) := by
 simp [c5, dj, rn, binOp, Op.stringOp, eqGuard, b8, gO, bind, pure, Sem.bind]
theorem Ea (h : ((a.size + b.size : Nat) : Int) ≤ IntKind.i64.max) : c5 P (rn .add T x y) (.sc (.string a)) (.sc (.string b)) = some (.sc (.string (a ++ b))) := by
 have h' : ¬ ((a.size + b.size : Nat) : Int) > IntKind.i64.max := by omega
 simp only [c5,dj,rn,binOp,Op.stringOp,if_neg h']
 simp [eqGuard, b8, gO, bind, pure, Sem.bind]
theorem gE {P : Program} {T : TypeId} (hT : P.underlying T = some .string) (k : IntKind) (n : Int) (h0 : 0 ≤ n) {c : UInt8} (hc : a[n.toNat]? = some c) : c5 P (Instr.index T) (.sc (.string a)) (.sc (.int k n)) = some (.sc (.int .u8 c.toNat)) := by
 simp [c5, dj, Instr.index, asIntOf, underlying, hT, h0, hc, b8, gO, bind, pure, Sem.bind, program]
theorem iF {P : Program} {tt : Table} {T : TypeId} (hT : P.underlying T = some .string) (ty : TypeId) : xx P tt #[T] ty [.sc (.string a)] = some (.sc (.int .i64 a.size)) := by
 simp [xx, ib, kY, dj, Builtin.len_, underlying, hT, b8, gO, bind, pure, Sem.bind, program, goInt]
theorem Cr {P : Program} {tt : Table} {mem : List aC} {T : TypeId} (hT : P.underlying T = some .string) (k : IntKind) (n : Int) (h0 : 0 ≤ n) (hn : n ≤ a.size) :
  xv P tt mem T (.sc (.string a)) (some (.sc (.int k n))) none = some (.sc (.string (a.extract n.toNat a.size))) := by
 simp [xv, c5, dj, Instr.sliceAt, Instr.slice, Instr.sliceBounds, Instr.sliceBound, asIntOf, underlying, hT, h0, hn, b8, gO, bind, pure, Sem.bind, program]
theorem LZ {P : Program} {T : TypeId} (hT : P.underlying T = some .bool) (p q : Bool) : c5 P (rn .eql T x y) (.sc (.bool p)) (.sc (.bool q)) = some (.sc (.bool (p == q))) := by
 have : b8 P (do eqGuard .eql T x y (.bool p) (.bool q); binOp .eql T (.bool p) (.bool q)) = some (.bool (p == q)) := by
  show b8 P ((Op.equal T (.bool p) (.bool q)) >>= fun r => Pure.pure (Value.bool r)) = _
  rw [nm, zS hT]; rfl
 simp only [c5,dj,rn,this]; rfl
theorem L0 {P : Program} {src dst : TypeId} {d : TypeDesc} {k' : IntKind} (hs : P.underlying src = some d) (hd : P.underlying dst = some (.int k')) (k : IntKind) (n : Int) : oJ P (convert src dst) (.sc (.int k n)) = some (.sc (.int k' (k'.wrap n))) := by
 simp [oJ, dj, convert, underlying, hs, hd, Conv.intToInt, b8, gO, bind, pure, Sem.bind, program]
end strings
end Go.Eng
end

section
namespace Go.Eng
variable [aA]
open Go.RowKit (Below)

theorem ec.cut {E E' : Env} {w w' : World} (h : ec E w E' w') {n : Nat} (hn : ∀ k, n ≤ k → ∀ v, E.bd k v = none) : ec E w (E'.cut n) w' := by
 refine ⟨⟨h.le.F, fun k v t hk => ?_⟩, fun k v g e c hk => ?_, h.F, h.os, h.tape, h.output, h.size, h.heap⟩
 ·have : k < n := by
   rcases Nat.lt_or_ge k n with aZ | gv
   ·exact aZ
   ·rw [hn k gv v] at hk; cases hk
  exact (if_pos this).trans (h.le.bd _ _ _ hk)
 ·have : E'.bd k v = some (g, e, c) := by
   by_cases iE : k < n
   ·exact ((if_pos iE).symm.trans hk : E'.bd k v = _)
   ·have h2 : (E'.cut n).bd k v = none := if_neg iE
    rw [h2] at hk; cases hk
  exact h.bd _ _ _ _ _ this

def gU (tt : Table) (rs : Array ResultVar) (st : St) : Option V :=
 match l4 tt st rs.toList with
 | some [v] => some v
 | some vs => some (.cC vs)
 | none => none

theorem xZ {P : Program} {tt : Table} (ht : TT P tt) {E : Env} {w : World} {a : Act} {st : St} (hs : bH E w a st) {fn : Func} {r : V} (h : gU tt fn.results st = some r) : ∃ x, (results fn a.tmps).run P w = .ok x w ∧ bC E r x := by
 unfold gU at h
 have run : ∀ xs : List Value, (fn.results.toList.mapM (fun | .tmp t => pure (a.tmps.getD t undef) | .cell p t => do loadVar t (← asAddr (a.tmps.getD p undef))) : Sem (List Value)).run P w = .ok xs w →
   (results fn a.tmps).run P w = .ok (if h : xs.toArray.size = 1 then xs.toArray[0] else .tuple xs.toArray) w := fun xs hx => by
  unfold results
  rw [Array.mapM_eq_mapM_toList]
  simp only [Sem.run_bind,Sem.run_map]
  erw [hx]
  rfl
 split at h
 ·rename_i v hv
  simp only [Option.some.injEq] at h; subst h
  obtain ⟨xs, h1, h2⟩ := kf ht hs _ _ hv
  obtain ⟨x, ys, rfl, h3, h4⟩ := h2.of_cons
  have := h4.of_nil; subst this
  exact ⟨x, run _ h1, h3⟩
 ·rename_i vs ch hv
  simp only [Option.some.injEq] at h; subst h
  obtain ⟨xs, h1, h2⟩ := kf ht hs _ _ hv
  have hl : xs.toArray.size ≠ 1 := by
   have := h2.1
   intro he
   match vs, xs, this, he with
   | [v], _, _, _ => exact ch v rfl
   | [], [], _, he => simp at he
   | [], _ :: _, h, _ => simp at h
   | _ :: _ :: _, [], h, _ => simp at h
   | _ :: _ :: _, _ :: [], h, _ => simp at h
   | _ :: _ :: _, _ :: _ :: _, _, he => simp at he
  have h3 := run _ h1
  rw [dif_neg hl] at h3
  exact ⟨_, h3, .cC _ _ _ (by simpa using h2.1) fun i c x hc hx => h2.2 i c x hc (by simpa using hx)⟩
 ·cases h

theorem HA {P : Program} {tt : Table} (ht : TT P tt) {f : FuncId} {fn : Func} {body : Code} {args : List V} {mem : List aC} {R : V → List aC → Prop} (hf : P.funcs[f]? = some fn) (hb : fn.body = some body)
  (dz : ∀ (xs : Array Value) (w : World), (callFunc f xs).run P w = .ok (.enter f xs) w)
  (h : cD P none mem.length body (bA fn args mem) fun ex st' => (ex = .ret ∨ ex = .normal) ∧ ∃ r n, mem.length ≤ n ∧ gU tt fn.results st' = some r ∧ au n r = true ∧ (st'.mem.take n).all (az n) = true ∧ R r (st'.mem.take n)) : cj P f args mem R := by
 refine ⟨dz, fun E w xs G5 hx => zP (n := 0) (callsIn_of_wp_marks hf hb trivial ?_)⟩
 have hs : bH E w { tmps := xs ++ Array.replicate (fn.ntmps - xs.size) undef, defers := [] } (bA fn args mem) := ⟨G5.F, G5.lt, G5.mem, G5.top, G5.b7, G5.apart, sH fn hx⟩
 refine wpIn_mono (h E w G5.top E w _ (ec.refl _ w) hs (.nil _ _ _)) ?_
 rintro e a' w' ⟨E', st', h1, h2, ⟨rs, hd, iK, Hj⟩, he, r, n, hn, hr, hbr, Ll, hR⟩
 have post : LeavesInM (WF none) 0 P fn a'.tmps (fun e w' => ∃ E' x r aQ, e = .returned x ∧ R r aQ ∧ ec E w E' w' ∧ bH E' w' { tmps := #[], defers := [] } { fr := [], mem := aQ } ∧ bC E' r x) a'.defers .returning w' := by
  rw [hd]
  refine l5 rs w' iK (fun r hr => (Hj r hr).2.1) fun w2 k1 k2 k3 k4 k5 => ?_
  have GV := h1.Hz (fun r hr => (Hj r hr).2) k4 k5
  obtain ⟨x, h3, h4⟩ := xZ ht GV hr
  have ea : ec E w E' w2 := ⟨h2.le, h2.bd, h2.F, k1.trans h2.os, k2.trans h2.tape, k3.trans h2.output, by rw [k4]; exact h2.size, fun b hb ch => (k5 b fun kX => by have := (Hj b kX).1; omega).trans (h2.heap b hb ch)⟩
  exact ⟨x, h3, E'.cut n, x, r, _, rfl, hR, ea.cut fun k hk v => G5.top k (by dsimp only; omega) v, GV.bare.cut (by rfl) Ll, e9 h4 hbr⟩
 rcases he with rfl | rfl <;> exact post

theorem gw {P : Program} {tt : Table} (ht : TT P tt) {f : FuncId} {fn : Func} {body : Code} {args : List V} {mem : List aC} {r : V} {aQ : List aC} (n : Nat) (hn : mem.length ≤ n) (hf : P.funcs[f]? = some fn) (hb : fn.body = some body)
  (dz : ∀ (xs : Array Value) (w : World), (callFunc f xs).run P w = .ok (.enter f xs) w)
  (h : cD P none mem.length body (bA fn args mem) fun ex st' => (ex = .ret ∨ ex = .normal) ∧ gU tt fn.results st' = some r ∧ au n r = true ∧ (st'.mem.take n).all (az n) = true ∧ aQ = st'.mem.take n) : aF P f args mem r aQ :=
 (HA ht hf hb dz (R := fun r' m' => r' = r ∧ m' = aQ) (h.mono fun ex st' ⟨h1, h2, h3, h4, h5⟩ => ⟨h1, r, n, hn, h2, h3, h4, rfl, h5.symm⟩)).YR

def kM : List Tmp → List V → List V → List V
 | t :: ts, v :: vs, fr => kM ts vs (fr.set t v)
 | _, _, fr => fr
theorem wN {E : Env} : ∀ (ts : List Tmp) {vs : List V} {xs : List Value} {fr : List V} {tmps : Array Value}, bo E vs xs → bo E fr tmps.toList → bo E (kM ts vs fr) ((ts.zip xs).foldl (fun (tmps : Array Value) (p : Tmp × Value) => tmps.setIfInBounds p.1 p.2) tmps).toList
 | [], vs, xs, fr, tmps, _, h => by cases vs <;> exact h
 | t :: ts, [], xs, fr, tmps, hv, h => by rw [hv.of_nil]; exact h
 | t :: ts, v :: vs, xs, fr, tmps, hv, h => by
  obtain ⟨x, ys, rfl, h1, h2⟩ := hv.of_cons
  simp only [kM,List.zip_cons_cons,List.foldl_cons]
  exact wN ts h2 (by simpa using h.set t h1)

def nn : Exit → Option (Option Code)
 | .normal => some none
 | .ret => some (some .ret)
 | .exit id => some (some (.exit id))
 | .goto l => some (some (.goto l))
 | _ => none

theorem qe {P : Program} {k : Nat} {fr vs : List V} {params : Array Tmp} {assign body : Code} {mem : List aC} {R : Bool → List aC → Prop} (hk : mem[k]? = some (.loop .ready none fr params assign body)) (hlen : vs.length = params.size)
  (h : ∀ l, cD P (some l) mem.length assign { fr := kM params.toList vs fr, mem := mem } fun ex oz => ex = .normal ∧ ∃ N2 p1 L1 L2, oz.mem[k]? = some (.loop .ready none N2 p1 L1 L2) ∧
   cD P (some l) mem.length body { oz with mem := oz.mem.set k (.loop .busy none N2 p1 L1 L2) } fun ex tp => ∃ n jump s2 XW L3 p2 HB HC, mem.length ≤ n ∧ nn ex = some jump ∧ tp.mem[k]? = some (.loop s2 XW L3 p2 HB HC) ∧
    ((tp.mem.set k (.loop (if jump.isNone then .ready else .done) jump L3 p2 HB HC)).take n).all (az n) = true ∧
    R jump.isNone ((tp.mem.set k (.loop (if jump.isNone then .ready else .done) jump L3 p2 HB HC)).take n)) :
  Fi P k vs mem R := by
 intro E w xs l e c hs hx hb
 obtain ⟨l', fn, tmps, db, gu, hh, hr, hf⟩ := hs.mem k _ hk
 rw [hb] at gu; cases gu
 have fH : ∀ {W : World} {R : Loop}, W.heap[l]? = some (.loop R) → (Instr.getLoop l).run P W = .ok R W := fun {W R} hW => by
  simp [Instr.getLoop, getObj, Sem.run, hW, bind, Sem.bind, pure]
 have uo : ∀ {W : World} {R : Loop} {o : Obj}, W.heap[l]? = some (.loop R) → (setObj l o).run P W = .ok () { W with heap := W.heap.setIfInBounds l o } := fun {W R o} hW => by
  simp [setObj, Sem.run, hW]
 have YJ : xs.size = params.size := by have := hx.1; simp at this; omega
 refine ⟨fn, (params.zip xs).foldl (fun tmps (p : Tmp × Value) => tmps.setIfInBounds p.1 p.2) tmps, assign, body, ?_, ?_⟩
 ·simp only [Instr.yield,Sem.run_bind,fH hh,Result.andThen_ok,YJ,ne_eq,not_true_eq_false,if_false]
  rfl
 ·refine roundIn_of_wpIn trivial ?_
  have o0 : bH E w { tmps := (params.zip xs).foldl (fun tmps (p : Tmp × Value) => tmps.setIfInBounds p.1 p.2) tmps, defers := [] } { fr := kM params.toList vs fr, mem := mem } := by
   refine ⟨hs.F, hs.lt, hs.mem, hs.top, hs.b7, hs.apart, ?_⟩
   have := wN (E := E) params.toList hx hr
   rw [← Array.foldl_toList, Array.toList_zip]
   exact this
  refine wpIn_mono (h l E w hs.top E w _ (ec.refl E w) o0 (.nil _ _ _)) ?_
  rintro ex a1 w1 ⟨E1, oz, h1, h2, hm1, rfl, N2, p1, L1, L2, ff, h3⟩
  obtain ⟨l1, fn1, N3, db1, jr, R4, Cg, S4⟩ := h1.mem k _ ff
  have Tc : E1.bd k 0 = some (l, 0, 0) := h2.le.bd _ _ _ hb
  rw [Tc] at jr; cases jr
  have only : ∀ (W : World) (o : Obj), pY W { W with heap := W.heap.setIfInBounds l o } l := fun W o => ⟨rfl, rfl, rfl, by simp, fun b hb => Array.getElem?_setIfInBounds_ne (fun e => hb e.symm)⟩
  have aZ : ∀ {W : World} {o : Obj}, W.heap[l]? = some o → l < W.heap.size := fun {W o} hW => (Array.getElem?_eq_some_iff.1 hW).1
  have t1 := h1.zo ff rfl (B' := .loop .busy none N2 p1 L1 L2) rfl Tc S4 (only w1 (.loop { state := .busy, pending := none, fn := fn1, tmps := N3, params := p1, assign := L1, body := L2, defers := db1 }))
   ⟨l, fn1, N3, db1, Tc, by simp [aZ R4], Cg, S4⟩
  refine ⟨_, by simp [Instr.beginRound, fH R4, uo R4]; rfl, ?_⟩
  refine wpIn_mono (h3 E w hs.top E1 _ a1 (h2.trans t1.2) t1.1 ?_) ?_
  ·exact hm1.G4 t1.2
  ·rintro ex a2 w2 ⟨E2, tp, h4, h5, -, n, jump, s2, XW, L3, p2, HB, HC, YW, hj, iU, Ll, hR⟩
   obtain ⟨l2, YX, HD, YY, sA, NU, Cm, XV⟩ := h4.mem k _ iU
   have PE : E2.bd k 0 = some (l, 0, 0) := h5.le.bd _ _ _ hb
   rw [PE] at sA; cases sA
   have t2 := h4.zo iU rfl (B' := .loop (if jump.isNone then .ready else .done) jump L3 p2 HB HC) rfl PE XV
    (only w2 (.loop { state := if jump.isNone then .ready else .done, pending := jump, fn := YX, tmps := HD, params := p2, assign := HB, body := HC, defers := YY })) ⟨l, YX, HD, YY, PE, by simp [aZ NU], Cm, XV⟩
   have run : (Instr.endRound l jump).run P w2 = .ok (.bool jump.isNone) { w2 with heap := w2.heap.setIfInBounds l (.loop { state := if jump.isNone then .ready else .done, pending := jump, fn := YX, tmps := HD, params := p2, assign := HB, body := HC, defers := YY }) } := by
    simp [Instr.endRound, fH NU, uo NU]
   have fin : ∃ v w', (Instr.endRound l jump).run P w2 = .ok v w' ∧ ∃ E' b aQ, Ending.returned v = .returned (.bool b) ∧ R b aQ ∧ ec E w E' w' ∧ bH E' w' { tmps := #[], defers := [] } { fr := [], mem := aQ } :=
    ⟨_, _, run, E2.cut n, _, _, rfl, hR, (h5.trans t2.2).cut (fun k hk v => hs.top k (Nat.le_trans YW hk) v), t2.1.bare.cut (by rfl) Ll⟩
   cases ex <;> simp only [nn,Option.some.injEq,reduceCtorEq] at hj <;> subst hj <;> exact fin

theorem np {P : Program} {k : Nat} {fr vs : List V} {params : Array Tmp} {assign body : Code} {mem aQ : List aC} {b : Bool} (hk : mem[k]? = some (.loop .ready none fr params assign body)) (hlen : vs.length = params.size)
  (h : ∀ l, cD P (some l) mem.length assign { fr := kM params.toList vs fr, mem := mem } fun ex oz => ex = .normal ∧ oz.mem[k]? = some (.loop .ready none fr params assign body) ∧
   cD P (some l) mem.length body { oz with mem := oz.mem.set k (.loop .busy none fr params assign body) } fun ex tp => ∃ jump, nn ex = some jump ∧ b = jump.isNone ∧ tp.mem[k]? = some (.loop .busy none fr params assign body) ∧
    ((tp.mem.set k (.loop (if jump.isNone then .ready else .done) jump fr params assign body)).take mem.length).all (az mem.length) = true ∧
    aQ = (tp.mem.set k (.loop (if jump.isNone then .ready else .done) jump fr params assign body)).take mem.length) :
  BW P k vs mem b aQ :=
 (qe hk hlen (R := fun b' m' => b' = b ∧ m' = aQ) fun l => (h l).mono fun ex oz ⟨h1, h2, h3⟩ => ⟨h1, _, _, _, _, h2, h3.mono fun ex tp ⟨j, h4, h5, h6, h7, h8⟩ => ⟨_, j, _, _, _, _, _, _, Nat.le_refl _, h4, h6, h7, h5.symm, h8.symm⟩⟩).YR

theorem nr {P : Program} {n0 : Nat} {st : St} {Q : Exit → St → Prop} {f : Operand} {params : Array Tmp} {assign body : Code} {g : FuncId} {vs : List V} {R : V → List aC → Prop} (hc : bD (st.eval f) [.fP st.mem.length] = some (g, vs))
  (R9 : cj P g vs (st.mem ++ [.loop .ready none st.fr params assign body]) R)
  (hq : ∀ r te, R r te → ∃ s jV Sa Lr Ls Lt, te[st.mem.length]? = some (.loop s jV Sa Lr Ls Lt) ∧ s ≠ .busy ∧ (match jV with | none => Q .normal { st with mem := te.set st.mem.length .dead } | some c => cD P none n0 c { st with mem := te.set st.mem.length .dead } Q)) :
  cD P none n0 (.rangeFunc f params assign body) st Q := fun E0 w0 h0 E w a he hs y3 => by
 refine wpIn_rangeFunc fun fn _ => ?_
 -- cQ YZ block, cQ Y0 record
 let w1 : World := w.alloc (.deferred (some []))
 let L : Loop := { state := .ready, pending := none, fn := fn, tmps := a.tmps, params := params, assign := assign, body := body, defers := w.heap.size }
 let w2 : World := w1.alloc (.loop L)
 have iE : ∀ v, E.bd st.mem.length v = none := hs.top _ (Nat.le_refl _)
 have hle : E.le (E.with st.mem.length 0 (w.heap.size + 1, 0, 0)) := Env.jo (iE 0) _
 have c9 : (E.with st.mem.length 0 (w.heap.size + 1, 0, 0)).bd st.mem.length 0 = some (w.heap.size + 1, 0, 0) := if_pos ⟨rfl, rfl⟩
 have eg : ∀ k v, ¬ (k = st.mem.length ∧ v = 0) → (E.with st.mem.length 0 (w.heap.size + 1, 0, 0)).bd k v = E.bd k v := fun k v h => if_neg h
 have hold : ∀ b, b < w.heap.size → w2.heap[b]? = w.heap[b]? := fun b hb => (Go.RowKit.Below.heap_alloc w1 _ b (by simp [w1]; omega)).trans (Go.RowKit.Below.heap_alloc w _ b hb)
 have kg : w2.heap[w.heap.size + 1]? = some (.loop L) := by
  have : w1.heap.size = w.heap.size + 1 := by simp [w1]
  show (w1.alloc (.loop L)).heap[w.heap.size + 1]? = _
  rw [← this]; exact heap_alloc_new w1 _
 have ea : ec E w (E.with st.mem.length 0 (w.heap.size + 1, 0, 0)) w2 := by
  refine ⟨hle, fun k v g e c hk => ?_, fun ad x hx => .inl hx, rfl, rfl, rfl, by simp [w2, w1]; omega, fun b hb _ => hold b hb⟩
  by_cases c6 : k = st.mem.length ∧ v = 0
  ·obtain ⟨rfl, rfl⟩ := c6; rw [c9] at hk; cases hk; exact .inr (by omega)
  ·rw [eg k v c6] at hk; exact .inl ⟨_, _, _, _, hk⟩
 have hFn : ∀ o, E.F ⟨w.heap.size + 1, o, none⟩ = none := fun o => by
  cases hx : E.F ⟨w.heap.size + 1, o, none⟩ with
  | none => rfl
  | some x => have := World.block_lt_of_cell? w _ (hs.F _ _ hx); simp at this; omega
 have GV : bH (E.with st.mem.length 0 (w.heap.size + 1, 0, 0)) w2 { tmps := #[], defers := [] } { fr := [], mem := st.mem ++ [.loop .ready none st.fr params assign body] } := by
  have fH : ∀ {k : Nat} {B : aC}, (st.mem ++ [aC.loop .ready none st.fr params assign body])[k]? = some B → (k < st.mem.length ∧ st.mem[k]? = some B) ∨ (k = st.mem.length ∧ B = .loop .ready none st.fr params assign body) := fun {k B} h => by
   rw [List.getElem?_append] at h
   split at h
   ·rename_i aZ; exact .inl ⟨aZ, h⟩
   ·have Td : k - st.mem.length = 0 := by
     rcases Nat.eq_zero_or_pos (k - st.mem.length) with h0 | h0
     ·exact h0
     ·rw [List.getElem?_eq_none (by simp; omega)] at h; cases h
    rw [Td] at h; simp at h
    exact .inr ⟨by omega, h.symm⟩
  refine ⟨fun ad x hx => ?_, fun k v g e c hk => ?_, fun k B hk => ?_, fun k hk v => ?_, fun k B hk v hv => ?_, fun k k' v v' g e1 c1 e2 c2 h5 h6 => ?_, .nil _⟩
  ·have hc := hs.F ad x hx
   rw [← hc]; simp [World.cell?, hold _ (World.block_lt_of_cell? w ad hc)]
  ·by_cases c6 : k = st.mem.length ∧ v = 0
   ·obtain ⟨rfl, rfl⟩ := c6; rw [c9] at hk; cases hk; simp [w2, w1]
   ·rw [eg k v c6] at hk; have := hs.lt _ _ _ _ _ hk; simp [w2, w1]; omega
  ·rcases fH hk with ⟨aZ, gD⟩ | ⟨rfl, rfl⟩
   ·exact (hs.mem k B gD).mono hle (fun v h => by rw [eg k v (by omega)]; exact h) (fun g e c h => hold g (hs.lt _ _ _ _ _ h)) fun _ _ _ _ _ h => h
   ·exact ⟨w.heap.size + 1, fn, a.tmps, w.heap.size, c9, kg, hs.fr.mono hle, hFn⟩
  ·dsimp only at hk
   simp at hk
   rw [eg k v (by omega)]; exact hs.top k (by omega) v
  ·rcases fH hk with ⟨aZ, gD⟩ | ⟨rfl, rfl⟩
   ·rw [eg k v (by omega)]; exact hs.b7 k B gD v hv
   ·rw [eg _ v (by simp [aC.b7] at hv; omega)]; exact iE v
  ·by_cases c6 : k = st.mem.length ∧ v = 0 <;> by_cases xF : k' = st.mem.length ∧ v' = 0
   ·rw [c6.1, xF.1]
   ·obtain ⟨rfl, rfl⟩ := c6; rw [c9] at h5; cases h5; rw [eg k' _ xF] at h6; have := hs.lt _ _ _ _ _ h6; omega
   ·obtain ⟨rfl, rfl⟩ := xF; rw [c9] at h6; cases h6; rw [eg k _ c6] at h5; have := hs.lt _ _ _ _ _ h5; omega
   ·rw [eg k _ c6] at h5; rw [eg k' _ xF] at h6
    exact hs.apart _ _ _ _ _ _ _ _ _ h5 h6
 have Hb : bo (E.with st.mem.length 0 (w.heap.size + 1, 0, 0)) [.fP st.mem.length] (#[Value.func (.yield (w.heap.size + 1)) #[] #[]] : Array Value).toList := .cons (.fP _ _ _ 0 0 c9) (.nil _)
 obtain ⟨d, ys, hy, Pp, NZ⟩ := uh (P := P) (w := w2) ((hs.eval f).mono hle) Hb hc
 have Y1 := y3.G4 ea
 refine ⟨w.heap.size + 1, [{ target := .collected w.heap.size, args := #[] }], w2, d, w2, g, ys, w2, ?_, ?_, fun _ _ => trivial, NZ.trans (R9.1 ys w2), fun h => by simp [WF] at h, ?_⟩
 ·exact run_enterLoop_outer _ _ _ _ _
 ·refine Eq.trans ?_ Pp
  simp only [rangeCall,resolve]
  simp [Act.eval]
 ·refine ui ((R9.2 _ w2 ys GV hy).mono ?_)
  rintro e w3 ⟨E3, x, r, te, rfl, hRR, HE, hs3, -⟩
  obtain ⟨s, jV, Sa, Lr, Ls, Lt, Sb, Te, N4⟩ := hq r te hRR
  obtain ⟨l3, XX, Eb, XY, dL, Y2, hr3, YT⟩ := hs3.mem _ _ Sb
  have Tf : E3.bd st.mem.length 0 = some (w.heap.size + 1, 0, 0) := HE.le.bd _ _ _ c9
  rw [Tf] at dL; cases dL
  have aeg : w.heap.size + 1 < w3.heap.size := (Array.getElem?_eq_some_iff.1 Y2).1
  have XZ : (s == LoopState.busy) = false := by cases s <;> first | rfl | exact absurd rfl Te
  have Y3 := hs.zK hs3 (Env.le_trans hle HE.le)
  have t := Y3.zo Sb rfl (B' := .dead) rfl Tf YT (w' := { w3 with heap := w3.heap.setIfInBounds (w.heap.size + 1) (.loop { state := .exhausted, pending := jV, fn := XX, tmps := Eb, params := Lr, assign := Ls, body := Lt, defers := XY }) })
   ⟨rfl, rfl, rfl, by simp, fun b hb => Array.getElem?_setIfInBounds_ne (fun e => hb e.symm)⟩ trivial
  have Tg : ec E0 w0 E3 _ := (he.trans (ea.trans HE)).trans t.2
  have Th : Marks E3 { w3 with heap := w3.heap.setIfInBounds (w.heap.size + 1) (.loop { state := .exhausted, pending := jV, fn := XX, tmps := Eb, params := Lr, assign := Ls, body := Lt, defers := XY }) } w0.heap.size ({ target := .collected w.heap.size, args := #[] } :: a.defers) := by
   obtain ⟨rs, m1, m2, m3⟩ := (Y1.G4 HE).G4 t.2
   have Y4 : w2.heap[w.heap.size]? = some (.deferred (some [])) := (Go.RowKit.Below.heap_alloc w1 _ _ (by simp [w1])).trans (heap_alloc_new w _)
   have Lm : ∀ k v e c, (E.with st.mem.length 0 (w.heap.size + 1, 0, 0)).bd k v ≠ some (w.heap.size, e, c) := fun k v e c hk => by
    by_cases c6 : k = st.mem.length ∧ v = 0
    ·obtain ⟨rfl, rfl⟩ := c6; rw [c9] at hk; simp at hk
    ·rw [eg k v c6] at hk; have := hs.lt _ _ _ _ _ hk; omega
   have one : Marks (E.with st.mem.length 0 (w.heap.size + 1, 0, 0)) w2 w0.heap.size [{ target := .collected w.heap.size, args := #[] }] := ⟨[w.heap.size], rfl, by simp, fun r hr => by
    simp at hr; subst hr; exact ⟨he.size, Y4, Lm⟩⟩
   obtain ⟨jw, n1, n2, n3⟩ := (one.G4 HE).G4 t.2
   have O6 : jw = [w.heap.size] := by
    match jw, n1 with
    | [r], h => simp at h; rw [h]
    | [], h => simp at h
    | _ :: _ :: _, h => simp at h
   subst O6
   refine ⟨w.heap.size :: rs, by rw [m1]; rfl, ?_, fun r hr => ?_⟩
   ·rw [List.nodup_cons]
    refine ⟨fun kX => ?_, m2⟩
    -- an elder mark cV below
    obtain ⟨XT, q1, q2, q3⟩ := y3
    have wG : rs = XT := by
     have := m1.symm.trans q1
     have inj : ∀ (xs ys : List Nat), xs.map (fun r => ({ target := .collected r, args := #[] } : Deferred)) = ys.map (fun r => { target := .collected r, args := #[] }) → xs = ys := by
      intro xs
      induction xs with
      | nil => intro ys h; cases ys with | nil => rfl | cons y ys => simp at h
      | cons x xs ih => intro ys h; cases ys with | nil => simp at h | cons y ys => simp at h; rw [h.1, ih ys (by simpa using h.2)]
     exact inj _ _ this
    subst wG
    have := (q3 _ kX).2.1
    rw [Array.getElem?_eq_none (Nat.le_refl _)] at this; cases this
   ·rcases List.mem_cons.1 hr with rfl | hr
    ·exact n3 _ (by simp)
    ·exact m3 r hr
  refine ⟨jV, { w3 with heap := w3.heap.setIfInBounds (w.heap.size + 1) (.loop { state := .exhausted, pending := jV, fn := XX, tmps := Eb, params := Lr, assign := Ls, body := Lt, defers := XY }) }, ?_, ?_⟩
  ·have hg : (Instr.getLoop (w.heap.size + 1)).run P w3 = .ok { state := s, pending := jV, fn := XX, tmps := Eb, params := Lr, assign := Ls, body := Lt, defers := XY } w3 := by
    simp [Instr.getLoop, getObj, Sem.run, Y2, bind, Sem.bind, pure]
   simp only [Instr.endLoop,Sem.run_bind,hg,Result.andThen_ok,XZ,Bool.false_eq_true,if_false]
   simp [setObj, Sem.run, Y2]
  ·cases jV with
   | none => exact ⟨E3, _, ⟨t.1.F, t.1.lt, t.1.mem, t.1.top, t.1.b7, t.1.apart, t.1.fr⟩, Tg, Th, N4⟩
   | some c => exact N4 E0 w0 h0 E3 _ { a with defers := { target := .collected w.heap.size, args := #[] } :: a.defers } Tg ⟨t.1.F, t.1.lt, t.1.mem, t.1.top, t.1.b7, t.1.apart, t.1.fr⟩ Th
theorem k8 {P : Program} {n0 : Nat} {st : St} {Q : Exit → St → Prop} {f : Operand} {params : Array Tmp} {assign body : Code} {g : FuncId} {vs : List V} {r : V} {te : List aC} (hc : bD (st.eval f) [.fP st.mem.length] = some (g, vs))
  (R9 : aF P g vs (st.mem ++ [.loop .ready none st.fr params assign body]) r te)
  (hq : ∃ s jV Sa Lr Ls Lt, te[st.mem.length]? = some (.loop s jV Sa Lr Ls Lt) ∧ s ≠ .busy ∧ (match jV with | none => Q .normal { st with mem := te.set st.mem.length .dead } | some c => cD P none n0 c { st with mem := te.set st.mem.length .dead } Q)) :
  cD P none n0 (.rangeFunc f params assign body) st Q :=
 nr hc R9.rel fun r' m' ⟨_, h2⟩ => by subst h2; exact hq
inductive Cls where
 | n | r | a | w | s | b | z | e
 deriving DecidableEq
structure Pl where
 cls : Cls
 key : Nat
 mask : List Nat
 N5 : List Nat := []
 abs : List Nat := []

def zT (m : List aC) (k : Nat) : List aC := match m[k]? with
 | some B => if B.b7 = 0 then m.set k .dead else m
 | none => m
def ep : List Nat → List aC → List aC
 | [], m => m
 | k :: r, m => ep r (zT m k)
def jH (b : Bool) (B : aC) : aC := if b = true ∧ B.b7 = 0 then .dead else B
theorem Fj (m : List aC) (k q : Nat) : (zT m k)[q]? = (m[q]?).map (jH (q == k)) := by
 unfold zT
 by_cases hq : q = k
 ·subst hq
  cases h : m[q]? with
  | none => simp [h]
  | some B =>
   have aZ : q < m.length := (List.getElem?_eq_some_iff.1 h).1
   simp only [beq_self_eq_true,Option.map_some,jH,true_and]
   split
   ·rename_i hv; simp [List.getElem?_set, aZ]
   ·rename_i hv; exact h
 ·have hb : (q == k) = false := by simpa using hq
  have hid : (m[q]?).map (jH (q == k)) = m[q]? := by rw [hb]; cases m[q]? <;> simp [jH]
  rw [hid]
  cases h : m[k]? with
  | none => rfl
  | some B =>
   dsimp only
   split
   ·exact List.getElem?_set_ne (fun e => hq e.symm)
   ·rfl
theorem wj (b c : Bool) (B : aC) : jH b (jH c B) = jH (b || c) B := by
 have hd : aC.dead.b7 = 0 := rfl
 unfold jH
 cases b <;> cases c <;> by_cases hv : B.b7 = 0 <;> simp [hv, hd]
theorem n8 : ∀ (ks : List Nat) (m : List aC) (q : Nat), (ep ks m)[q]? = (m[q]?).map (jH (ks.contains q))
 | [], m, q => by cases h : m[q]? <;> simp [ep, h, jH]
 | k :: r, m, q => by
  rw [ep, n8 r, Fj]
  cases m[q]? with
  | none => rfl
  | some B =>
   simp only [Option.map_some,wj,List.contains_cons]
   rw [Bool.or_comm]
theorem qf : ∀ (ks : List Nat) (m : List aC), (ep ks m).length = m.length
 | [], m => rfl
 | k :: r, m => by
  rw [ep, qf r]
  unfold zT
  split
  ·split <;> simp
  ·rfl
theorem n9 {ks : List Nat} {m : List aC} {k : Nat} {B0 B : aC} (hk : k ∈ ks) (hm : m[k]? = some B0) (h0 : B0.b7 = 0) (hB : B.b7 = 0) : ep ks (m.set k B) = ep ks m := by
 refine List.ext_getElem? fun q => ?_
 rw [n8, n8]
 by_cases hq : q = k
 ·subst hq
  have aZ : q < m.length := (List.getElem?_eq_some_iff.1 hm).1
  have hc : ks.contains q = true := by simpa using hk
  rw [List.getElem?_set, if_pos rfl, if_pos aZ, hm]
  simp [jH, hB, h0, hk]
 ·rw [List.getElem?_set_ne (fun e => hq e.symm)]

theorem bH.ep {E : Env} {w : World} {a : Act} {st : St} (hs : bH E w a st) (ks : List Nat) : bH E w a { st with mem := Eng.ep ks st.mem } := by
 have get : ∀ {k : Nat} {B : aC}, (Eng.ep ks st.mem)[k]? = some B → ∃ B0 : aC, st.mem[k]? = some B0 ∧ (B = B0 ∨ B = aC.dead ∧ B0.b7 = 0) := fun {k B} h => by
  rw [n8] at h
  cases h0 : st.mem[k]? with
  | none => rw [h0] at h; cases h
  | some B0 =>
   rw [h0] at h
   simp only [Option.map_some,Option.some.injEq] at h
   refine ⟨B0, rfl, ?_⟩
   unfold jH at h
   split at h
   ·rename_i hc; exact .inr ⟨h.symm, hc.2⟩
   ·exact .inl h.symm
 refine ⟨hs.F, hs.lt, fun k B hk => ?_, fun k hk => hs.top k (by simpa [qf] using hk), fun k B hk v hv => ?_, hs.apart, hs.fr⟩
 ·obtain ⟨B0, h0, rfl | ⟨rfl, -⟩⟩ := get hk
  ·exact hs.mem k _ h0
  ·trivial
 ·obtain ⟨B0, h0, rfl | ⟨rfl, h1⟩⟩ := get hk
  ·exact hs.b7 k _ h0 v hv
  ·exact hs.b7 k _ h0 v (by rw [h1]; exact hv)

/-! ### what one operation makes -/

def x3 (P : Program) (f : FuncId) (vs : List V) (r : V) : Prop := aT P f vs r ∨ m9 P f vs r
def Tj (P : Program) (f : FuncId) (vs : List V) (Q : V → Prop) : Prop := ∃ vs' r, dq [] vs = some vs' ∧ x3 P f vs' r ∧ Q r

def tf (P : Program) (tt : Table) (o : Oper) (st : St) : Option V :=
 match o.op with
 | .build T parts => jG P tt T parts.toList st.eval
 | .buildSlice T len parts => match rE tt T len parts.toList st.eval with
  | some (_, rs) => some (.slice rs)
  | none => none
 | _ => iJ P tt st o
def oB (P : Program) (tt : Table) (o : Oper) (st : St) (Q : V → Prop) : Prop :=
 match o.op with
 | .call { callee := .value f, args := xs, .. } => match bD (st.eval f) (xs.toList.map st.eval) with
  | some (g, vs) => Tj P g vs Q
  | none => False
 | _ => match tf P tt o st with
  | some v => Q v
  | none => False
def Tl (P : Program) (f : FuncId) (vs : List V) (st : St) (dst : Option Tmp) (Q : St → Prop) : Prop := ∃ vs' r, dq [] vs = some vs' ∧ x3 P f vs' r ∧ Q (st.put dst r)
def pb (P : Program) (tt : Table) (o : Oper) (wk st : St) (Q : St → Prop) : Prop :=
 match o.op with
 | .call { callee := .value f, args := xs, .. } => match bD (wk.eval f) (xs.toList.map wk.eval) with
  | some (g, vs) => Tl P g vs st o.dst Q
  | none => False
 | _ => match tf P tt o wk with
  | some v => Q (st.put o.dst v)
  | none => False
theorem tq {P : Program} {tt : Table} {o : Oper} {wk st : St} {Q : St → Prop} : pb P tt o wk st Q = oB P tt o wk fun v => Q (st.put o.dst v) := by
 unfold pb oB
 split <;> rfl
def fJ (tt : Table) (o : Oper) (key : Nat) (st : St) : Option (aC × V) :=
 match o.op with
 | .alloc T => match tt T with
  | some i => some (.box (i.zero.map V.sc), .ptr key 0)
  | none => none
 | .box _ x => match iB (st.eval x) with
  | some cs => some (.box cs, .ptr key 0)
  | none => none
 | .buildSlice T len parts => match rE tt T len parts.toList st.eval with
  | some (size, rs) => some (.rows 0 size rs, .ms key 0 0 len)
  | none => none
 | .makeMap _ none => some (.map [] 0, .mp key)
 | .makeSlice T l c => match sy tt T (st.eval l) (st.eval c) with
  | some (size, rs, _) => some (.rows 0 size rs, .ms key 0 0 rs.length)
  | none => none
 | _ => none
def qg (P : Program) (tt : Table) (key : Nat) (o : Oper) (st : St) : Option (List aC × V) :=
 match o.op with
 | .store T p x => match jF tt st.mem T (st.eval p) (st.eval x) with
  | some aQ => some (aQ, .sc undef)
  | none => none
 | .call { callee := .builtin .append, args := xs, argTypes := ts } => match xs.toList.map st.eval with
  | [s, x] => match eK tt st.mem ts.toList s x with
   | some (size, o4, rows) => some (dt st.mem key size rows o4)
   | none => none
  | _ => none
 | .mapUpdate T m k x => match bX P st.mem T (st.eval m) (st.eval k) (st.eval x) with
  | some aQ => some (aQ, .sc undef)
  | none => none
 | .insert T m k x => match bX P st.mem T (st.eval m) (st.eval k) (st.eval x) with
  | some aQ => some (aQ, .sc undef)
  | none => none
 | _ => none
def mL (tt : Table) (key : Nat) (o : Oper) (st : St) : Option (List aC) :=
 match o.op with
 | .store T p x => match st.eval p with
  | .ptr b off => if b = key then jF tt st.mem T (.ptr key off) (st.eval x) else none
  | _ => none
 | _ => none
def isHole (mem : List aC) (k : Nat) : Bool := match mem[k]? with | some .hole => true | _ => false
theorem jb {mem : List aC} {k : Nat} : isHole mem k = true ↔ mem[k]? = some .hole := by
 unfold isHole
 split
 ·rename_i h; simp [h]
 ·rename_i h; simp; exact fun e => h e

def sI (P : Program) (f : FuncId) (vs : List V) (e : Nat) (rs : List V) : Prop := ∃ v, aF P f vs [] (.ms 0 v 0 rs.length) [.rows v e rs]
def mE (P : Program) (o : Oper) (ev : Operand → V) (Q : Nat → List V → Prop) : Prop :=
 match o.op with
 | .call { callee := .value f, args := xs, .. } => match bD (ev f) (xs.toList.map ev) with
  | some (g, vs) => ∃ vs' e rs, dq [] vs = some vs' ∧ sI P g vs' e rs ∧ Q e rs
  | none => False
 | _ => False
theorem j1 {P : Program} {o : Oper} {ev : Operand → V} {Q : Nat → List V → Prop} : mE P o ev Q ↔ ∃ e rs, mE P o ev (fun e' jw => e' = e ∧ jw = rs) ∧ Q e rs := by
 unfold mE
 split
 ·split
  ·constructor
   ·rintro ⟨vs', e, rs, h1, h2, h3⟩; exact ⟨e, rs, ⟨vs', e, rs, h1, h2, rfl, rfl⟩, h3⟩
   ·rintro ⟨e, rs, ⟨vs', e', jw, h1, h2, h3, h4⟩, h5⟩; subst h3; subst h4; exact ⟨vs', _, _, h1, h2, h5⟩
  ·exact ⟨fun h => h.elim, fun ⟨_, _, h, _⟩ => h⟩
 ·exact ⟨fun h => h.elim, fun ⟨_, _, h, _⟩ => h⟩
def rL (st : St) (key : Nat) (dst : Option Tmp) (e : Nat) (rs : List V) : St := { st with mem := st.mem.set key (.rows 0 e rs) }.put dst (.ms key 0 0 rs.length)
def Tm (P : Program) (f : FuncId) (vs : List V) (st : St) (key : Nat) (dst : Option Tmp) (Q : St → Prop) : Prop := ∃ vs' e rs, dq [] vs = some vs' ∧ sI P f vs' e rs ∧ Q (rL st key dst e rs)
def pc (P : Program) (o : Oper) (key : Nat) (st : St) (Q : St → Prop) : Prop :=
 match o.op with
 | .call { callee := .value f, args := xs, .. } => match bD (st.eval f) (xs.toList.map st.eval) with
  | some (g, vs) => Tm P g vs st key o.dst Q
  | none => False
 | _ => False
theorem wO {P : Program} {o : Oper} {key : Nat} {st : St} {Q : St → Prop} : pc P o key st Q = mE P o st.eval fun e rs => Q (rL st key o.dst e rs) := by
 unfold pc mE
 split <;> rfl
def dS : aC → aC
 | .box cs => .box cs
 | _ => .dead
def mF (tt : Table) (o : Oper) (st : St) : Option V :=
 match o.op with
 | .load T x => mB tt (st.mem.map dS) T (st.eval x)
 | _ => none
def isApp (o : Oper) : Bool := match o.op with | .call { callee := .builtin .append, .. } => true | _ => false
def Ec (o : Oper) : Bool := match o.op with | .alloc _ => false | .box _ _ => false | _ => true
theorem Fk {P : Program} {tt : Table} {o : Oper} {st : St} {v : V} (h : mF tt o st = some v) : iJ P tt st o = some v := by
 unfold mF at h
 split at h
 ·rename_i T x ho
  unfold iJ
  rw [ho]
  dsimp only
  unfold mB at h ⊢
  split
  ·rename_i b off he
   rw [he] at h
   dsimp only at h
   rw [List.getElem?_map] at h
   cases hb : st.mem[b]? with
   | none => rw [hb] at h; simp at h
   | some B =>
    rw [hb] at h
    cases B <;> simp [dS] at h <;> exact h
  ·rename_i b b7 i off he
   rw [he] at h
   dsimp only at h
   have : rowOf (st.mem.map dS) b b7 i = none := by
    unfold rowOf
    rw [List.getElem?_map]
    cases hb : st.mem[b]? with
    | none => rfl
    | some B => cases B <;> rfl
   rw [this] at h; cases h
  ·rename_i cs he
   rw [he] at h; exact h
  ·rename_i h1 h2 h3
   split at h
   ·rename_i he; exact absurd he (h1 _ _)
   ·rename_i he; exact absurd he (h2 _ _ _ _)
   ·rename_i he; exact absurd he (h3 _)
   ·cases h
 ·cases h
theorem zU {tt : Table} {mem : List aC} {ts : List TypeId} {s x : V} {size b b7 : Nat} {rows : List V} (h : eK tt mem ts s x = some (size, some (b, b7), rows)) : ∃ e rs, mem[b]? = some (.rows b7 e rs) := by
 have hl : ∀ {sz : Nat} {rs : List V}, m5 mem sz s = some (some (b, b7), rs) → ∃ e rs, mem[b]? = some (.rows b7 e rs) := fun {sz rs} h => by
  unfold m5 at h
  split at h
  ·cases h
  ·split at h <;> cases h
  ·split at h
   ·rename_i v' e jw hb
    split at h
    ·rename_i hc
     simp only [Option.some.injEq,Prod.mk.injEq] at h
     obtain ⟨⟨rfl, rfl⟩, rfl⟩ := h
     exact ⟨_, _, by rw [hb, hc.1]⟩
    ·cases h
   ·cases h
  ·cases h
 unfold eK at h
 split at h
 ·split at h
  ·split at h
   ·split at h
    ·split at h
     ·split at h
      ·split at h
       ·rename_i o4 rs Tn
        split at h
        ·split at h
         ·split at h
          case isFalse => cases h
          simp only [Option.some.injEq,Prod.mk.injEq] at h
          obtain ⟨-, rfl, -⟩ := h
          exact hl Tn
         ·cases h
        ·cases h
       ·cases h
      ·cases h
     ·cases h
    ·cases h
   ·cases h
  ·cases h
 ·cases h
theorem HF {P : Program} {tt : Table} {key : Nat} {o : Oper} {st : St} {m : List aC} {v : V} (ha : isApp o = true) (hh : st.mem[key]? = some .hole) (h : qg P tt key o st = some (m, v)) : m.map dS = st.mem.map dS := by
 have uo : ∀ (k : Nat) (B0 B : aC), st.mem[k]? = some B0 → dS B = dS B0 → (st.mem.set k B).map dS = st.mem.map dS := fun k B0 B h0 hB => by
  apply List.ext_getElem?
  intro q
  rw [List.getElem?_map, List.getElem?_map, List.getElem?_set]
  split
  ·rename_i hq; subst hq
   rw [if_pos (List.getElem?_eq_some_iff.1 h0).1, h0, Option.map_some, Option.map_some, hB]
  ·rfl
 unfold isApp at ha
 split at ha
 ·rename_i ho
  unfold qg at h
  rw [ho] at h
  dsimp only at h
  split at h
  ·split at h
   ·rename_i size o4 rows Y5
    simp only [Option.some.injEq] at h
    cases o4 with
    | none =>
     simp only [dt,Prod.mk.injEq] at h
     obtain ⟨rfl, -⟩ := h
     unfold bO
     rw [if_pos (List.getElem?_eq_some_iff.1 hh).1]
     exact uo _ _ _ hh rfl
    | some p =>
     obtain ⟨b, b7⟩ := p
     simp only [dt,Prod.mk.injEq] at h
     obtain ⟨rfl, -⟩ := h
     have hb : ∃ e rs, st.mem[b]? = some (.rows b7 e rs) := by
      exact zU Y5
     obtain ⟨e, rs, hb⟩ := hb
     exact uo _ _ _ hb rfl
   ·cases h
  ·cases h
 ·cases ha
def lC (P : Program) (o : Oper) (st : St) (Q : St → Prop) : Prop :=
 match o.op with
 | .call { callee := .value f, args := xs, .. } => match bD (st.eval f) (xs.toList.map st.eval) with
  | some (g, vs) => ∃ vs' r, dq st.mem vs = some vs' ∧ aT P g vs' r ∧ Q ({ st with mem := bx st.mem (vs.flatMap cL) r }.put o.dst r)
  | none => False
 | _ => False
theorem ur {P : Program} {o : Oper} {st : St} {K K' : St → Prop} (h : lC P o st K) (hk : ∀ s, K s → K' s) : lC P o st K' := by
 unfold lC at h ⊢
 split at h
 ·split at h
  ·obtain ⟨vs', r, h1, h2, h3⟩ := h
   exact ⟨vs', r, h1, h2, hk _ h3⟩
  ·exact h.elim
 ·exact h.elim
def HG (P : Program) (g : FuncId) (vs : List V) (k : Nat) (st : St) (dst : Option Tmp) (Q : St → Prop) : Prop :=
 ∃ v B0 B, B0.b7 = 0 ∧ B.b7 = 0 ∧ st.mem[k]? = some B0 ∧ aF P g vs st.mem v (st.mem.set k B) ∧ Q ({ st with mem := st.mem.set k B }.put dst v)
def qh (P : Program) (tt : Table) (o : Oper) (k : Nat) (st : St) (Q : St → Prop) : Prop :=
 match o.op with
 | .call { callee := .value f, args := xs, .. } => match bD (st.eval f) (xs.toList.map st.eval) with
  | some (g, vs) => HG P g vs k st o.dst Q
  | none => False
 | _ => match mL tt k o st with
  | some m => Q ({ st with mem := m }.put o.dst (.sc undef))
  | none => False
def zV (P : Program) (tt : Table) (o : Oper) (k : Nat) (st : St) (v : V) (m : List aC) : Prop :=
 match o.op with
 | .call { callee := .value f, args := xs, .. } => match bD (st.eval f) (xs.toList.map st.eval) with
  | some (g, vs) => ∃ B0 B, B0.b7 = 0 ∧ B.b7 = 0 ∧ st.mem[k]? = some B0 ∧ aF P g vs st.mem v (st.mem.set k B) ∧ m = st.mem.set k B
  | none => False
 | _ => v = .sc undef ∧ mL tt k o st = some m
theorem Fl {P : Program} {tt : Table} {o : Oper} {k : Nat} {st : St} {Q : St → Prop} : qh P tt o k st Q ↔ ∃ v m, zV P tt o k st v m ∧ Q ({ st with mem := m }.put o.dst v) := by
 unfold qh zV
 split
 ·split
  ·constructor
   ·rintro ⟨v, B0, B, h1, h2, h3, h4, h5⟩; exact ⟨v, _, ⟨B0, B, h1, h2, h3, h4, rfl⟩, h5⟩
   ·rintro ⟨v, m, ⟨B0, B, h1, h2, h3, h4, rfl⟩, h5⟩; exact ⟨v, B0, B, h1, h2, h3, h4, h5⟩
  ·exact ⟨fun h => h.elim, fun ⟨_, _, h, _⟩ => h.elim⟩
 ·split
  ·rename_i m hb; exact ⟨fun h => ⟨_, m, ⟨rfl, hb⟩, h⟩, fun ⟨u, m', ⟨h1, h2⟩, h4⟩ => by rw [hb] at h2; cases h2; subst h1; exact h4⟩
  ·rename_i hb; exact ⟨fun h => h.elim, fun ⟨_, _, ⟨_, h⟩, _⟩ => by rw [hb] at h; cases h⟩
def dW (P : Program) (tt : Table) (all : Array Oper) (base : Nat) (o : Oper) (p : Pl) (st : St) (Q : St → Prop) : Prop :=
 match df all st.fr o with
 | some true => match p.cls with
  | .n => pb P tt o { st with mem := [] } st Q
  | .r => pb P tt o { st with mem := ep (p.mask.map (base + ·) ++ p.abs) st.mem } st Q
  | .a => isHole st.mem (base + p.key) = true ∧ match fJ tt o (base + p.key) st with
   | some (B, v) => Q ({ st with mem := st.mem.set (base + p.key) B }.put o.dst v)
   | none => pc P o (base + p.key) st Q
  | .w => isHole st.mem (base + p.key) = true ∧ match qg P tt (base + p.key) o st with
   | some (m, v) => Q ({ st with mem := m }.put o.dst v)
   | none => False
  | .s => match mL tt (base + p.key) o st with
   | some m => Q ({ st with mem := m }.put o.dst (.sc undef))
   | none => False
  | .b => match mF tt o st with
   | some v => Q (st.put o.dst v)
   | none => False
  | .z => lC P o st Q
  | .e => qh P tt o p.key st Q
 | some false => Q (st.put o.dst (.sc undef))
 | none => False

@[congr] theorem PF {P : Program} {tt : Table} {o : Oper} {sv sv' st st' : St} {Q : St → Prop} (hv : sv = sv') (h : st = st') : pb P tt o sv st Q = pb P tt o sv' st' Q := by rw [hv, h]
def oC (P : Program) (tt : Table) (all : Array Oper) (base : Nat) (o : Oper) (p : Pl) (st : St) (v : V) (m : List aC) : Prop :=
 match df all st.fr o with
 | some true => match p.cls with
  | .n => oB P tt o { st with mem := [] } (fun u => u = v) ∧ m = st.mem
  | .r => oB P tt o { st with mem := ep (p.mask.map (base + ·) ++ p.abs) st.mem } (fun u => u = v) ∧ m = st.mem
  | .a => isHole st.mem (base + p.key) = true ∧ ∃ B, (fJ tt o (base + p.key) st = some (B, v) ∨ fJ tt o (base + p.key) st = none ∧ mE P o st.eval (fun e rs => B = .rows 0 e rs ∧ v = .ms (base + p.key) 0 0 rs.length)) ∧ m = st.mem.set (base + p.key) B
  | .w => isHole st.mem (base + p.key) = true ∧ qg P tt (base + p.key) o st = some (m, v)
  | .s => v = .sc undef ∧ mL tt (base + p.key) o st = some m
  | .b => mF tt o st = some v ∧ m = st.mem
  | .z => False
  | .e => zV P tt o p.key st v m
 | some false => v = .sc undef ∧ m = st.mem
 | none => False

theorem zW {P : Program} {tt : Table} {o : Oper} {st : St} {Q : V → Prop} : oB P tt o st Q ↔ ∃ v, oB P tt o st (fun u => u = v) ∧ Q v := by
 unfold oB
 split
 ·split
  ·constructor
   ·rintro ⟨vs', r, h1, h2, h3⟩; exact ⟨r, ⟨vs', r, h1, h2, rfl⟩, h3⟩
   ·rintro ⟨v, ⟨vs', r, h1, h2, rfl⟩, h3⟩; exact ⟨vs', r, h1, h2, h3⟩
  ·exact ⟨fun h => h.elim, fun ⟨_, h, _⟩ => h⟩
 ·split
  ·exact ⟨fun h => ⟨_, rfl, h⟩, fun ⟨_, h, hq⟩ => by subst h; exact hq⟩
  ·exact ⟨fun h => h.elim, fun ⟨_, h, _⟩ => h⟩

theorem fC {P : Program} {tt : Table} {all : Array Oper} {base : Nat} {o : Oper} {p : Pl} {st : St} {Q : St → Prop} (hz : p.cls ≠ .z) :
  dW P tt all base o p st Q ↔ ∃ v m, oC P tt all base o p st v m ∧ Q ({ st with mem := m }.put o.dst v) := by
 unfold dW oC
 split
 ·split
  ·rw [tq, zW]; exact ⟨fun ⟨v, h1, h2⟩ => ⟨v, st.mem, ⟨h1, rfl⟩, h2⟩, fun ⟨v, m, ⟨h1, h2⟩, h3⟩ => ⟨v, h1, by subst h2; exact h3⟩⟩
  ·rw [tq, zW]; exact ⟨fun ⟨v, h1, h2⟩ => ⟨v, st.mem, ⟨h1, rfl⟩, h2⟩, fun ⟨v, m, ⟨h1, h2⟩, h3⟩ => ⟨v, h1, by subst h2; exact h3⟩⟩
  ·split
   ·rename_i B v hb
    refine ⟨fun ⟨h1, h2⟩ => ⟨v, _, ⟨h1, B, .inl hb, rfl⟩, h2⟩, fun ⟨u, m, ⟨h1, B', h2, h3⟩, h4⟩ => ?_⟩
    rcases h2 with h2 | ⟨h2, -⟩
    ·rw [hb] at h2; cases h2; subst h3; exact ⟨h1, h4⟩
    ·rw [hb] at h2; cases h2
   ·rename_i hb
    rw [wO]
    constructor
    ·rintro ⟨h1, h2⟩
     obtain ⟨e, rs, h3, h4⟩ := j1.1 h2
     exact ⟨_, _, ⟨h1, .rows 0 e rs, .inr ⟨hb, j1.2 ⟨e, rs, h3, rfl, rfl⟩⟩, rfl⟩, h4⟩
    ·rintro ⟨u, m, ⟨h1, B', h2, h3⟩, h4⟩
     rcases h2 with h2 | ⟨-, h2⟩
     ·rw [hb] at h2; cases h2
     ·obtain ⟨e, rs, h5, h6, h7⟩ := j1.1 h2
      subst h6; subst h7; subst h3
      exact ⟨h1, j1.2 ⟨e, rs, h5, h4⟩⟩
  ·split
   ·rename_i m v hb; exact ⟨fun ⟨h1, h2⟩ => ⟨v, m, ⟨h1, hb⟩, h2⟩, fun ⟨u, m', ⟨h1, h2⟩, h4⟩ => by rw [hb] at h2; cases h2; exact ⟨h1, h4⟩⟩
   ·rename_i hb; exact ⟨fun h => h.2.elim, fun ⟨_, _, ⟨_, h⟩, _⟩ => by rw [hb] at h; cases h⟩
  ·split
   ·rename_i m hb; exact ⟨fun h => ⟨_, m, ⟨rfl, hb⟩, h⟩, fun ⟨u, m', ⟨h1, h2⟩, h4⟩ => by rw [hb] at h2; cases h2; subst h1; exact h4⟩
   ·rename_i hb; exact ⟨fun h => h.elim, fun ⟨_, _, ⟨_, h⟩, _⟩ => by rw [hb] at h; cases h⟩
  ·split
   ·rename_i v hb; exact ⟨fun h => ⟨v, st.mem, ⟨hb, rfl⟩, h⟩, fun ⟨u, m', ⟨h1, h2⟩, h4⟩ => by rw [hb] at h1; cases h1; subst h2; exact h4⟩
   ·rename_i hb; exact ⟨fun h => h.elim, fun ⟨_, _, ⟨h, _⟩, _⟩ => by rw [hb] at h; cases h⟩
  ·rename_i hc; exact absurd hc hz
  ·exact Fl
 ·exact ⟨fun h => ⟨_, _, ⟨rfl, rfl⟩, h⟩, fun ⟨v, m, ⟨h1, h2⟩, h3⟩ => by subst h1; subst h2; exact h3⟩
 ·exact ⟨fun h => h.elim, fun ⟨_, _, h, _⟩ => h⟩

/-! ### what an operation looks at -/

theorem fE {ρ ρ' : Operand → V} {xs : Array Operand} (h : ∀ x ∈ xs, ρ x = ρ' x) : xs.toList.map ρ = xs.toList.map ρ' :=
 List.map_congr_left fun x hx => h x (by simpa using hx)
theorem sJ {aJ : List (Nat × Nat)} {ρ ρ' : Operand → V} : ∀ {ps : List (Nat × Operand)} {cs : List V}, (∀ p ∈ ps, ρ p.2 = ρ' p.2) → p9 aJ ρ ps cs = p9 aJ ρ' ps cs
 | [], cs, _ => rfl
 | (i, x) :: r, cs, h => by
  simp only [p9,h (i,x) (by simp)]
  split
  ·split
   ·split
    ·exact sJ fun p hp => h p (by simp [hp])
    ·rfl
   ·rfl
  ·rfl
theorem nu {ρ ρ' : Operand → V} : ∀ {ps : List (Nat × Operand)}, (∀ p ∈ ps, ρ p.2 = ρ' p.2) → jx ρ ps = jx ρ' ps
 | [], _ => rfl
 | (i, x) :: r, h => by
  simp only [jx,h (i,x) (by simp)]
  rw [nu fun p hp => h p (by simp [hp])]
theorem x4 {P : Program} {tt : Table} {T : TypeId} {ρ ρ' : Operand → V} {ps : List (Nat × Operand)} (h : ∀ p ∈ ps, ρ p.2 = ρ' p.2) : jG P tt T ps ρ = jG P tt T ps ρ' := by
 unfold jG
 split
 ·rw [sJ h, nu h]
 ·rfl
theorem uu {tt : Table} {T : TypeId} {len : Nat} {ρ ρ' : Operand → V} {ps : List (Nat × Operand)} (h : ∀ p ∈ ps, ρ p.2 = ρ' p.2) : rE tt T len ps ρ = rE tt T len ps ρ' := by
 unfold rE
 have : (ps.map fun p => ρ p.2) = ps.map fun p => ρ' p.2 := List.map_congr_left h
 rw [this]

theorem Fm {P : Program} {tt : Table} {o : Oper} {st st' : St} (h : ∀ x ∈ o.op.operands, st.eval x = st'.eval x) (hm : st.mem = st'.mem) : iJ P tt st o = iJ P tt st' o := by
 obtain ⟨dst, op, type, pos, after, guard⟩ := o
 cases op <;> simp only [Op.operands] at h <;> try rfl
 case slice T x lo hi mx =>
  cases mx <;> cases lo <;> cases hi <;> try rfl
  all_goals (simp only [iJ]; simp_all)
 case makeFunc fn first captured =>
  simp only [iJ]
  rw [fE (xs := first) fun x hx => h x (by simp [hx]), fE (xs := captured) fun x hx => h x (by simp [hx])]
 case call c =>
  obtain ⟨callee, args, ts⟩ := c
  have kN : args.toList.map st.eval = args.toList.map st'.eval := fE fun x hx => h x (by simp [Call.operands, hx])
  cases callee with
  | builtin b => cases b <;> simp only [iJ,kN,hm]
  | _ => rfl
 all_goals (simp only [iJ]; simp_all)
theorem Cs {P : Program} {tt : Table} {o : Oper} {st st' : St} (h : ∀ x ∈ o.op.operands, st.eval x = st'.eval x) (hm : st.mem = st'.mem) : tf P tt o st = tf P tt o st' := by
 have h0 := Fm (P := P) (tt := tt) h hm
 obtain ⟨dst, op, type, pos, after, guard⟩ := o
 cases op <;> try exact h0
 case build T ps => exact x4 fun p hp => h p.2 (by simp only [Op.operands]; simpa using ⟨p.1, by simpa using hp⟩)
 case buildSlice T len ps =>
  simp only [tf]
  rw [uu fun p hp => h p.2 (by simp only [Op.operands]; simpa using ⟨p.1, by simpa using hp⟩)]
theorem uv {P : Program} {tt : Table} {o : Oper} {st st' : St} {Q : V → Prop} (h : ∀ x ∈ o.op.operands, st.eval x = st'.eval x) (hm : st.mem = st'.mem) : oB P tt o st Q = oB P tt o st' Q := by
 have h0 := Cs (P := P) (tt := tt) h hm
 unfold oB
 rw [h0]
 split
 ·rename_i f xs ts heq
  rw [heq] at h
  have kN : xs.toList.map st.eval = xs.toList.map st'.eval := fE fun x hx => h x (by simp [Op.operands, Call.operands, hx])
  have hf : st.eval f = st'.eval f := h f (by simp [Op.operands, Call.operands])
  rw [kN, hf]
 ·rfl
theorem qi {tt : Table} {o : Oper} {key : Nat} {st st' : St} (h : ∀ x ∈ o.op.operands, st.eval x = st'.eval x) : fJ tt o key st = fJ tt o key st' := by
 obtain ⟨dst, op, type, pos, after, guard⟩ := o
 cases op <;> try rfl
 case makeMap t r => cases r <;> rfl
 case makeSlice t l c => simp only [fJ]; rw [h l (by simp [Op.operands]), h c (by simp [Op.operands])]
 case box T x => simp only [fJ]; rw [h x (by simp [Op.operands])]
 case buildSlice T len ps =>
  simp only [fJ]
  rw [uu fun p hp => h p.2 (by simp only [Op.operands]; simpa using ⟨p.1, by simpa using hp⟩)]
theorem sK {P : Program} {o : Oper} {ρ ρ' : Operand → V} {Q : Nat → List V → Prop} (h : ∀ x ∈ o.op.operands, ρ x = ρ' x) : mE P o ρ Q = mE P o ρ' Q := by
 unfold mE
 split
 ·rename_i f xs ts heq
  rw [heq] at h
  have kN : xs.toList.map ρ = xs.toList.map ρ' := fE fun x hx => h x (by simp [Op.operands, Call.operands, hx])
  have hf : ρ f = ρ' f := h f (by simp [Op.operands, Call.operands])
  rw [kN, hf]
 ·rfl
theorem Ct {P : Program} {tt : Table} {o : Oper} {key : Nat} {st st' : St} (h : ∀ x ∈ o.op.operands, st.eval x = st'.eval x) (hm : st.mem = st'.mem) : qg P tt key o st = qg P tt key o st' := by
 obtain ⟨dst, op, type, pos, after, guard⟩ := o
 cases op <;> try rfl
 case store T p x => simp only [qg,hm]; rw [h p (by simp [Op.operands]), h x (by simp [Op.operands])]
 case mapUpdate T m k x => simp only [qg,hm]; rw [h m (by simp [Op.operands]), h k (by simp [Op.operands]), h x (by simp [Op.operands])]
 case insert T m k x => simp only [qg,hm]; rw [h m (by simp [Op.operands]), h k (by simp [Op.operands]), h x (by simp [Op.operands])]
 case call c =>
  obtain ⟨callee, args, ts⟩ := c
  have kN : args.toList.map st.eval = args.toList.map st'.eval := fE fun x hx => h x (by simp [Op.operands, Call.operands, hx])
  cases callee with
  | builtin b => cases b <;> simp only [qg,kN,hm]
  | _ => rfl

theorem uw {tt : Table} {o : Oper} {key : Nat} {st st' : St} (h : ∀ x ∈ o.op.operands, st.eval x = st'.eval x) (hm : st.mem = st'.mem) : mL tt key o st = mL tt key o st' := by
 obtain ⟨dst, op, type, pos, after, guard⟩ := o
 cases op <;> try rfl
 case store T p x => simp only [mL,hm]; rw [h p (by simp [Op.operands]), h x (by simp [Op.operands])]
theorem zX {tt : Table} {o : Oper} {key : Nat} {st : St} {m : List aC} (h : mL tt key o st = some m) :
  ∃ B0 B : aC, B0.b7 = 0 ∧ B.b7 = 0 ∧ st.mem[key]? = some B0 ∧ m = st.mem.set key B ∧ ∀ mem : List aC, mem[key]? = some B0 → mL tt key o { st with mem := mem } = some (mem.set key B) := by
 have ev : ∀ (mem : List aC) (x : Operand), St.eval { st with mem := mem } x = st.eval x := fun mem x => by cases x <;> rfl
 unfold mL at h ⊢
 obtain ⟨dst, op, type, pos, after, guard⟩ := o
 cases op <;> try (cases h)
 case store T p x =>
  simp only [ev]
  dsimp only at h
  split at h
  ·rename_i b off hp
   split at h
   ·rename_i hb
    subst hb
    unfold jF at h
    split at h
    ·cases h
    ·rename_i new hn
     split at h
     ·rename_i ka
      dsimp only at h
      split at h
      ·rename_i cs xp
       split at h
       ·rename_i hle
        cases h
        refine ⟨.box cs, .box (gf cs off new), rfl, rfl, xp, rfl, fun mem hm => ?_⟩
        simp only [hp,if_true]
        unfold jF
        simp only [hn,ka,if_true,hm,hle]
       ·cases h
      ·cases h
     ·cases h
   ·cases h
  ·cases h

theorem eval_put {st : St} {dst : Option Tmp} {v : V} {x : Operand} (h : ∀ d, dst = some d → x ≠ .tmp d) : (st.put dst v).eval x = st.eval x := by
 cases dst with
 | none => rfl
 | some d =>
  cases x with
  | tmp t =>
   have ch : d ≠ t := fun e => h d rfl (e ▸ rfl)
   simp [St.eval, St.put, List.getD, List.getElem?_set_ne ch]
  | _ => rfl
theorem L6 (st : St) (dst : Option Tmp) (v : V) : (st.put dst v).mem = st.mem := by cases dst <;> rfl
theorem wm {all : Array Oper} {o : Oper} {d : Tmp} (h : d ∉ o.looksAt all) : ∀ x ∈ o.op.operands, x ≠ .tmp d := by
 rintro x hx rfl
 exact h (by unfold Oper.looksAt; exact List.mem_append_left _ (List.mem_filterMap.2 ⟨.tmp d, by simpa using hx, rfl⟩))
theorem zY {all : Array Oper} {o : Oper} {st : St} {dst : Option Tmp} {v : V} (h : ∀ d, dst = some d → d ∉ o.looksAt all) : df all (st.put dst v).fr o = df all st.fr o := by
 cases dst with
 | none => rfl
 | some d =>
  have hd := h d rfl
  unfold df
  split
  ·rfl
  ·rename_i j want hg
   split
   ·rfl
   ·rename_i e he
    have ch : d ≠ e := by
     rintro rfl
     exact hd (by unfold Oper.looksAt; exact List.mem_append_right _ (by rw [hg]; simp only []; rw [he]; simp))
    simp only [St.put,List.getElem?_set_ne ch]

section
variable {P : Program} {tt : Table} {all : Array Oper} {base : Nat}
theorem zZ {o : Oper} {st st' : St} (h : ∀ x ∈ o.op.operands, st.eval x = st'.eval x) (hm : st.mem = st'.mem) : mF tt o st = mF tt o st' := by
 unfold mF
 split
 ·rename_i T x ho
  rw [hm, h x (by rw [ho]; simp [Op.operands])]
 ·rfl
theorem Cu {P : Program} {tt : Table} {o : Oper} {k : Nat} {st st' : St} {v : V} {m : List aC} (h : ∀ x ∈ o.op.operands, st.eval x = st'.eval x) (hm : st.mem = st'.mem) : zV P tt o k st v m = zV P tt o k st' v m := by
 have hs := uw (tt := tt) (key := k) h hm
 unfold zV
 split
 ·rename_i f xs ts heq
  rw [heq] at h
  have kN : xs.toList.map st.eval = xs.toList.map st'.eval := List.map_congr_left fun x hx => h x (by simp [Op.operands, Call.operands]; exact .inr (by simpa using hx))
  have hf : st.eval f = st'.eval f := h f (by simp [Op.operands, Call.operands])
  rw [kN, hf, hm]
 ·rw [hs]
theorem HH {P : Program} {tt : Table} {o : Oper} {k : Nat} {st : St} {v : V} {m : List aC} (h : zV P tt o k st v m) : ∃ B0 B : aC, B0.b7 = 0 ∧ B.b7 = 0 ∧ st.mem[k]? = some B0 ∧ m = st.mem.set k B := by
 unfold zV at h
 split at h
 ·split at h
  ·obtain ⟨B0, B, h1, h2, h3, h4, h5⟩ := h
   exact ⟨B0, B, h1, h2, h3, h5⟩
  ·exact h.elim
 ·obtain ⟨B0, B, h1, h2, h3, h4, -⟩ := zX h.2
  exact ⟨B0, B, h1, h2, h3, h4⟩
theorem Fp {o : Oper} {p : Pl} {st st' : St} {v : V} {m : List aC} (hw : df all st.fr o = df all st'.fr o) (h : ∀ x ∈ o.op.operands, st.eval x = st'.eval x) (hm : st.mem = st'.mem) :
  oC P tt all base o p st v m = oC P tt all base o p st' v m := by
 have e1 : ∀ (mem : List aC) (x : Operand), St.eval { st with mem := mem } x = st.eval x := fun mem x => by cases x <;> rfl
 have e2 : ∀ (mem : List aC) (x : Operand), St.eval { st' with mem := mem } x = st'.eval x := fun mem x => by cases x <;> rfl
 unfold oC
 rw [hw, qi h, Ct h hm, uw h hm, zZ h hm, Cu h hm, hm]
 simp only [sK h]
 rw [uv (st := { st with mem := [] }) (st' := { st' with mem := [] }) (fun x hx => by rw [e1, e2]; exact h x hx) rfl,
  uv (st := { st with mem := ep (p.mask.map (base + ·) ++ p.abs) st'.mem }) (st' := { st' with mem := ep (p.mask.map (base + ·) ++ p.abs) st'.mem }) (fun x hx => by rw [e1, e2]; exact h x hx) rfl]
theorem Ed {o : Oper} {p : Pl} {st : St} {dst : Option Tmp} {u v : V} {m : List aC} (h : ∀ d, dst = some d → d ∉ o.looksAt all) : oC P tt all base o p (st.put dst u) v m = oC P tt all base o p st v m :=
 Fp (zY h) (fun x hx => eval_put fun d hd => wm (h d hd) x hx) (L6 _ _ _)

def rM (all : Array Oper) (x : Oper) (px : Pl) (y : Oper) (py : Pl) : Bool :=
 px.cls != .z && py.cls != .z && x.apart all y && (px.cls == .n || py.cls == .n || (px.cls == .r && py.cls == .r) || ((px.cls == .a || px.cls == .s) && py.cls == .r && py.mask.contains px.key) || (px.cls == .r && (py.cls == .a || py.cls == .s) && px.mask.contains py.key) || ((px.cls == .a || px.cls == .s) && (py.cls == .a || py.cls == .s) && px.key != py.key) || (px.cls == .b && (py.cls == .r || py.cls == .b || (py.cls == .w && isApp y) || (py.cls == .a && Ec y))) || (py.cls == .b && (px.cls == .r || (px.cls == .w && isApp x) || (px.cls == .a && Ec x))) || (px.cls == .e && py.cls == .r && py.abs.contains px.key) || (px.cls == .r && py.cls == .e && px.abs.contains py.key))

theorem Cv {o : Oper} {key : Nat} {st : St} {B : aC} {v : V} (h : fJ tt o key st = some (B, v)) : B.b7 = 0 := by
 unfold fJ at h
 split at h
 ·split at h <;> cases h <;> rfl
 ·split at h <;> cases h <;> rfl
 ·split at h <;> cases h <;> rfl
 ·cases h; rfl
 ·split at h <;> cases h <;> rfl
 ·cases h

theorem rN {o : Oper} {p : Pl} (hp : p.cls = .n) {st : St} {v : V} {m : List aC} (h : oC P tt all base o p st v m) (mem : List aC) : m = st.mem ∧ oC P tt all base o p { st with mem := mem } v mem := by
 unfold oC at h ⊢
 dsimp only
 split at h
 ·rename_i hw
  rw [hp] at h
  simp only [hw,hp]
  exact ⟨h.2, h.1, trivial⟩
 ·rename_i hw; simp only [hw]; exact ⟨h.2, h.1, trivial⟩
 ·exact h.elim
theorem ed {o : Oper} {p : Pl} (hp : p.cls = .r) {st : St} {v : V} {m : List aC} (h : oC P tt all base o p st v m) {mem : List aC} (hm : ep (p.mask.map (base + ·) ++ p.abs) mem = ep (p.mask.map (base + ·) ++ p.abs) st.mem) :
  m = st.mem ∧ oC P tt all base o p { st with mem := mem } v mem := by
 unfold oC at h ⊢
 dsimp only
 split at h
 ·rename_i hw
  rw [hp] at h
  simp only [hw,hp]
  exact ⟨h.2, by rw [hm]; exact h.1, trivial⟩
 ·rename_i hw; simp only [hw]; exact ⟨h.2, h.1, trivial⟩
 ·exact h.elim
theorem oa {o : Oper} {p : Pl} (hp : p.cls = .a ∨ p.cls = .s) {st : St} {v : V} {m : List aC} (h : oC P tt all base o p st v m) :
  (m = st.mem ∧ ∀ mem, oC P tt all base o p { st with mem := mem } v mem) ∨
  ∃ B0 B : aC, B0.b7 = 0 ∧ B.b7 = 0 ∧ st.mem[base + p.key]? = some B0 ∧ m = st.mem.set (base + p.key) B ∧ ∀ mem : List aC, mem[base + p.key]? = some B0 → oC P tt all base o p { st with mem := mem } v (mem.set (base + p.key) B) := by
 unfold oC at h
 split at h
 ·rename_i hw
  rcases hp with hp | hp
  ·rw [hp] at h
   obtain ⟨h1, B, h2, h3⟩ := h
   have SI : B.b7 = 0 := by
    rcases h2 with h2 | ⟨-, h2⟩
    ·exact Cv h2
    ·obtain ⟨e, rs, -, h5, -⟩ := j1.1 h2
     rw [h5]; rfl
   refine .inr ⟨.hole, B, rfl, SI, jb.1 h1, h3, fun mem hm => ?_⟩
   unfold oC
   simp only [hw,hp]
   refine ⟨jb.2 hm, B, ?_, rfl⟩
   have e0 : fJ tt o (base + p.key) { st with mem := mem } = fJ tt o (base + p.key) st := qi fun x _ => by cases x <;> rfl
   rw [e0]
   have e1 : ∀ Q, mE P o (St.eval { st with mem := mem }) Q = mE P o st.eval Q := fun Q => sK fun x _ => by cases x <;> rfl
   rw [e1]
   exact h2
  ·rw [hp] at h
   obtain ⟨h1, h2⟩ := h
   obtain ⟨B0, B, h3, h4, h5, h6, h7⟩ := zX h2
   refine .inr ⟨B0, B, h3, h4, h5, h6, fun mem hm => ?_⟩
   unfold oC
   simp only [hw,hp]
   exact ⟨h1, h7 mem hm⟩
 ·rename_i hw
  refine .inl ⟨h.2, fun mem => ?_⟩
  unfold oC
  simp only [hw]
  exact ⟨h.1, trivial⟩
 ·exact h.elim

theorem wP {o : Oper} {p : Pl} (hp : p.cls = .e) {st : St} {v : V} {m : List aC} (h : oC P tt all base o p st v m) :
  m = st.mem ∨ ∃ B0 B : aC, B0.b7 = 0 ∧ B.b7 = 0 ∧ st.mem[p.key]? = some B0 ∧ m = st.mem.set p.key B := by
 unfold oC at h
 split at h
 ·rw [hp] at h
  exact .inr (HH h)
 ·exact .inl h.2
 ·exact h.elim

theorem rO {o : Oper} {p : Pl} (hp : p.cls = .b) {st : St} {v : V} {m : List aC} (h : oC P tt all base o p st v m) :
  m = st.mem ∧ ∀ mem : List aC, mem.map dS = st.mem.map dS → oC P tt all base o p { st with mem := mem } v mem := by
 unfold oC at h ⊢
 dsimp only
 split at h
 ·rename_i hw
  rw [hp] at h
  simp only [hw,hp]
  refine ⟨h.2, fun mem hm => ⟨?_, trivial⟩⟩
  have h1 := h.1
  unfold mF at h1 ⊢
  split at h1
  ·rename_i T x ho
   have e : St.eval { st with mem := mem } x = st.eval x := by cases x <;> rfl
   show mB tt (mem.map dS) T (St.eval { st with mem := mem } x) = some v
   rw [hm, e]; exact h1
  ·cases h1
 ·rename_i hw; simp only [hw]; exact ⟨h.2, fun _ _ => ⟨h.1, trivial⟩⟩
 ·exact h.elim
theorem wQ {o : Oper} {p : Pl} (hp : p.cls = .w) (ha : isApp o = true) {st : St} {v : V} {m : List aC} (h : oC P tt all base o p st v m) : m.map dS = st.mem.map dS := by
 unfold oC at h
 split at h
 ·rw [hp] at h
  exact HF ha (jb.1 h.1) h.2
 ·rw [h.2]
 ·exact h.elim
theorem ux {o : Oper} {p : Pl} (hp : p.cls = .a) (ha : Ec o = true) {st : St} {v : V} {m : List aC} (h : oC P tt all base o p st v m) : m.map dS = st.mem.map dS := by
 unfold oC at h
 split at h
 ·rw [hp] at h
  obtain ⟨h1, B, h2, rfl⟩ := h
  have hB : dS B = .dead := by
   rcases h2 with h2 | ⟨-, h2⟩
   ·unfold fJ at h2
    unfold Ec at ha
    split at h2
    ·rename_i he; rw [he] at ha; cases ha
    ·rename_i he; rw [he] at ha; cases ha
    ·split at h2 <;> cases h2; rfl
    ·cases h2; rfl
    ·split at h2 <;> cases h2; rfl
    ·cases h2
   ·obtain ⟨e, rs, -, h5, -⟩ := j1.1 h2
    rw [h5]; rfl
  have hh := jb.1 h1
  apply List.ext_getElem?
  intro q
  rw [List.getElem?_map, List.getElem?_map, List.getElem?_set]
  split
  ·rename_i hq; subst hq
   rw [if_pos (List.getElem?_eq_some_iff.1 hh).1, hh, Option.map_some, Option.map_some, hB]; rfl
  ·rfl
 ·rw [h.2]
 ·exact h.elim
theorem St.put_comm (st : St) {x y : Option Tmp} (v u : V) (h : ∀ d, x = some d → y ≠ some d) : (st.put x v).put y u = (st.put y u).put x v := by
 cases x with
 | none => rfl
 | some d =>
  cases y with
  | none => rfl
  | some e =>
   have ch : d ≠ e := fun he => h d rfl (he ▸ rfl)
   simp [St.put, List.set_comm _ _ ch]
theorem z1 (st : St) (x : Option Tmp) (v : V) (m : List aC) : { st.put x v with mem := m } = St.put { st with mem := m } x v := by cases x <;> rfl

theorem Cw {x y : Oper} {px py : Pl} (dx : rM all x px y py = true) {st : St} {Q : St → Prop} (h : dW P tt all base x px st fun st' => dW P tt all base y py st' Q) :
  dW P tt all base y py st fun st' => dW P tt all base x px st' Q := by
 unfold rM at dx
 rw [Bool.and_eq_true, Bool.and_eq_true, Bool.and_eq_true] at dx
 obtain ⟨⟨⟨N6, X0⟩, Y5⟩, mC⟩ := dx
 have N6 : px.cls ≠ .z := by simpa using N6
 have X0 : py.cls ≠ .z := by simpa using X0
 obtain ⟨hxy, PG, hyx⟩ := Oper.apart_spec Y5
 obtain ⟨v, m1, h1, h2⟩ := (fC N6).1 h
 obtain ⟨u, m2, h3, h4⟩ := (fC X0).1 h2
 rw [Ed hxy] at h3
 have fin : ∀ To , oC P tt all base y py st u To → oC P tt all base x px { st with mem := To } v m2 → dW P tt all base y py st fun st' => dW P tt all base x px st' Q := fun To h5 h6 => by
  refine (fC X0).2 ⟨u, To, h5, (fC N6).2 ⟨v, m2, by rw [Ed hyx]; exact h6, ?_⟩⟩
  have e1 : ({ (St.put { st with mem := m1 } x.dst v) with mem := m2 } : St).put y.dst u = ({ (St.put { st with mem := To } y.dst u) with mem := m2 } : St).put x.dst v := by
   rw [z1, z1]
   exact St.put_comm _ _ _ PG
  rw [← e1]; exact h4
 have back : ∀ (m : List aC) (z : Oper) (pz : Pl) (c : V) (m' : List aC), oC P tt all base z pz { ({ st with mem := m } : St) with mem := st.mem } c m' = oC P tt all base z pz st c m' := fun _ _ _ _ _ => rfl
 simp only [Bool.or_eq_true,Bool.and_eq_true,beq_iff_eq,bne_iff_ne] at mC
 rcases mC with ((((((((hn | hn) | ⟨hr, y1⟩) | ⟨⟨ha, hr⟩, hm⟩) | ⟨⟨hr, ha⟩, hm⟩) | ⟨⟨ha, ha'⟩, ch⟩) | ⟨hb, hy⟩) | ⟨hb, hx⟩) | ⟨⟨he, hr⟩, hm⟩) | ⟨⟨hr, he⟩, hm⟩
 ·-- x LH not look
  obtain ⟨rfl, -⟩ := rN hn h1 []
  exact fin m2 h3 (rN hn h1 m2).2
 ·-- y LH not look
  obtain ⟨h5, h6⟩ := rN hn h3 st.mem
  dsimp only at h5; subst h5
  exact fin st.mem h6 h1
 ·obtain ⟨rfl, -⟩ := ed hr h1 rfl
  obtain ⟨h5, h6⟩ := ed y1 h3 (mem := st.mem) rfl
  dsimp only at h5; subst h5
  exact fin st.mem h6 h1
 ·rcases oa ha h1 with ⟨rfl, -⟩ | ⟨B0, B, Hg, hv, hh, rfl, -⟩
  ·obtain ⟨h5, h6⟩ := ed hr h3 (mem := st.mem) rfl
   dsimp only at h5; subst h5
   exact fin st.mem h6 h1
  ·have y3 : ep (py.mask.map (base + ·) ++ py.abs) (st.mem.set (base + px.key) B) = ep (py.mask.map (base + ·) ++ py.abs) st.mem := n9 (List.mem_append_left _ (List.mem_map.2 ⟨_, by simpa using hm, rfl⟩)) hh Hg hv
   obtain ⟨h5, h6⟩ := ed hr h3 (mem := st.mem) y3.symm
   dsimp only at h5; subst h5
   exact fin st.mem h6 h1
 ·obtain ⟨rfl, -⟩ := ed hr h1 rfl
  rcases oa ha h3 with ⟨h5, h6⟩ | ⟨B0, B, Hg, hv, hh, h5, h6⟩
  ·dsimp only at h5; subst h5
   exact fin st.mem h3 h1
  ·dsimp only at h5 hh; subst h5
   have y3 : ep (px.mask.map (base + ·) ++ px.abs) (st.mem.set (base + py.key) B) = ep (px.mask.map (base + ·) ++ px.abs) st.mem := n9 (List.mem_append_left _ (List.mem_map.2 ⟨_, by simpa using hm, rfl⟩)) hh Hg hv
   exact fin _ h3 (ed hr h1 y3).2
 ·rcases oa ha h1 with ⟨rfl, hx⟩ | ⟨B0, B, Hg, hv, hh, rfl, hx⟩
  ·exact fin m2 h3 (hx m2)
  ·rcases oa ha' h3 with ⟨h5, h6⟩ | ⟨B0', B', ael, tK, Ln, h5, h6⟩
   ·dsimp only at h5; subst h5
    exact fin st.mem (h6 st.mem) h1
   ·dsimp only at h5 Ln; subst h5
    have Hc : base + px.key ≠ base + py.key := by omega
    rw [List.getElem?_set_ne Hc] at Ln
    have h7 := h6 st.mem Ln
    have h8 := hx (st.mem.set (base + py.key) B') (by rw [List.getElem?_set_ne (fun e => Hc e.symm)]; exact hh)
    refine fin _ h7 ?_
    rw [List.set_comm _ _ Hc]
    exact h8
 ·obtain ⟨rfl, h5⟩ := rO hb h1
  refine fin m2 h3 (h5 m2 ?_)
  rcases hy with ((hy | hy) | ⟨hy, ha⟩) | ⟨hy, ha⟩
  ·rw [(ed hy h3 rfl).1]
  ·rw [(rO hy h3).1]
  ·exact wQ hy ha h3
  ·exact ux hy ha h3
 ·obtain ⟨h5, h6⟩ := rO hb h3
  dsimp only at h5; subst h5
  refine fin st.mem (h6 st.mem ?_) h1
  rcases hx with (hx | ⟨hx, ha⟩) | ⟨hx, ha⟩
  ·rw [(ed hx h1 rfl).1]
  ·exact (wQ hx ha h1).symm
  ·exact (ux hx ha h1).symm
 ·rcases wP he h1 with rfl | ⟨B0, B, Hg, hv, hh, rfl⟩
  ·obtain ⟨h5, h6⟩ := ed hr h3 (mem := st.mem) rfl
   dsimp only at h5; subst h5
   exact fin st.mem h6 h1
  ·have y3 : ep (py.mask.map (base + ·) ++ py.abs) (st.mem.set px.key B) = ep (py.mask.map (base + ·) ++ py.abs) st.mem := n9 (List.mem_append_right _ (by simpa using hm)) hh Hg hv
   obtain ⟨h5, h6⟩ := ed hr h3 (mem := st.mem) y3.symm
   dsimp only at h5; subst h5
   exact fin st.mem h6 h1
 ·obtain ⟨rfl, -⟩ := ed hr h1 rfl
  rcases wP he h3 with h5 | ⟨B0, B, Hg, hv, hh, h5⟩
  ·dsimp only at h5; subst h5
   exact fin st.mem h3 h1
  ·dsimp only at h5 hh; subst h5
   have y3 : ep (px.mask.map (base + ·) ++ px.abs) (st.mem.set py.key B) = ep (px.mask.map (base + ·) ++ px.abs) st.mem := n9 (List.mem_append_right _ (by simpa using hm)) hh Hg hv
   exact fin _ h3 (ed hr h1 y3).2
end
end Go.Eng
end

section
namespace Go.Eng
variable [aA]
open Go.RowKit (Below)

theorem ob {mem : List aC} {size : Nat} {l : Int} {h : Option Int} {x v : V} (hc : cutAt [] size l h x = some v) : cutAt mem size l h x = some v := by
 unfold cutAt at hc ⊢
 split at hc
 ·exact hc
 ·simp [iY] at hc
 ·cases hc
theorem HI {P : Program} {tt : Table} {mem : List aC} {T : TypeId} {x v : V} {lo hi : Option V} (hc : xv P tt [] T x lo hi = some v) : xv P tt mem T x lo hi = some v := by
 unfold xv at hc ⊢
 split
 ·exact hc
 ·rename_i ch
  split at hc
  ·exact absurd rfl (ch _)
  ·split at hc
   ·cases hc
   ·split at hc
    ·cases hc
    ·split at hc
     ·split at hc
      ·exact ob hc
      ·split at hc
       ·exact ob hc
       ·cases hc
     ·split at hc
      ·cases hc
      ·split at hc
       ·exact ob hc
       ·split at hc
        ·exact ob hc
        ·cases hc
theorem Fq {tt : Table} {mem : List aC} {T : TypeId} {p v : V} (h : mB tt [] T p = some v) : mB tt mem T p = some v := by
 cases p <;> simp [mB, rowOf] at h ⊢
 exact h
theorem Cx {tt : Table} {mem : List aC} {T : TypeId} {p i v : V} (h : j9 tt [] T p i = some v) : j9 tt mem T p i = some v := by
 unfold j9 at h ⊢
 split at h
 ·split at h
  ·split at h
   ·cases p <;> simp [indexAt, iY] at h ⊢
    exact h
   ·cases h
  ·cases h
 ·cases h
theorem Cy {tt : Table} {mem : List aC} {T : TypeId} {b o : Nat} {i : V} : j9 tt mem T (.ptr b o) i = none := by
 unfold j9
 split
 ·split
  ·split <;> rfl
  ·rfl
 ·rfl
theorem Cz {P : Program} {tt : Table} {mem : List aC} {T : TypeId} {p i v : V} (h : (match j9 tt [] T p i with | some v => some v | none => tP P tt T p i) = some v) : (match j9 tt mem T p i with | some v => some v | none => tP P tt T p i) = some v := by
 split at h
 ·rename_i u hu
  cases h
  rw [Cx hu]
 ·have hp : ∃ b o, p = .ptr b o := by
   unfold tP at h
   split at h
   ·exact ⟨_, _, rfl⟩
   ·cases h
  obtain ⟨b, o, rfl⟩ := hp
  rw [Cy]; exact h
theorem z6 {P : Program} {mem : List aC} {T : TypeId} {m i v : V} {ok : Bool} (h : gb P [] T m i ok = some v) : gb P mem T m i ok = some v := by
 unfold gb at h ⊢
 split at h
 ·split at h
  ·split at h
   ·rename_i hk
    rw [if_pos hk]
    unfold ly at h ⊢
    split at h
    ·simp at h
    ·exact h
    ·cases h
   ·cases h
  ·cases h
 ·cases h
theorem HJ {mem : List aC} {it v : V} (h : E6 [] it = some v) : E6 mem it = some v := by
 unfold E6 at h
 split at h
 ·simp at h
 ·cases h
theorem HK {P : Program} {tt : Table} {mem : List aC} {ts : Array TypeId} {ty : TypeId} {xs : List V} {v : V} (h : (match rA [] ts P xs with | some v => some v | none => xx P tt ts ty xs) = some v) :
  (match rA mem ts P xs with | some v => some v | none => xx P tt ts ty xs) = some v := by
 by_cases hx : ∃ b, xs = [.mp b]
 ·obtain ⟨b, rfl⟩ := hx
  simp [rA, xx, ib, kY, dj] at h
 ·have hn : ∀ m, rA m ts P xs = none := fun m => by
   unfold rA
   split
   ·exact absurd ⟨_, rfl⟩ hx
   ·rfl
  rw [hn] at h ⊢
  exact h
theorem Fs (st : St) (mem : List aC) (x : Operand) : St.eval { st with mem := mem } x = st.eval x := by cases x <;> rfl
theorem dd (st : St) (mem : List aC) : St.eval { st with mem := mem } = st.eval := funext fun x => Fs st mem x
theorem Ft {P : Program} {mem : List aC} {s d : TypeId} {x v : V} (h : tO P [] s d x = some v) : tO P mem s d x = some v := by
 cases x <;> first | exact h | (simp [tO] at h)
theorem L7 {P : Program} {tt : Table} {st : St} {o : Oper} {v : V} (h : iJ P tt { st with mem := [] } o = some v) : iJ P tt st o = some v := by
 obtain ⟨dst, op, type, pos, after, guard⟩ := o
 cases op
 case load T x => simp only [iJ,dd] at h ⊢; exact Fq h
 case indexAddr T x i => simp only [iJ,dd] at h ⊢; exact Cz h
 case entry it => simp only [iJ,dd] at h ⊢; exact HJ h
 case convert s d x => simp only [iJ,dd] at h ⊢; exact Ft h
 case lookup T x i ok => simp only [iJ,dd] at h ⊢; exact z6 h
 case slice T x lo hi mx =>
  cases mx
  ·simp only [iJ,dd] at h ⊢; exact HI h
  ·cases lo <;> cases hi <;> simp only [iJ,dd,reduceCtorEq] at h ⊢
   exact h
 case call c =>
  obtain ⟨callee, args, ts⟩ := c
  cases callee with
  | builtin b => cases b <;> first | (simp only [iJ,dd] at h ⊢; exact h) | (simp only [iJ,dd] at h ⊢; exact HK h) | (simp [iJ] at h)
  | _ => simp [iJ] at h
 all_goals first | (simp only [iJ,dd] at h ⊢; exact h) | (simp [iJ] at h)

theorem sL {mem : List aC} {v v' : V} (h : cq [] v = some v') : cq mem v = some v' ∧ gM v = [] := by
 unfold cq at h
 split at h
 ·exact ⟨h, rfl⟩
 ·exact ⟨h, rfl⟩
 ·exact ⟨h, rfl⟩
 ·exact ⟨h, rfl⟩
 ·exact ⟨h, rfl⟩
 ·exact ⟨h, rfl⟩
 ·simp at h
 ·exact ⟨h, rfl⟩
 ·cases h
theorem qj {mem : List aC} : ∀ {vs vs' : List V}, eh [] vs = some vs' → eh mem vs = some vs' ∧ vs.flatMap gM = []
 | [], vs', h => ⟨h, rfl⟩
 | c :: r, vs', h => by
  simp only [eh] at h ⊢
  split at h
  ·rename_i c' hc
   split at h
   ·rename_i r' hr
    obtain ⟨h1, h2⟩ := sL (mem := mem) hc
    obtain ⟨h3, h4⟩ := qj (mem := mem) hr
    rw [h1, h3]
    exact ⟨h, by simp [List.flatMap_cons, h2, h4]⟩
   ·cases h
  ·cases h
theorem HL {mem : List aC} {v v' : V} (h : e8 [] v = some v') : e8 mem v = some v' ∧ cL v = [] := by
 unfold e8 at h
 split at h
 ·rename_i cs
  split at h
  ·rename_i l hl
   obtain ⟨h1, h2⟩ := qj (mem := mem) hl
   exact ⟨by simp only [e8,h1]; exact h, h2⟩
  ·cases h
 ·rename_i ch
  obtain ⟨h1, h2⟩ := sL (mem := mem) h
  exact ⟨by cases v <;> first | exact h1 | exact absurd rfl (ch _), by cases v <;> first | exact h2 | exact absurd rfl (ch _)⟩
theorem qk {mem : List aC} : ∀ {vs vs' : List V}, dq [] vs = some vs' → dq mem vs = some vs' ∧ vs.flatMap cL = []
 | [], vs', h => ⟨h, rfl⟩
 | c :: r, vs', h => by
  simp only [dq] at h ⊢
  split at h
  ·rename_i c' hc
   split at h
   ·rename_i r' hr
    obtain ⟨h1, h2⟩ := HL (mem := mem) hc
    obtain ⟨h3, h4⟩ := qk (mem := mem) hr
    rw [h1, h3]
    exact ⟨h, by simp [List.flatMap_cons, h2, h4]⟩
   ·cases h
  ·cases h
theorem mG {v v' : V} (h : cq [] v = some v') {E : Env} {x : Value} (hr : bC E v x) : bC E v' x := by
 unfold cq at h
 split at h
 ·cases h; exact hr
 ·cases h; exact lA hr
 ·cases h; exact hr
 ·cases h; cases hr with | full _ _ _ h => exact h
 ·cases h; exact hr
 ·cases h; exact hr
 ·simp at h
 ·cases h
  cases hr with
  | bp _ f _ _ xs ys hx hy h1 h2 =>
   have e1 : xs = #[] := by simpa using hx.symm
   have e2 : ys = #[] := by simpa using hy.symm
   subst e1; subst e2; exact .sc _ _
 ·cases h
theorem lD {E : Env} : ∀ {vs vs' : List V} {xs : List Value}, eh [] vs = some vs' → bo E vs xs → bo E vs' xs
 | [], vs', xs, h, hr => by cases h; exact hr
 | c :: r, vs', xs, h, hr => by
  obtain ⟨x, ys, rfl, h1, h2⟩ := hr.of_cons
  simp only [eh] at h
  split at h
  ·rename_i c' hc
   split at h
   ·rename_i r' y1
    cases h
    exact .cons (mG hc h1) (lD y1 h2)
   ·cases h
  ·cases h
theorem x5 {v v' : V} (h : e8 [] v = some v') {E : Env} {x : Value} (hr : bC E v x) : bC E v' x := by
 unfold e8 at h
 split at h
 ·rename_i cs
  split at h
  ·rename_i l hl
   cases h
   cases hr with
   | agg _ _ xs hlen hh =>
    have := lD hl (E := E) (xs := xs.toList) ⟨by simpa using hlen, fun i c x hc hx => hh i c x hc (by simpa using hx)⟩
    exact .agg _ _ _ (by simpa using this.1) fun i c x hc hx => this.2 i c x hc (by simpa using hx)
  ·cases h
 ·exact mG h hr
theorem ql {E : Env} : ∀ {vs vs' : List V} {xs : List Value}, dq [] vs = some vs' → bo E vs xs → bo E vs' xs
 | [], vs', xs, h, hr => by cases h; exact hr
 | c :: r, vs', xs, h, hr => by
  obtain ⟨x, ys, rfl, h1, h2⟩ := hr.of_cons
  simp only [dq] at h
  split at h
  ·rename_i c' hc
   split at h
   ·rename_i r' y1
    cases h
    exact .cons (x5 hc h1) (ql y1 h2)
   ·cases h
  ·cases h
theorem aN (mem : List aC) (r : V) : bx mem [] r = mem := by unfold bx; split <;> rfl

theorem sI.hole {P : Program} {f : FuncId} {vs vs' : List V} {e : Nat} {rs : List V} (hp : dq [] vs = some vs') (h : sI P f vs' e rs) {mem : List aC} {key : Nat} (c9 : mem[key]? = some .hole) :
  aF P f vs mem (.ms key 0 0 rs.length) (mem.set key (.rows 0 e rs)) := by
 obtain ⟨v0, h⟩ := h
 refine ⟨h.1, fun E w xs hs hx => ?_⟩
 obtain ⟨N1, hk⟩ := qk (mem := mem) hp
 have h1 := iZ hs (keys := []) hx N1 (by rw [hk]; simp)
 have hE : (E.lR w []).pure = ⟨E.F, fun _ _ => none, E.gl⟩ := by
  refine Env.E4 (funext fun ad => ?_) rfl
  simp only [Env.pure,Env.lR]
  cases hh : E.F ad <;> simp
 rw [hE] at h1
 have PH : key < mem.length := (List.getElem?_eq_some_iff.1 c9).1
 have iE : ∀ v, E.bd key v = none := hs.mem key _ c9
 have o0 : bH ⟨E.F, fun _ _ => none, E.gl⟩ w { tmps := #[], defers := [] } { fr := [], mem := [] } :=
  ⟨hs.F, (fun k v g e c h => by cases h), (fun k B h => by simp at h), (fun k _ v => rfl), (fun k B h => by simp at h), (fun k k' v v' g e c e' c' h => by cases h), .nil _⟩
 refine (h.2 _ w xs o0 h1).mono ?_
 rintro en w' ⟨E', x, rfl, ea, lS, hr⟩
 have kZ : ∀ k v g e c, E'.bd k v = some (g, e, c) → w.heap.size ≤ g := fun k v g e c hb => by
  rcases ea.bd _ _ _ _ _ hb with ⟨_, _, _, _, h⟩ | h
  ·cases h
  ·exact h
 have hold : ∀ b, b < w.heap.size → w'.heap[b]? = w.heap[b]? := fun b hb => ea.heap b hb fun _ _ _ _ h => by cases h
 have Tp : ∀ ad y, E'.F ad = some y → E.F ad = some y ∨ w.heap.size ≤ ad.block := fun ad y hy => by
  rcases ea.F _ _ hy with h | h | ⟨_, _, _, _, h⟩
  ·exact .inl h
  ·exact .inr h
  ·cases h
 have HM : (⟨E'.F, fun k v => if k = key then (if v = 0 then E'.bd 0 v0 else none) else E.bd k v, E'.gl⟩ : Env).bd key 0 = E'.bd 0 v0 := by simp
 have PI : ∀ v, v ≠ 0 → (⟨E'.F, fun k v => if k = key then (if v = 0 then E'.bd 0 v0 else none) else E.bd k v, E'.gl⟩ : Env).bd key v = none := fun v hv => by simp [hv]
 have mR : ∀ k v, k ≠ key → (⟨E'.F, fun k v => if k = key then (if v = 0 then E'.bd 0 v0 else none) else E.bd k v, E'.gl⟩ : Env).bd k v = E.bd k v := fun k v hk => if_neg hk
 generalize Tq : (⟨E'.F, fun k v => if k = key then (if v = 0 then E'.bd 0 v0 else none) else E.bd k v, E'.gl⟩ : Env) = E2 at HM PI mR
 have gg : E2.F = E'.F := by rw [← Tq]
 have wH : E2.pure = E'.pure := Env.E4 gg rfl
 have Ee : ∀ v t, E2.bd key v = some t → v = 0 ∧ E'.bd 0 v0 = some t := fun v t ht => by
  by_cases hv : v = 0
  ·subst hv; exact ⟨rfl, HM ▸ ht⟩
  ·rw [PI v hv] at ht; cases ht
 have hle : E.le E2 := ⟨fun ad y hy => by rw [gg]; exact ea.le.F _ _ hy, fun k v t hk => by
  by_cases c6 : k = key
  ·subst c6; rw [iE v] at hk; cases hk
  ·rw [mR k v c6]; exact hk⟩
 refine ⟨E2, x, rfl, ⟨hle, fun k v g e c hk => ?_, fun ad y hy => ?_, ea.os, ea.tape, ea.output, ea.size, fun b hb _ => hold b hb⟩, ⟨fun ad y hy => lS.F _ _ (by rw [← gg]; exact hy), fun k v g e c hk => ?_, fun k B hk => ?_, fun k hk v => ?_, fun k B hk v hv => ?_, fun k k' v v' g e1 c1 e2 c2 h5 h6 => ?_, .nil _⟩, ?_⟩
 ·by_cases c6 : k = key
  ·subst c6; obtain ⟨-, h⟩ := Ee _ _ hk; exact .inr (kZ _ _ _ _ _ h)
  ·rw [mR k v c6] at hk; exact .inl ⟨k, v, e, c, hk⟩
 ·rw [gg] at hy
  rcases Tp ad y hy with h | h
  ·exact .inl h
  ·exact .inr (.inl h)
 ·by_cases c6 : k = key
  ·subst c6; obtain ⟨-, h⟩ := Ee _ _ hk; exact lS.lt _ _ _ _ _ h
  ·rw [mR k v c6] at hk; have := hs.lt _ _ _ _ _ hk; have := ea.size; omega
 ·rw [List.getElem?_set] at hk
  by_cases c6 : key = k
  ·subst c6
   simp only [if_true,PH] at hk
   cases hk
   have h0 := lS.mem 0 _ rfl
   rcases h0 with ⟨h1, h2⟩ | ⟨g, T, ys, c, h1, h2, h3, h4, h5, h6⟩
   ·exact .inl ⟨h1, by rw [HM]; exact h2⟩
   ·exact .inr ⟨g, T, ys, c, by rw [HM]; exact h1, h2, h3, h4, by rw [wH]; exact h5, fun o => by rw [gg]; exact h6 o⟩
  ·rw [if_neg c6] at hk
   refine (hs.mem k B hk).mono hle (fun v hv => by rw [mR k v (fun e => c6 e.symm)]; exact hv) (fun g e c hb => hold g (hs.lt _ _ _ _ _ hb)) fun g e c o hb hn => ?_
   rw [gg]
   cases hy : E'.F ⟨g, o, none⟩ with
   | none => rfl
   | some y =>
    rcases Tp _ y hy with h | h
    ·rw [hn] at h; cases h
    ·have := hs.lt _ _ _ _ _ hb; simp at h; omega
 ·dsimp only at hk
  rw [List.length_set] at hk
  rw [mR k v (by omega)]; exact hs.top k (by dsimp only; omega) v
 ·rw [List.getElem?_set] at hk
  by_cases c6 : key = k
  ·subst c6
   simp only [if_true,PH] at hk
   cases hk
   exact PI v (by simp [aC.b7] at hv; omega)
  ·rw [if_neg c6] at hk
   rw [mR k v (fun e => c6 e.symm)]; exact hs.b7 k B hk v hv
 ·by_cases ff : k = key <;> by_cases iU : k' = key
  ·rw [ff, iU]
  ·subst ff
   obtain ⟨-, h⟩ := Ee _ _ h5
   rw [mR k' _ iU] at h6
   have := hs.lt _ _ _ _ _ h6; have := kZ _ _ _ _ _ h; omega
  ·subst iU
   obtain ⟨-, h⟩ := Ee _ _ h6
   rw [mR k _ ff] at h5
   have := hs.lt _ _ _ _ _ h5; have := kZ _ _ _ _ _ h; omega
  ·rw [mR k _ ff] at h5; rw [mR k' _ iU] at h6
   exact hs.apart _ _ _ _ _ _ _ _ _ h5 h6
 ·rcases xM hr with ⟨h0, rfl⟩ | ⟨g, e, c, aa, cap, rfl, hb, hl, h0, hc⟩
  ·rw [h0]; exact .eN _ _ _ _
  ·exact .ms _ _ _ _ _ g e c _ _ (by rw [HM]; exact hb) hl h0 hc

theorem bH.HN {E : Env} {w : World} {a : Act} {st : St} (hs : bH E w a st) {xs : Array Value} {rs : List V} {e c : Nat} (T : TypeId) (hl : rs.length ≤ c) (hr : iX E.pure e rs (fun o => xs[o]?)) :
  ∃ E', bH E' (w.alloc (.cells xs T (0, 0))) a st ∧ ec E w E' (w.alloc (.cells xs T (0, 0))) ∧ bC E' (.slice rs) (.slice (some ⟨w.heap.size, 0, none⟩) rs.length c) := by
 have p6 : ∀ o, (w.alloc (.cells xs T (0, 0))).cell? ⟨w.heap.size, o, none⟩ = xs[o]? := fun o => kF (heap_alloc_new w _) o
 have hle : E.le ⟨fun ad => match E.F ad with | some x => some x | none => if ad.block = w.heap.size ∧ ad.spot = none then xs[ad.off]? else none, E.bd, E.gl.mono fun ad x h => by simp only [h]⟩ := ⟨fun ad x h => by dsimp only; rw [h], fun _ _ _ h => h⟩
 refine ⟨⟨fun ad => match E.F ad with | some x => some x | none => if ad.block = w.heap.size ∧ ad.spot = none then xs[ad.off]? else none, E.bd, E.gl.mono fun ad x h => by simp only [h]⟩, ⟨fun ad x hx => ?_, fun k v g e c h => ?_, fun k B hB => ?_, hs.top, hs.b7, hs.apart, hs.fr.mono hle⟩, ⟨hle, fun k v g e c h => .inl ⟨k, v, e, c, h⟩, fun ad x hx => ?_, rfl, rfl, rfl, by simp, fun b hb _ => Go.RowKit.Below.heap_alloc w _ b hb⟩, ?_⟩
 ·dsimp only at hx
  split at hx
  ·rename_i y hy; cases hx
   rw [World.cell?_alloc_lt w _ ad (World.block_lt_of_cell? w ad (hs.F ad _ hy))]; exact hs.F ad _ hy
  ·split at hx
   ·rename_i hc
    obtain ⟨b, o, el⟩ := ad
    obtain ⟨rfl, rfl⟩ := hc
    rw [p6]; exact hx
   ·cases hx
 ·have := hs.lt _ _ _ _ _ h; simp; omega
 ·refine (hs.mem k B hB).mono hle (fun v h => h) (fun g e' c' hb => Go.RowKit.Below.heap_alloc w _ g (hs.lt _ _ _ _ _ hb)) fun g e c o hb hn => ?_
  dsimp only
  rw [hn]
  have := hs.lt _ _ _ _ _ hb
  simp; intro h; omega
 ·dsimp only at hx
  split at hx
  ·rename_i y hy; cases hx; exact .inl hy
  ·split at hx
   ·rename_i hc; exact .inr (.inl (by rw [hc.1]; exact Nat.le_refl _))
   ·cases hx
 ·have hn : ∀ o, E.F ⟨w.heap.size, o, none⟩ = none := fun o => by
   cases hx : E.F ⟨w.heap.size, o, none⟩ with
   | none => rfl
   | some x => have := World.block_lt_of_cell? w _ (hs.F _ _ hx); simp at this
  refine .slice _ rs _ c e ⟨w.heap.size, 0, none⟩ (fun i j => (xs[i * e + j]?).getD undef) (fun _ => rfl) hl (fun i row hi => (hr i row hi).1) (fun i row j cc hi hj => ?_) (fun i row j cc hi hj => ?_) fun i row j cc hi hj => ?_
  ·obtain ⟨x, hx, h1, h2⟩ := (hr i row hi).2 j cc hj
   rw [add_lit, Nat.zero_add]
   simp only [hn,true_and,if_true,and_self]
   dsimp only at hx; rw [hx]; rfl
  ·obtain ⟨x, hx, h1, h2⟩ := (hr i row hi).2 j cc hj
   dsimp only at hx ⊢; rw [hx]; exact h1
  ·obtain ⟨x, hx, h1, h2⟩ := (hr i row hi).2 j cc hj
   dsimp only at hx ⊢; rw [hx]; exact h2.mono (Env.gL hle)

section
variable {P : Program} {tt : Table} (ht : TT P tt)
include ht
theorem uy {E : Env} {w : World} {a : Act} {st : St} (hs : bH E w a st) {o : Oper} {mem : List aC} {Q : V → Prop} {R : St → Prop} (h : oB P tt o { st with mem := mem } Q) (hQ : ∀ v, Q v → R (st.put o.dst v))
  (jD : ∀ v, iJ P tt { st with mem := mem } o = some v → ∃ x, (execOp a.eval o).run P w = .ok (.value x) w ∧ bC E v x)
  {ρ : Option Nat} {n : Nat} {next : Act → World → Prop} {Q' : Exit → Act → World → Prop} (hn : ∀ v w', zO E w a o.dst R v w' → next (a.put o.dst v) w') : o.wpIn (WF ρ) n P a w next Q' := by
 obtain ⟨dst, op, type, pos, after, guard⟩ := o
 have gen : ∀ (iK : ∀ c, op ≠ .defer c), (∀ f xs ts, op ≠ .call { callee := .value f, args := xs, argTypes := ts }) → (∀ T ps, op ≠ .build T ps) → (∀ T l ps, op ≠ .buildSlice T l ps) → Oper.wpIn (WF ρ) n P { dst := dst, op := op, type := type, pos := pos, after := after, guard := guard } a w next Q' := by
  intro iK h1 h2 h3
  have hv : ∃ v, iJ P tt { st with mem := mem } { dst := dst, op := op, type := type, pos := pos, after := after, guard := guard } = some v ∧ Q v := by
   unfold oB at h
   split at h
   ·rename_i heq; exact absurd heq (h1 _ _ _)
   ·unfold tf at h
    dsimp only at h
    split at h
    ·rename_i v hv
     split at hv
     ·exact absurd rfl (h2 _ _)
     ·exact absurd rfl (h3 _ _ _)
     ·exact ⟨v, hv, h⟩
    ·exact h.elim
  obtain ⟨v, hv, hq⟩ := hv
  obtain ⟨x, h4, h5⟩ := jD v hv
  exact bQ iK h4 (hn _ _ ⟨E, _, hs.put dst h5, ec.refl E w, hQ _ hq⟩)
 cases op
 case defer c => simp [oB, tf, iJ] at h
 case build T ps =>
  simp only [oB,tf,dd] at h
  split at h
  ·rename_i v hv
   obtain ⟨x, h1, h2⟩ := qa ht hs hv
   exact bQ (by simp) (bN h1) (hn _ _ ⟨E, _, hs.put dst h2, ec.refl E w, hQ _ h⟩)
  ·exact h.elim
 case buildSlice T len ps =>
  simp only [oB,tf,dd] at h
  split at h
  ·rename_i v hv
   split at hv
   ·rename_i size rs hl
    cases hv
    obtain ⟨Z, e, h1, h2, h3, h4⟩ := xL ht (fun p _ => hs.eval p.2) hl
    obtain ⟨E', h5, h6, h7⟩ := hs.HN (xs := Z) (rs := rs) (c := len) e (by omega) h4
    rw [h3] at h7
    exact bQ (by simp) (eY h1) (hn _ _ ⟨E', _, h5.put dst h7, h6, hQ _ h⟩)
   ·cases hv
  ·exact h.elim
 case call c =>
  obtain ⟨callee, args, ts⟩ := c
  cases callee with
  | value f =>
   simp only [oB,dd] at h
   split at h
   ·rename_i g vs hg
    obtain ⟨vs', r, h1, h2, h3⟩ := h
    obtain ⟨h4, h5⟩ := qk (mem := st.mem) h1
    obtain ⟨ys, h6, h7⟩ := nh (P := P) (w := w) (hs.eval f) (hs.lz args) hg
    have hc : sB P g vs st dst R := by
     rcases h2 with h2 | h2
     ·exact .inl ⟨vs', r, h4, h2, by rw [h5, aN]; exact hQ _ h3⟩
     ·refine .inr (.inr (.inr ⟨r, fun E1 w1 xs1 Cn G0 => ?_, hQ _ h3⟩))
      obtain ⟨x, g1, g2⟩ := h2 E1 w1 xs1 Cn (ql h1 G0)
      exact ⟨x, g1, g2⟩
    rcases sF hs hc h6 with ⟨h8, h9⟩ | ⟨v, h8, h9⟩
    ·refine sD (by simp) (f := g) (xs := ys) ?_ h9 fun e w' ⟨v, hv, ha⟩ => ⟨v, hv, hn _ _ ha⟩
     rw [← h8, ← h7]
     simp only [execOp,resolve]
    ·refine bQ (by simp) (v := v) ?_ (hn _ _ h9)
     rw [← h8, ← h7]
     simp only [execOp,resolve]
   ·exact h.elim
  | _ => exact gen (by simp) (by simp) (by simp) (by simp)
 all_goals exact gen (by simp) (by simp) (by simp) (by simp)

omit ht in
theorem qm {mem : List aC} {k : Nat} (h : mem[k]? = some .hole) (B : aC) : bO mem k B = mem.set k B := by
 unfold bO; rw [if_pos (List.getElem?_eq_some_iff.1 h).1]

theorem z7 {all : Array Oper} {base : Nat} {E : Env} {w : World} {a : Act} {st : St} (hs : bH E w a st) {i : Nat} {o : Oper} {p : Pl} {Q : St → Prop} (hi : all[i]? = some o) (h : dW P tt all base o p st Q)
  {ρ : Option Nat} {n : Nat} {next : Act → World → Prop} {Q' : Exit → Act → World → Prop} (hn : ∀ v w', zO E w a o.dst Q v w' → next (a.put o.dst v) w') : wpOpIn (WF ρ) n P all Q' i next a w := by
 unfold wpOpIn
 rw [hi]
 dsimp only
 unfold dW at h
 split at h
 ·rename_i hw
  rw [if_pos (js hs hw)]
  split at h
  ·rw [tq] at h; exact uy ht hs h (fun _ h => h) (fun v hv => n4 ht hs (L7 hv)) hn
  ·rw [tq] at h; exact uy ht hs h (fun _ h => h) (fun v hv => n4 ht (hs.ep _) hv) hn
  ·obtain ⟨hh, h⟩ := h
   rw [jb] at hh
   split at h
   ·rename_i B v hb
    refine eo ht hs (key := base + p.key) (.inl hh) ?_ hn
    unfold fJ at hb
    unfold bP
    split at hb
    ·rename_i T heq
     rw [heq]
     dsimp only
     split at hb
     ·rename_i i hi; cases hb; rw [hi]; dsimp only; rw [qm hh]; exact h
     ·cases hb
    ·rename_i heq
     rw [heq]
     dsimp only
     split at hb
     ·rename_i i hi; cases hb; rw [hi]; dsimp only; rw [qm hh]; exact h
     ·cases hb
    ·rename_i heq
     rw [heq]
     dsimp only
     split at hb
     ·rename_i i hi; cases hb; rw [hi]; dsimp only; rw [qm hh]; exact h
     ·cases hb
    ·rename_i heq
     rw [heq]
     dsimp only
     cases hb; rw [qm hh]; exact h
    ·rename_i heq
     rw [heq]
     dsimp only
     split at hb
     ·rename_i i hi; cases hb; rw [hi]; dsimp only; rw [qm hh]; exact h
     ·cases hb
    ·cases hb
   ·rw [wO] at h
    unfold mE at h
    split at h
    ·rename_i f xs ts heq
     split at h
     ·rename_i g vs hg
      obtain ⟨vs', e, rs, h1, h2, h3⟩ := h
      refine eo ht hs (key := base + p.key) (.inl hh) ?_ hn
      unfold bP
      rw [heq]
      dsimp only
      split
      ·rename_i k hk; rw [hk] at hg; simp [bD] at hg
      ·rw [hg]
       exact .inr (.inl ⟨_, _, h2.hole h1 hh, h3⟩)
     ·exact h.elim
    ·exact h.elim
  ·obtain ⟨hh, h⟩ := h
   rw [jb] at hh
   split at h
   ·rename_i m v hb
    refine eo ht hs (key := base + p.key) (.inl hh) ?_ hn
    unfold qg at hb
    unfold bP
    split at hb
    ·rename_i heq
     rw [heq]
     dsimp only
     split at hb
     ·rename_i i hi; cases hb; rw [hi]; exact h
     ·cases hb
    ·rename_i xs ts heq
     rw [heq]
     dsimp only
     split at hb
     ·rename_i s x LU
      rw [LU]
      dsimp only
      split at hb
      ·rename_i size o4 rows ha
       rw [ha]
       simp only [Option.some.injEq] at hb
       dsimp only
       rw [hb]; exact h
      ·cases hb
     ·cases hb
    ·rename_i heq
     rw [heq]
     dsimp only
     split at hb
     ·rename_i i hi; cases hb; rw [hi]; exact h
     ·cases hb
    ·rename_i heq
     rw [heq]
     dsimp only
     split at hb
     ·rename_i i hi; cases hb; rw [hi]; exact h
     ·cases hb
    ·cases hb
   ·exact h.elim
  ·split at h
   ·rename_i m hb
    refine eo ht hs (key := st.mem.length) (.inr rfl) ?_ hn
    unfold mL at hb
    unfold bP
    split at hb
    ·rename_i heq
     rw [heq]
     dsimp only
     split at hb
     ·rename_i b off hp
      split at hb
      ·rename_i hk
       subst hk
       rw [hp, hb]; exact h
      ·cases hb
     ·cases hb
    ·cases hb
   ·exact h.elim
  ·split at h
   ·rename_i v hb
    refine eo ht hs (key := st.mem.length) (.inr rfl) ?_ hn
    have ho := Fk (P := P) hb
    unfold mF at hb
    unfold bP
    split at hb
    ·rename_i heq
     rw [heq]
     dsimp only
     rw [ho]; exact h
    ·cases hb
   ·exact h.elim
  ·refine eo ht hs (key := st.mem.length) (.inr rfl) ?_ hn
   unfold lC at h
   unfold bP
   split at h
   ·rename_i f xs ts heq
    split at h
    ·rename_i g vs hg
     obtain ⟨vs', r, h1, h2, h3⟩ := h
     rw [heq]
     dsimp only
     split
     ·rename_i k hk; rw [hk] at hg; simp [bD] at hg
     ·rw [hg]
      exact .inl ⟨vs', r, h1, h2, h3⟩
    ·exact h.elim
   ·exact h.elim
  ·refine eo ht hs (key := st.mem.length) (.inr rfl) ?_ hn
   unfold qh at h
   unfold bP
   split at h
   ·rename_i f xs ts heq
    split at h
    ·rename_i g vs hg
     obtain ⟨v, B0, B, -, -, h1, h2, h3⟩ := h
     rw [heq]
     dsimp only
     split
     ·rename_i k hk; rw [hk] at hg; simp [bD] at hg
     ·rw [hg]
      exact .inr (.inl ⟨_, _, h2, h3⟩)
    ·exact h.elim
   ·split at h
    ·rename_i m hb
     unfold mL at hb
     split at hb
     ·rename_i heq
      rw [heq]
      dsimp only
      split at hb
      ·rename_i b off hp
       split at hb
       ·rename_i hk
        subst hk
        rw [hp, hb]; exact h
       ·cases hb
      ·cases hb
     ·cases hb
    ·exact h.elim
 ·rename_i hw
  rw [if_neg (by rw [js hs hw]; simp)]
  exact ⟨fun _ _ => trivial, hn _ _ ⟨E, _, hs.put o.dst (.sc _ _), ec.refl E w, h⟩⟩
 ·exact h.elim
end
end Go.Eng
end

section
namespace Go.Eng
variable [aA]

def X1 : Pl := ⟨.n, 0, [], [], []⟩
def kh (o : Oper) (k : Nat) : Bool := o.after.any fun e => Region.binds .any e && e.on == k
def nv (all : Array Oper) (y : Oper) (py : Pl) : Nat → List Oper → List Pl → Bool
 | _, [], _ => true
 | k, x :: r, px => (kh y k || py.N5.contains k || rM all x (px.headD X1) y py) && nv all y py (k + 1) r px.tail
def CA (o : Oper) (i : Nat) : Bool := o.after.all fun e => !Region.binds .any e || decide (e.on < i)
def nw (plan : List Pl) (i : Nat) : Pl := (plan[i]?).getD X1
def HO (plan : List Pl) (y : Oper) (py : Pl) : Bool := py.N5.all fun k => kh y k || y.after.any fun e => Region.binds .any e && (nw plan e.on).N5.contains k
def tr (all : Array Oper) (plan : List Pl) : Nat → List Oper → List Pl → Bool
 | _, [], _ => true
 | i, y :: r, py => CA y i && HO plan y (py.headD X1) && nv all y (py.headD X1) 0 (all.toList.take i) plan && tr all plan (i + 1) r py.tail
def qn (all : Array Oper) (plan : List Pl) : Bool := tr all plan 0 all.toList plan

theorem pd {α : Type} (l : List α) (i : Nat) (d : α) : (l.drop i).headD d = (l[i]?).getD d := by
 rw [List.headD_eq_head?_getD, List.head?_drop]

theorem qo {all : Array Oper} {y : Oper} {py : Pl} {plan : List Pl} : ∀ {l : List Oper} {n : Nat}, nv all y py n l (plan.drop n) = true → ∀ k x, l[k]? = some x → (kh y (n + k) = true ∨ (n + k) ∈ py.N5) ∨ rM all x (nw plan (n + k)) y py = true
 | [], n, _, k, x, h => by simp at h
 | z :: r, n, h, k, x, hk => by
  simp only [nv,Bool.and_eq_true,Bool.or_eq_true,pd] at h
  cases k with
  | zero => simp at hk; subst hk; simpa [nw] using h.1
  | succ k =>
   have h2 := h.2
   rw [List.tail_drop] at h2
   have := qo h2 k x (by simpa using hk)
   rw [Nat.add_assoc, Nat.add_comm 1 k] at this
   exact this
theorem sM {all : Array Oper} {plan : List Pl} : ∀ {l : List Oper} {n : Nat}, tr all plan n l (plan.drop n) = true → ∀ k y, l[k]? = some y → (CA y (n + k) = true ∧ HO plan y (nw plan (n + k)) = true) ∧ nv all y (nw plan (n + k)) 0 (all.toList.take (n + k)) plan = true
 | [], n, _, k, x, h => by simp at h
 | z :: r, n, h, k, x, hk => by
  simp only [tr,Bool.and_eq_true,pd] at h
  cases k with
  | zero => simp at hk; subst hk; exact h.1
  | succ k =>
   have h2 := h.2
   rw [List.tail_drop] at h2
   have := sM h2 k x (by simpa using hk)
   rw [Nat.add_assoc, Nat.add_comm 1 k] at this
   exact this
theorem lE {all : Array Oper} {plan : List Pl} (h : qn all plan = true) {i : Nat} {y : Oper} (hi : all[i]? = some y) :
  (∀ e ∈ y.after, Region.binds .any e = true → e.on < i) ∧ (∀ k ∈ (nw plan i).N5, kh y k = true ∨ ∃ e ∈ y.after, Region.binds .any e = true ∧ k ∈ (nw plan e.on).N5) ∧ ∀ k x, k < i → all[k]? = some x → (kh y k = true ∨ k ∈ (nw plan i).N5) ∨ rM all x (nw plan k) y (nw plan i) = true := by
 have := sM (n := 0) h i y (by simpa using hi)
 rw [Nat.zero_add] at this
 obtain ⟨⟨h1, h3⟩, h2⟩ := this
 refine ⟨fun e he hb => ?_, fun k hk => ?_, fun k x hk hx => ?_⟩
 ·unfold CA at h1
  have := Array.all_eq_true_iff_forall_mem.1 h1 e he
  simpa [hb] using this
 ·unfold HO at h3
  have := List.all_eq_true.1 h3 k hk
  rw [Bool.or_eq_true] at this
  refine this.imp id fun h => ?_
  rw [Array.any_eq_true'] at h
  obtain ⟨e, he, h⟩ := h
  rw [Bool.and_eq_true] at h
  exact ⟨e, he, h.1, by simpa using h.2⟩
 ·have := qo (n := 0) h2 k x (by rw [List.getElem?_take_of_lt hk]; simpa using hx)
  rwa [Nat.zero_add] at this

section
variable {P : Program} {tt : Table} {all : Array Oper} {plan : List Pl} {base : Nat}
def z8 (P : Program) (tt : Table) (all : Array Oper) (plan : List Pl) (base : Nat) : List Nat → St → (St → Prop) → Prop
 | [], st, K => K st
 | i :: r, st, K => match all[i]? with
  | some o => dW P tt all base o (nw plan i) st fun st' => z8 P tt all plan base r st' K
  | none => False
theorem uz {o : Oper} {p : Pl} {st : St} {K K' : St → Prop} (h : ∀ s, K s → K' s) (hh : dW P tt all base o p st K) : dW P tt all base o p st K' := by
 by_cases hz : p.cls = .z
 ·unfold dW at hh ⊢
  split at hh
  ·rw [hz] at hh ⊢
   exact ur hh h
  ·exact h _ hh
  ·exact hh.elim
 ·obtain ⟨v, m, h1, h2⟩ := (fC hz).1 hh
  exact (fC hz).2 ⟨v, m, h1, h _ h2⟩
theorem uA {i : Nat} {o : Oper} (hi : all[i]? = some o) {K : St → Prop} {σ2 : List Nat} : ∀ {σ1 : List Nat} {st : St}, (∀ k ∈ σ1, ∀ x, all[k]? = some x → rM all x (nw plan k) o (nw plan i) = true) →
  z8 P tt all plan base (σ1 ++ i :: σ2) st K → dW P tt all base o (nw plan i) st fun st' => z8 P tt all plan base (σ1 ++ σ2) st' K
 | [], st, _, h => by simpa [z8, hi] using h
 | k :: r, st, hp, h => by
  simp only [List.cons_append,z8] at h ⊢
  cases hk : all[k]? with
  | none => rw [hk] at h; exact h.elim
  | some x =>
   rw [hk] at h
   dsimp only at h ⊢
   exact Cw (hp k (by simp) x hk) (uz (fun s hs => uA hi (fun k' gD => hp k' (by simp [gD])) hs) h)

theorem qp {y : Oper} {k : Nat} {listed : Array Bool} (h : kh y k = true) (hl : ∀ e ∈ y.after, Region.binds .any e = true → listed.getD e.on false = true) : listed.getD k false = true := by
 unfold kh at h
 rw [Array.any_eq_true'] at h
 obtain ⟨e, he, h⟩ := h
 rw [Bool.and_eq_true, beq_iff_eq] at h
 rw [← h.2]; exact hl e he h.1

def HP (all : Array Oper) (listed : Array Bool) : Prop := ∀ (i : Nat) (o : Oper), listed.getD i false = true → all[i]? = some o → ∀ e ∈ o.after, Region.binds .any e = true → listed.getD e.on false = true
theorem CB (dx : qn all plan = true) {listed : Array Bool} (hc : HP all listed) (ka : listed.size = all.size) : ∀ (i : Nat) (y : Oper), all[i]? = some y → (∀ e ∈ y.after, Region.binds .any e = true → listed.getD e.on false = true) → ∀ k ∈ (nw plan i).N5, listed.getD k false = true := by
 intro i
 induction i using Nat.strongRecOn with
 | _ i ih =>
  intro y hy hl k hk
  rcases (lE dx hy).2.1 k hk with h | ⟨e, he, hb, h⟩
  ·exact qp h hl
  ·have h1 := hl e he hb
   have aZ : e.on < all.size := by
    have : e.on < i := (lE dx hy).1 e he hb
    have := (Array.getElem?_eq_some_iff.1 hy).1
    omega
   have hz := Array.getElem?_eq_getElem aZ
   exact ih e.on ((lE dx hy).1 e he hb) _ hz (hc e.on _ h1 hz) k h

theorem Aa (ht : TT P tt) (dx : qn all plan = true) {ρ : Option Nat} {n : Nat} {K : St → Prop} {Q' : Exit → Act → World → Prop} : ∀ (fuel : Nat) (listed : Array Bool) (σ : List Nat), listed.size = all.size → HP all listed → σ.length ≤ fuel → σ.Pairwise (· < ·) → (∀ i, i ∈ σ ↔ listed[i]? = some false) →
  ∀ {E : Env} {w : World} {a : Act} {st : St}, bH E w a st → z8 P tt all plan base σ st K → (∀ a' w', a'.defers = a.defers → (∃ E' st', bH E' w' a' st' ∧ ec E w E' w' ∧ K st') → Q' .normal a' w') → wpAnyIn (WF ρ) n P .any all Q' fuel listed a w := by
 intro fuel
 have done : ∀ (listed : Array Bool) (σ : List Nat), listed.size = all.size → σ.Pairwise (· < ·) → (∀ i, i ∈ σ ↔ listed[i]? = some false) → Region.ready .any all listed = [] → σ = [] := by
  intro listed σ ka wR lF hr
  cases σ with
  | nil => rfl
  | cons i r =>
   exfalso
   have X2 := (lF i).1 (by simp)
   have aZ : i < all.size := by rw [← ka]; exact (Array.getElem?_eq_some_iff.1 X2).1
   have : i ∈ Region.ready .any all listed := by
    refine mem_ready.2 ⟨by simp [Array.getD_eq_getD_getElem?, X2], all[i], Array.getElem?_eq_getElem aZ, fun e he hb => ?_⟩
    have O8 := (lE dx (Array.getElem?_eq_getElem aZ)).1 e he hb
    have hs : e.on < listed.size := by omega
    cases hv : listed[e.on] with
    | true => simp [Array.getD_eq_getD_getElem?, Array.getElem?_eq_getElem hs, hv]
    | false =>
     have : e.on ∈ i :: r := (lF e.on).2 (by rw [Array.getElem?_eq_getElem hs, hv])
     rcases List.mem_cons.1 this with h | h
     ·omega
     ·have := List.rel_of_pairwise_cons wR h; omega
   rw [hr] at this; cases this
 induction fuel with
 | zero =>
  intro listed σ ka mC hlen wR lF E w a st hs h hq
  have hσ : σ = [] := List.length_eq_zero_iff.1 (by omega)
  subst hσ
  refine ⟨?_, hq _ _ rfl ⟨E, st, hs, ec.refl E w, h⟩⟩
  cases hr : Region.ready .any all listed with
  | nil => rfl
  | cons j l =>
   have hj : j ∈ Region.ready .any all listed := by rw [hr]; simp
   obtain ⟨h0, o, ho, -⟩ := mem_ready.1 hj
   have aZ : j < listed.size := by rw [ka]; exact (Array.getElem?_eq_some_iff.1 ho).1
   have : j ∈ ([] : List Nat) := (lF j).2 (by
    rw [Array.getElem?_eq_getElem aZ]; congr 1
    simpa [Array.getD_eq_getD_getElem?, Array.getElem?_eq_getElem aZ] using h0)
   cases this
 | succ fuel ih =>
  intro listed σ ka mC hlen wR lF E w a st hs h hq
  refine ⟨fun hr => ?_, fun i hi => ?_⟩
  ·have := done listed σ ka wR lF hr
   subst this
   exact hq _ _ rfl ⟨E, st, hs, ec.refl E w, h⟩
  ·obtain ⟨h0, o, ho, PJ⟩ := mem_ready.1 hi
   have aZ : i < listed.size := by rw [ka]; exact (Array.getElem?_eq_some_iff.1 ho).1
   have X2 : listed[i]? = some false := by
    rw [Array.getElem?_eq_getElem aZ]; congr 1
    simpa [Array.getD_eq_getD_getElem?, Array.getElem?_eq_getElem aZ] using h0
   obtain ⟨σ1, σ2, rfl⟩ := List.append_of_mem ((lF i).2 X2)
   rw [List.pairwise_append] at wR
   obtain ⟨o0, GV, PK⟩ := wR
   rw [List.pairwise_cons] at GV
   have ig := uA ho (σ1 := σ1) (fun k hk x hx => by
    have hki : k < i := PK k hk i (by simp)
    rcases (lE dx ho).2.2 k x hki hx with hw | hw
    ·exfalso
     have h1 := hw.elim (fun hw => qp hw PJ) fun hw => CB dx mC ka i o ho PJ k hw
     have h2 := (lF k).1 (by simp [hk])
     rw [Array.getD_eq_getD_getElem?, h2] at h1
     cases h1
    ·exact hw) h
   refine z7 ht hs ho ig ?_
   rintro v w' ⟨E', st', h1, h2, h3⟩
   refine ih (listed.setIfInBounds i true) (σ1 ++ σ2) (by simpa using ka) ?_ ?_ ?_ ?_ h1 h3 fun a' w'' hd ⟨y2, Pr, h4, h5, h6⟩ => hq _ _ (hd.trans (put_defers _ _ _)) ⟨y2, Pr, h4, h2.trans h5, h6⟩
   ·intro j z hj hz e he hb
    by_cases Sc : j = i
    ·subst Sc
     rw [ho] at hz; cases hz
     exact getD_set_true (PJ e he hb)
    ·rw [getD_set_ne false (fun e => Sc e.symm)] at hj
     exact getD_set_true (mC j z hj hz e he hb)
   ·simp at hlen ⊢; omega
   ·rw [List.pairwise_append]
    exact ⟨o0, GV.2, fun x hx y hy => PK x hx y (by simp [hy])⟩
   ·intro j
    rw [Array.getElem?_setIfInBounds]
    by_cases Sc : i = j
    ·subst Sc
     rw [if_pos rfl]
     constructor
     ·intro hj
      rcases List.mem_append.1 hj with h | h
      ·have := PK i h i (by simp); omega
      ·have := GV.1 i h; omega
     ·split
      ·intro h; cases h
      ·intro h; cases h
    ·rw [if_neg Sc, ← lF j]
     simp only [List.mem_append,List.mem_cons]
     constructor
     ·rintro (h | h)
      ·exact .inl h
      ·exact .inr (.inr h)
     ·rintro (h | h | h)
      ·exact .inl h
      ·exact absurd h.symm Sc
      ·exact .inr h

def runM (P : Program) (tt : Table) (all : Array Oper) (base : Nat) : List Oper → List Pl → St → (St → Prop) → Prop
 | [], _, st, K => K st
 | o :: r, p :: ps, st, K => dW P tt all base o p st fun st' => runM P tt all base r ps st' K
 | _ :: _, [], _, _ => False
@[congr] theorem PL {base N7 : Nat} {l : List Oper} {ps : List Pl} {st st' : St} {K : St → Prop} (hb : base = N7) (h : st = st') : runM P tt all base l ps st K = runM P tt all N7 l ps st' K := by rw [hb, h]
theorem HQ {K : St → Prop} : ∀ {l : List Oper} {n : Nat} {st : St}, (∀ k x, l[k]? = some x → all[n + k]? = some x) → runM P tt all base l (plan.drop n) st K → z8 P tt all plan base (List.range' n l.length) st K
 | [], n, st, _, h => h
 | o :: r, n, st, cK, h => by
  have ho : all[n]? = some o := cK 0 o rfl
  rw [List.length_cons, List.range'_succ, z8, ho]
  dsimp only
  cases hd : plan.drop n with
  | nil => rw [hd] at h; exact h.elim
  | cons p ps =>
   rw [hd] at h
   have hp : nw plan n = p := by rw [nw, ← pd, hd]; rfl
   have Sd : ps = plan.drop (n + 1) := by rw [← List.tail_drop, hd]; rfl
   rw [hp]
   subst Sd
   exact uz (fun s hs => HQ (fun k x hk => by have := cK (k + 1) x (by simpa using hk); rwa [show n + (k + 1) = n + 1 + k by omega] at this) hs) h

theorem bH.Tr {E : Env} {w : World} {a : Act} {st : St} (hs : bH E w a st) (m : Nat) : bH E w a { st with mem := st.mem ++ List.replicate m .hole } := by
 have get : ∀ {k : Nat} {B : aC}, (st.mem ++ List.replicate m .hole)[k]? = some B → st.mem[k]? = some B ∨ (B = aC.hole ∧ st.mem.length ≤ k) := fun {k B} h => by
  rcases Nat.lt_or_ge k st.mem.length with hk | hk
  ·rw [List.getElem?_append_left hk] at h; exact .inl h
  ·rw [List.getElem?_append_right hk, List.getElem?_replicate] at h
   split at h
   ·cases h; exact .inr ⟨rfl, hk⟩
   ·cases h
 refine ⟨hs.F, hs.lt, fun k B hk => ?_, fun k hk => hs.top k (by simp at hk; omega), fun k B hk v hv => ?_, hs.apart, hs.fr⟩
 ·rcases get hk with h | ⟨rfl, c6⟩
  ·exact hs.mem k B h
  ·exact fun v => hs.top k c6 v
 ·rcases get hk with h | ⟨rfl, c6⟩
  ·exact hs.b7 k B h v hv
  ·exact hs.top k c6 v

theorem lG (ht : TT P tt) (hm : P.follows .mixedOrders = true) {ρ : Option Nat} {n0 : Nat} {st : St} {Q : Exit → St → Prop} (plan : List Pl) (m : Nat) {id : Nat} {ops : Array Oper} (dx : qn ops plan = true)
  (h : runM P tt ops st.mem.length ops.toList plan { st with mem := st.mem ++ List.replicate m .hole } (Q .normal)) : cD P ρ n0 (.region id ops true) st Q := fun E0 w0 h0 E w a he hs y3 => by
 refine wpIn_region_any hm ?_
 have hd : bH E { w with drawn := w.drawn + 1 } a { st with mem := st.mem ++ List.replicate m .hole } := (hs.drew (w := w)).Tr m
 have hI := HQ (all := ops) (plan := plan) (n := 0) (l := ops.toList) (fun k x hk => by rw [Nat.zero_add]; simpa using hk) h
 rw [← List.range_eq_range'] at hI
 refine Aa (P := P) (tt := tt) ht dx ops.size _ (List.range ops.toList.length) (by simp) (fun j z hj => by simp [Array.getD_eq_getD_getElem?, Array.getElem?_replicate] at hj; split at hj <;> simp at hj) (by simp) (List.pairwise_lt_range) (fun i => ?_) hd hI fun a' w' hdf ⟨E', st', h1, h2, h3⟩ => ⟨E', st', h1, (he.trans (ec.drew E w)).trans h2, ?_, h3⟩
 ·simp only [List.mem_range,Array.getElem?_replicate]
  simp
 ·rw [hdf]; exact (y3.G4 (ec.drew E w)).G4 h2
theorem wo (ht : TT P tt) (hm : P.follows .mixedOrders = true) {ρ : Option Nat} {n0 : Nat} {st : St} {Q : Exit → St → Prop} (plan : List Pl) (m : Nat) {id : Nat} {ops : Array Oper} {y : Code} (dx : qn ops plan = true)
  (h : ∀ K : St → Prop, (∀ st', cD P ρ n0 y st' Q → K st') → runM P tt ops st.mem.length ops.toList plan { st with mem := st.mem ++ List.replicate m .hole } K) : cD P ρ n0 (.seq (.region id ops true) y) st Q :=
 aS (lG ht hm plan m dx (h (fun st' => cD P ρ n0 y st' Q) fun _ h => h))
theorem nx (ht : TT P tt) (hm : P.follows .mixedOrders = true) {ρ : Option Nat} {n0 : Nat} {st : St} {Q : Exit → St → Prop} (plan : List Pl) (m : Nat) {id : Nat} {ops : Array Oper} (dx : qn ops plan = true)
  (h : ∀ K : St → Prop, (∀ st', Q .normal st' → K st') → runM P tt ops st.mem.length ops.toList plan { st with mem := st.mem ++ List.replicate m .hole } K) : cD P ρ n0 (.region id ops true) st Q :=
 lG ht hm plan m dx (h (Q .normal) fun _ h => h)
end
end Go.Eng
end

section
namespace Go.Eng
variable [aA]
open Go.RowKit (Below)

def l7 : aC → Bool
 | .rows _ _ _ => true
 | .pV _ _ _ => true
 | .dead => true
 | .hole => true
 | _ => false

theorem aF.live {P : Program} {f : FuncId} {vs vs' : List V} {b v s l : Nat} {aQ : List aC} (hp : dq [] vs = some vs') (h : aF P f vs' [] (.ms b v s l) aQ) (hm : aQ.all l7 = true) (mem : List aC) :
  aF P f vs mem (.ms (mem.length + b) v s l) (mem ++ aQ) := by
 refine ⟨h.1, fun E w xs hs hx => ?_⟩
 obtain ⟨N1, hk⟩ := qk (mem := mem) hp
 have h1 := iZ hs (keys := []) hx N1 (by rw [hk]; simp)
 have hE : (E.lR w []).pure = ⟨E.F, fun _ _ => none, E.gl⟩ := by
  refine Env.E4 (funext fun ad => ?_) rfl
  simp only [Env.pure,Env.lR]
  cases hh : E.F ad <;> simp
 rw [hE] at h1
 have o0 : bH ⟨E.F, fun _ _ => none, E.gl⟩ w { tmps := #[], defers := [] } { fr := [], mem := [] } :=
  ⟨hs.F, (fun k v g e c h => by cases h), (fun k B h => by simp at h), (fun k _ v => rfl), (fun k B h => by simp at h), (fun k k' v v' g e c e' c' h => by cases h), .nil _⟩
 refine (h.2 _ w xs o0 h1).mono ?_
 rintro en w' ⟨E', x, rfl, ea, lS, hr⟩
 have kZ : ∀ k v g e c, E'.bd k v = some (g, e, c) → w.heap.size ≤ g := fun k v g e c hb => by
  rcases ea.bd _ _ _ _ _ hb with ⟨_, _, _, _, h⟩ | h
  ·cases h
  ·exact h
 have hold : ∀ b, b < w.heap.size → w'.heap[b]? = w.heap[b]? := fun b hb => ea.heap b hb fun _ _ _ _ h => by cases h
 have Tp : ∀ ad y, E'.F ad = some y → E.F ad = some y ∨ w.heap.size ≤ ad.block := fun ad y hy => by
  rcases ea.F _ _ hy with h | h | ⟨_, _, _, _, h⟩
  ·exact .inl h
  ·exact .inr h
  ·cases h
 have mR : ∀ k v, k < mem.length → (⟨E'.F, fun k v => if k < mem.length then E.bd k v else E'.bd (k - mem.length) v, E'.gl⟩ : Env).bd k v = E.bd k v := fun k v hk => if_pos hk
 have pW : ∀ k v, mem.length ≤ k → (⟨E'.F, fun k v => if k < mem.length then E.bd k v else E'.bd (k - mem.length) v, E'.gl⟩ : Env).bd k v = E'.bd (k - mem.length) v := fun k v hk => if_neg (by omega)
 generalize Tq : (⟨E'.F, fun k v => if k < mem.length then E.bd k v else E'.bd (k - mem.length) v, E'.gl⟩ : Env) = E2 at mR pW
 have gg : E2.F = E'.F := by rw [← Tq]
 have wH : E2.pure = E'.pure := Env.E4 gg rfl
 have hle : E.le E2 := ⟨fun ad y hy => by rw [gg]; exact ea.le.F _ _ hy, fun k v t hk => by
  rcases Nat.lt_or_ge k mem.length with c6 | c6
  ·rw [mR k v c6]; exact hk
  ·rw [hs.top k c6 v] at hk; cases hk⟩
 have get : ∀ {k : Nat} {B : aC}, (mem ++ aQ)[k]? = some B → (k < mem.length ∧ mem[k]? = some B) ∨ (mem.length ≤ k ∧ aQ[k - mem.length]? = some B) := fun {k B} h => by
  rcases Nat.lt_or_ge k mem.length with hk | hk
  ·rw [List.getElem?_append_left hk] at h; exact .inl ⟨hk, h⟩
  ·rw [List.getElem?_append_right hk] at h; exact .inr ⟨hk, h⟩
 refine ⟨E2, x, rfl, ⟨hle, fun k v g e c hk => ?_, fun ad y hy => ?_, ea.os, ea.tape, ea.output, ea.size, fun b hb _ => hold b hb⟩, ⟨fun ad y hy => lS.F _ _ (by rw [← gg]; exact hy), fun k v g e c hk => ?_, fun k B hk => ?_, fun k hk v => ?_, fun k B hk v hv => ?_, fun k k' v v' g e1 c1 e2 c2 h5 h6 => ?_, .nil _⟩, ?_⟩
 ·rcases Nat.lt_or_ge k mem.length with c6 | c6
  ·rw [mR k v c6] at hk; exact .inl ⟨k, v, e, c, hk⟩
  ·rw [pW k v c6] at hk; exact .inr (kZ _ _ _ _ _ hk)
 ·rw [gg] at hy
  rcases Tp ad y hy with h | h
  ·exact .inl h
  ·exact .inr (.inl h)
 ·rcases Nat.lt_or_ge k mem.length with c6 | c6
  ·rw [mR k v c6] at hk; have := hs.lt _ _ _ _ _ hk; have := ea.size; omega
  ·rw [pW k v c6] at hk; exact lS.lt _ _ _ _ _ hk
 ·rcases get hk with ⟨c6, hB⟩ | ⟨c6, hB⟩
  ·refine (hs.mem k B hB).mono hle (fun v hv => by rw [mR k v c6]; exact hv) (fun g e c hb => hold g (hs.lt _ _ _ _ _ hb)) fun g e c o hb hn => ?_
   rw [gg]
   cases hy : E'.F ⟨g, o, none⟩ with
   | none => rfl
   | some y =>
    rcases Tp _ y hy with h | h
    ·rw [hn] at h; cases h
    ·have := hs.lt _ _ _ _ _ hb; simp at h; omega
  ·have hl := List.all_eq_true.1 hm B (List.mem_of_getElem? hB)
   have h0 := lS.mem _ B hB
   cases B with
   | hole => exact fun v => by rw [pW k v c6]; exact h0 v
   | dead => trivial
   | box cs => simp [l7] at hl
   | loop s p fr ps a b => simp [l7] at hl
   | map bV clock => simp [l7] at hl
   | fh m since seen last => simp [l7] at hl
   | jP s pos => simp [l7] at hl
   | j7 => simp [l7] at hl
   | rows v e rs =>
    rcases h0 with ⟨h1, h2⟩ | ⟨g, T, ys, c, h1, h2, h3, h4, h5, h6⟩
    ·exact .inl ⟨h1, by rw [pW k v c6]; exact h2⟩
    ·exact .inr ⟨g, T, ys, c, by rw [pW k v c6]; exact h1, h2, h3, h4, by rw [wH]; exact h5, fun o => by rw [gg]; exact h6 o⟩
   | pV v e rs =>
    rcases h0 with ⟨h1, h2⟩ | ⟨g, c, h1, h2, h3⟩
    ·exact .inl ⟨h1, by rw [pW k v c6]; exact h2⟩
    ·exact .inr ⟨g, c, by rw [pW k v c6]; exact h1, h2, by rw [wH, gg]; exact h3⟩
 ·dsimp only at hk
  simp only [List.length_append] at hk
  rw [pW k v (by omega)]; exact lS.top _ (by dsimp only; omega) v
 ·rcases get hk with ⟨c6, hB⟩ | ⟨c6, hB⟩
  ·rw [mR k v c6]; exact hs.b7 k B hB v hv
  ·rw [pW k v c6]; exact lS.b7 _ B hB v hv
 ·rcases Nat.lt_or_ge k mem.length with ff | ff <;> rcases Nat.lt_or_ge k' mem.length with iU | iU
  ·rw [mR k _ ff] at h5; rw [mR k' _ iU] at h6
   exact hs.apart _ _ _ _ _ _ _ _ _ h5 h6
  ·rw [mR k _ ff] at h5; rw [pW k' _ iU] at h6
   have := hs.lt _ _ _ _ _ h5; have := kZ _ _ _ _ _ h6; omega
  ·rw [pW k _ ff] at h5; rw [mR k' _ iU] at h6
   have := hs.lt _ _ _ _ _ h6; have := kZ _ _ _ _ _ h5; omega
  ·rw [pW k _ ff] at h5; rw [pW k' _ iU] at h6
   have := lS.apart _ _ _ _ _ _ _ _ _ h5 h6
   omega
 ·cases hr with
  | ms _ b v s l g e c a cap hb hl h0 hc => exact .ms _ _ _ _ _ g e c _ _ (by rw [pW _ v (by omega), Nat.add_sub_cancel_left]; exact hb) hl h0 hc
  | eN => exact .eN _ _ _ _

theorem bH.qq {E : Env} {w : World} {a : Act} {st : St} (hs : bH E w a st) (v e : Nat) : bH E w a { st with mem := st.mem ++ [.rows v e []] } := by
 have get : ∀ {k : Nat} {B : aC}, (st.mem ++ [aC.rows v e []])[k]? = some B → st.mem[k]? = some B ∨ (B = aC.rows v e [] ∧ st.mem.length ≤ k) := fun {k B} h => by
  rcases Nat.lt_or_ge k st.mem.length with hk | hk
  ·rw [List.getElem?_append_left hk] at h; exact .inl h
  ·rw [List.getElem?_append_right hk] at h
   cases c6 : k - st.mem.length with
   | zero => rw [c6] at h; cases h; exact .inr ⟨rfl, hk⟩
   | succ j => rw [c6] at h; cases h
 refine ⟨hs.F, hs.lt, fun k B hk => ?_, fun k hk => hs.top k (by simp at hk; omega), fun k B hk v hv => ?_, hs.apart, hs.fr⟩
 ·rcases get hk with h | ⟨rfl, c6⟩
  ·exact hs.mem k B h
  ·exact .inl ⟨rfl, hs.top k c6 v⟩
 ·rcases get hk with h | ⟨rfl, c6⟩
  ·exact hs.b7 k B h v hv
  ·exact hs.top k c6 v
theorem bH.Ab {E : Env} {w : World} {a : Act} {st : St} (hs : bH E w a st) {i : Nat} (b v : Nat) (h : st.fr[i]? = some (.sc (.slice none 0 0))) : bH E w a { st with fr := st.fr.set i (.ms b v 0 0) } := hs.LV h
theorem j2 {P : Program} {ρ : Option Nat} {n0 : Nat} {c : Code} {st : St} {Q : Exit → St → Prop} (i v e : Nat) (h0 : st.fr[i]? = some (.sc (.slice none 0 0))) (h : cD P ρ n0 c { fr := st.fr.set i (.ms st.mem.length v 0 0), mem := st.mem ++ [.rows v e []] } Q) : cD P ρ n0 c st Q :=
 nj (fun E w a hs => (hs.Ab (i := i) st.mem.length v h0).qq v e) h
theorem uB {E E' : Env} {w w' : World} {mem aQ l : List aC} (hs : bH E w { tmps := #[], defers := [] } { fr := [], mem := mem ++ l }) (Y6 : ec (E.cut mem.length) w E' w') (G5 : bH E' w' { tmps := #[], defers := [] } { fr := [], mem := aQ })
  (hlen : aQ.length = mem.length) (hb : aQ.all (az mem.length) = true) : ∃ E2, ec E w E2 w' ∧ bH E2 w' { tmps := #[], defers := [] } { fr := [], mem := aQ ++ l } ∧ (E'.cut mem.length).le E2 := by
 have o0 := G5.cut (n := mem.length) rfl (by rw [List.take_of_length_le (by dsimp only; omega)]; exact hb)
 rw [List.take_of_length_le (by dsimp only; omega)] at o0
 dsimp only at o0
 have Ac : ∀ k, mem.length ≤ k → ∀ v, (E.cut mem.length).bd k v = none := fun k hk v => if_neg (by omega)
 have ea : ec (E.cut mem.length) w (E'.cut mem.length) w' := Y6.cut Ac
 have kX : ∀ k v t, (E.cut mem.length).bd k v = some t → k < mem.length ∧ E.bd k v = some t := fun k v t h => by
  rcases Nat.lt_or_ge k mem.length with hk | hk
  ·exact ⟨hk, (if_pos hk).symm.trans h⟩
  ·rw [Ac k hk] at h; cases h
 have Ts : ∀ k v t, (E'.cut mem.length).bd k v = some t → k < mem.length := fun k v t h => by
  rcases Nat.lt_or_ge k mem.length with hk | hk
  ·exact hk
  ·have h0 : (E'.cut mem.length).bd k v = none := if_neg (by omega)
   rw [h0] at h; cases h
 generalize aep : E'.cut mem.length = y2 at o0 ea Ts
 have mR : ∀ k v, k < mem.length → (⟨y2.F, fun k v => if k < mem.length then y2.bd k v else E.bd k v, y2.gl⟩ : Env).bd k v = y2.bd k v := fun k v hk => if_pos hk
 have pW : ∀ k v, mem.length ≤ k → (⟨y2.F, fun k v => if k < mem.length then y2.bd k v else E.bd k v, y2.gl⟩ : Env).bd k v = E.bd k v := fun k v hk => if_neg (by omega)
 generalize Tq : (⟨y2.F, fun k v => if k < mem.length then y2.bd k v else E.bd k v, y2.gl⟩ : Env) = E2 at mR pW
 have gg : E2.F = y2.F := by rw [← Tq]
 have mC : ∀ k v t, k < mem.length → E.bd k v = some t → (E.cut mem.length).bd k v = some t := fun k v t hk h => (if_pos hk).trans h
 have hle : E.le E2 := ⟨fun ad y hy => by rw [gg]; exact ea.le.F _ _ hy, fun k v t hk => by
  rcases Nat.lt_or_ge k mem.length with c6 | c6
  ·rw [mR k v c6]; exact ea.le.bd _ _ _ (mC _ _ _ c6 hk)
  ·rw [pW k v c6]; exact hk⟩
 have Tt : y2.le E2 := ⟨fun ad y hy => by rw [gg]; exact hy, fun k v t hk => by rw [mR k v (Ts _ _ _ hk)]; exact hk⟩
 have uf : ∀ k v g e c, mem.length ≤ k → E.bd k v = some (g, e, c) → ∀ k0 v0 e0 c0, (E.cut mem.length).bd k0 v0 ≠ some (g, e0, c0) := fun k v g e c hk hb k0 v0 e0 c0 h => by
  obtain ⟨h1, h2⟩ := kX _ _ _ h
  have := hs.apart _ _ _ _ _ _ _ _ _ h2 hb
  omega
 have get : ∀ {k : Nat} {B : aC}, (aQ ++ l)[k]? = some B → (k < mem.length ∧ aQ[k]? = some B) ∨ (mem.length ≤ k ∧ (mem ++ l)[k]? = some B) := fun {k B} h => by
  rcases Nat.lt_or_ge k mem.length with hk | hk
  ·rw [List.getElem?_append_left (by omega)] at h; exact .inl ⟨hk, h⟩
  ·rw [List.getElem?_append_right (by omega), hlen] at h
   exact .inr ⟨hk, by rw [List.getElem?_append_right hk]; exact h⟩
 refine ⟨E2, ⟨hle, fun k v g e c hk => ?_, fun ad y hy => ?_, ea.os, ea.tape, ea.output, ea.size, fun b hb ch => ea.heap b hb fun k v e c h => ch _ _ _ _ (kX _ _ _ h).2⟩, ⟨fun ad y hy => o0.F _ _ (by rw [← gg]; exact hy), fun k v g e c hk => ?_, fun k B hk => ?_, fun k hk v => ?_, fun k B hk v hv => ?_, fun k k' v v' g e1 c1 e2 c2 h5 h6 => ?_, .nil _⟩, Tt⟩
 ·rcases Nat.lt_or_ge k mem.length with c6 | c6
  ·rw [mR k v c6] at hk
   rcases ea.bd _ _ _ _ _ hk with ⟨k0, v0, e0, c0, h⟩ | h
   ·exact .inl ⟨_, _, _, _, (kX _ _ _ h).2⟩
   ·exact .inr h
  ·rw [pW k v c6] at hk; exact .inl ⟨_, _, _, _, hk⟩
 ·rw [gg] at hy
  rcases ea.F _ _ hy with h | h | ⟨k0, v0, e0, c0, h⟩
  ·exact .inl h
  ·exact .inr (.inl h)
  ·exact .inr (.inr ⟨_, _, _, _, (kX _ _ _ h).2⟩)
 ·rcases Nat.lt_or_ge k mem.length with c6 | c6
  ·rw [mR k v c6] at hk; exact o0.lt _ _ _ _ _ hk
  ·rw [pW k v c6] at hk; exact Nat.lt_of_lt_of_le (hs.lt _ _ _ _ _ hk) ea.size
 ·rcases get hk with ⟨c6, hB⟩ | ⟨c6, hB⟩
  ·exact (o0.mem k B hB).mono Tt (fun v hv => by rw [mR k v c6]; exact hv) (fun _ _ _ _ => rfl) fun g e c o _ hn => by rw [gg]; exact hn
  ·refine (hs.mem k B hB).mono hle (fun v hv => by rw [pW k v c6]; exact hv) (fun g e c hb => ea.heap g (hs.lt _ _ _ _ _ hb) fun k0 v0 e0 c0 h => uf _ _ _ _ _ c6 hb _ _ _ _ h) fun g e c o hb hn => ?_
   rw [gg]
   cases hy : y2.F ⟨g, o, none⟩ with
   | none => rfl
   | some y =>
    rcases ea.F _ _ hy with h | h | ⟨k0, v0, e0, c0, h⟩
    ·have h' : E.F ⟨g, o, none⟩ = some y := h
     rw [hn] at h'; cases h'
    ·have := hs.lt _ _ _ _ _ hb; simp at h; omega
    ·exact absurd h (uf _ _ _ _ _ c6 hb _ _ _ _)
 ·dsimp only at hk
  simp only [List.length_append] at hk
  rw [pW k v (by omega)]; exact hs.top k (by simp; omega) v
 ·rcases get hk with ⟨c6, hB⟩ | ⟨c6, hB⟩
  ·rw [mR k v c6]; exact o0.b7 k B hB v hv
  ·rw [pW k v c6]; exact hs.b7 k B hB v hv
 ·have mixed : ∀ k k' v v' g e1 c1 e2 c2, k < mem.length → mem.length ≤ k' → y2.bd k v = some (g, e1, c1) → E.bd k' v' = some (g, e2, c2) → k = k' := fun k k' v v' g e1 c1 e2 c2 hk gD h h' => by
   rcases ea.bd _ _ _ _ _ h with ⟨k0, v0, e0, c0, h0⟩ | h0
   ·exact absurd h0 (uf _ _ _ _ _ gD h' _ _ _ _)
   ·have := hs.lt _ _ _ _ _ h'; omega
  rcases Nat.lt_or_ge k mem.length with ff | ff <;> rcases Nat.lt_or_ge k' mem.length with iU | iU
  ·rw [mR k _ ff] at h5; rw [mR k' _ iU] at h6
   exact o0.apart _ _ _ _ _ _ _ _ _ h5 h6
  ·rw [mR k _ ff] at h5; rw [pW k' _ iU] at h6
   exact mixed _ _ _ _ _ _ _ _ _ ff iU h5 h6
  ·rw [pW k _ ff] at h5; rw [mR k' _ iU] at h6
   exact (mixed _ _ _ _ _ _ _ _ _ iU ff h6 h5).symm
  ·rw [pW k _ ff] at h5; rw [pW k' _ iU] at h6
   exact hs.apart _ _ _ _ _ _ _ _ _ h5 h6

theorem Ad {E : Env} {w : World} {mem l : List aC} (hs : bH E w { tmps := #[], defers := [] } { fr := [], mem := mem ++ l }) (hb : mem.all (az mem.length) = true) : bH (E.cut mem.length) w { tmps := #[], defers := [] } { fr := [], mem := mem } := by
 have h := hs.cut (n := mem.length) rfl (by rw [List.take_left]; exact hb)
 rwa [List.take_left] at h
theorem bo.below {E : Env} {n : Nat} {vs : List V} {xs : List Value} (h : bo E vs xs) (hb : vs.all (au n) = true) : bo (E.cut n) vs xs :=
 ⟨h.1, fun i v x hv hx => e9 (h.2 i v x hv hx) (List.all_eq_true.1 hb v (List.mem_of_getElem? hv))⟩

theorem aF.frame {P : Program} {f : FuncId} {vs : List V} {r : V} {mem aQ : List aC} (h : aF P f vs mem r aQ) (hv : vs.all (au mem.length) = true) (hm : mem.all (az mem.length) = true) (hr : au mem.length r = true) (hlen : aQ.length = mem.length) (PM : aQ.all (az mem.length) = true) (l : List aC) :
  aF P f vs (mem ++ l) r (aQ ++ l) := by
 refine ⟨h.1, fun E w xs hs hx => ?_⟩
 refine (h.2 _ w xs (Ad hs hm) (hx.below hv)).mono ?_
 rintro en w' ⟨E', x, rfl, ea, lS, jX⟩
 obtain ⟨E2, h1, h2, h3⟩ := uB hs ea lS hlen PM
 exact ⟨E2, x, rfl, h1, h2, (e9 jX hr).mono h3⟩
theorem BW.frame {P : Program} {k : Nat} {vs : List V} {mem aQ : List aC} {b : Bool} (h : BW P k vs mem b aQ) (hk : k < mem.length) (hv : vs.all (au mem.length) = true) (hm : mem.all (az mem.length) = true) (hlen : aQ.length = mem.length) (PM : aQ.all (az mem.length) = true) (l : List aC) :
  BW P k vs (mem ++ l) b (aQ ++ l) := by
 intro E w xs lp e c hs hx hb
 obtain ⟨fn, tmps, assign, body, h1, h2⟩ := h _ w xs lp e c (Ad hs hm) (hx.below hv) ((if_pos hk).trans hb)
 refine ⟨fn, tmps, assign, body, h1, h2.mono ?_⟩
 rintro en w' ⟨E', rfl, ea, lS⟩
 obtain ⟨E2, h3, h4, -⟩ := uB hs ea lS hlen PM
 exact ⟨E2, rfl, h3, h4⟩
mutual
theorem kO {n m : Nat} (h : n ≤ m) : ∀ {v : V}, au n v = true → au m v = true
 | .ms _ _ _ _, hv => by simp [au] at hv ⊢; omega
 | .ptr _ _, hv => by simp [au] at hv ⊢; omega
 | .fP _, hv => by simp [au] at hv ⊢; omega
 | .mp _, hv => by simp [au] at hv ⊢; omega
 | .dZ _ _ _ _, hv => by simp [au] at hv ⊢; omega
 | .undef, _ => rfl
 | .sc _, _ => rfl
 | .slice _, _ => rfl
 | .cH _, _ => rfl
 | .gn, _ => rfl
 | .full _, _ => rfl
 | .agg cs, hv => by simp only [au] at hv ⊢; exact jy h hv
 | .cC cs, hv => by simp only [au] at hv ⊢; exact jy h hv
 | .bp f a b, hv => by simp only [au,Bool.and_eq_true] at hv ⊢; exact ⟨jy h hv.1, jy h hv.2⟩
theorem jy {n m : Nat} (h : n ≤ m) : ∀ {l : List V}, aD n l = true → aD m l = true
 | [], _ => rfl
 | c :: r, hv => by simp only [aD,Bool.and_eq_true] at hv ⊢; exact ⟨kO h hv.1, jy h hv.2⟩
end
theorem sN {n m : Nat} (h : n ≤ m) {B : aC} (hv : az n B = true) : az m B = true := by
 cases B with
 | box cs => simp only [az,List.all_eq_true] at hv ⊢; exact fun x hx => kO h (hv x hx)
 | loop a b fr c d e => simp only [az,List.all_eq_true] at hv ⊢; exact fun x hx => kO h (hv x hx)
 | map bV c => simp only [az,List.all_eq_true] at hv ⊢; exact fun x hx => kO h (hv x hx)
 | fh m s se l => simp only [az,decide_eq_true_eq] at hv ⊢; omega
 | _ => rfl
theorem l8 {n m : Nat} (h : n ≤ m) {l : List aC} (hv : l.all (az n) = true) : l.all (az m) = true := List.all_eq_true.2 fun x hx => sN h (List.all_eq_true.1 hv x hx)
theorem Tu : (false == true) = false := rfl
theorem Tv : (true == false) = false := rfl
theorem L8 (mem : List aC) (ts : Array TypeId) (P : Program) (r : List V) : rA mem ts P [.slice r] = none := rfl
theorem L9 (mem : List aC) (ts : Array TypeId) (P : Program) (b v s l : Nat) : rA mem ts P [.ms b v s l] = none := rfl
theorem Ma (mem : List aC) (ts : Array TypeId) (P : Program) (x : Value) : rA mem ts P [.sc x] = none := rfl
end Go.Eng
end

section
namespace Go.Eng
variable [aA]
theorem ki {α : Type} {l : List α} {t : Nat} {x : α} (h : l[t]? = some x) : l.set t x = l := by
 apply List.ext_getElem?
 intro i
 rw [List.getElem?_set]
 split
 ·rename_i hi; subst hi
  rw [if_pos (List.getElem?_eq_some_iff.1 h).1, h]
 ·rfl
section
variable {P : Program} {ρ : Option Nat} {n0 : Nat} {Q : Exit → St → Prop} {c : Code} {st : St}
theorem bH.rP {E : Env} {w : World} {a : Act} (hs : bH E w a st) {k t : Nat} {cs : List V} (hk : st.mem[k]? = some (.box cs)) (hp : cs.all eO = true) (h0 : st.fr[t]? = some (.ptr k 0)) :
  ∃ E', bH E' w a { fr := st.fr.set t (.cH cs), mem := st.mem.set k .dead } ∧ ec E w E' w := by
 obtain ⟨g, T, xs, hb, hh, hr, hf⟩ := hs.mem k _ hk
 have hF : ∀ ad x, E.F ad = some x → (if ad.block = g then w.cell? ad else E.F ad) = some x := fun ad x h => by
  split
  ·exact hs.F ad x h
  ·exact h
 obtain ⟨E', hE⟩ : ∃ E' : Env, E' = { F := fun ad => if ad.block = g then w.cell? ad else E.F ad, bd := E.bd, gl := E.gl.mono hF } := ⟨_, rfl⟩
 have eF : ∀ ad, E'.F ad = if ad.block = g then w.cell? ad else E.F ad := fun ad => by rw [hE]
 have eb : E'.bd = E.bd := by rw [hE]
 have hle : E.le E' := ⟨fun ad x h => by rw [eF]; exact hF ad x h, fun _ _ _ h => by rw [eb]; exact h⟩
 obtain ⟨x, hx, Tw⟩ := hs.fr.get h0
 have Y7 : x = .pointer (some ⟨g, 0, none⟩) := by
  cases Tw with
  | ptr _ _ _ g' e c gu => rw [hb] at gu; cases gu; rfl
 subst Y7
 have hpu := bo.pure hr hp
 have jX : bC E' (.cH cs) (.pointer (some ⟨g, 0, none⟩)) := by
  have h1 : ∀ j, (Addr.mk g 0 none).add j = ⟨g, j, none⟩ := fun j => by unfold Addr.add; by_cases hj : j = 0 <;> simp [hj]
  refine .cH _ _ _ (fun j => (xs[j]?).getD undef) (fun j c hj => ?_) fun j c hj => ?_
  ·obtain ⟨y, hy, -⟩ := hpu.get hj
   rw [h1, eF, if_pos rfl, kF hh]
   simp only [Array.getElem?_toList] at hy
   rw [hy]; rfl
  ·obtain ⟨y, hy, Hb⟩ := hpu.get hj
   simp only [Array.getElem?_toList] at hy
   rw [hy]
   exact Hb.mono (Env.gL hle)
 have yZ : bo E' (st.fr.set t (.cH cs)) a.tmps.toList := by
  have := bo.set (n := t) (hs.fr.mono hle) jX
  rwa [ki hx] at this
 refine ⟨E', ⟨fun ad y hy => ?_, fun k' v g' e c h => hs.lt k' v g' e c (by rwa [eb] at h), fun k' B hB => ?_, fun k' gD v => ?_, fun k' B hB v hv => ?_, fun k1 k2 v1 v2 g' e c e' c' q1 q2 => ?_, yZ⟩, ?_⟩
 ·rw [eF] at hy
  split at hy
  ·exact hy
  ·exact hs.F ad y hy
 ·rw [List.getElem?_set] at hB
  split at hB
  ·split at hB
   ·cases hB; exact trivial
   ·cases hB
  ·rename_i ch
   refine (hs.mem k' B hB).mono hle (fun v h => by rw [eb]; exact h) (fun _ _ _ _ => rfl) fun g' e c o q1 q2 => ?_
   rw [eF]
   split
   ·rename_i hg
    have hg : g' = g := hg
    subst hg
    exact absurd (hs.apart _ _ _ _ _ _ _ _ _ hb q1) ch
   ·exact q2
 ·rw [eb]; exact hs.top k' (by simpa using gD) v
 ·rw [eb]
  rw [List.getElem?_set] at hB
  split at hB
  ·rename_i hke
   split at hB
   ·cases hB
    subst hke
    exact hs.b7 k _ hk v hv
   ·cases hB
  ·exact hs.b7 k' B hB v hv
 ·rw [eb] at q1 q2; exact hs.apart _ _ _ _ _ _ _ _ _ q1 q2
 ·refine ⟨hle, fun k' v g' e c h => .inl ⟨k', v, e, c, by rwa [eb] at h⟩, fun ad y hy => ?_, rfl, rfl, rfl, Nat.le_refl _, fun _ _ _ => rfl⟩
  rw [eF] at hy
  split at hy
  ·rename_i hg; exact .inr (.inr ⟨k, 0, 0, 0, by rw [hg]; exact hb⟩)
  ·exact .inl hy
end
theorem bH.PN {E : Env} {w : World} {m : List aC} {k : Nat} {cs : List V} {x : Value} (hs : bH E w { tmps := #[], defers := [] } { fr := [], mem := m }) (hr : bC E (.ptr k 0) x) (hk : m[k]? = some (.box cs)) (hp : cs.all eO = true) :
  ∃ E', bH E' w { tmps := #[], defers := [] } { fr := [], mem := m.set k .dead } ∧ ec E w E' w ∧ bC E' (.cH cs) x := by
 have h1 : bH E w { tmps := #[x], defers := [] } { fr := [.ptr k 0], mem := m } := ⟨hs.F, hs.lt, hs.mem, hs.top, hs.b7, hs.apart, .cons hr (.nil _)⟩
 obtain ⟨E', h2, h3⟩ := h1.rP (t := 0) hk hp rfl
 obtain ⟨y, ys, hy, HR, -⟩ := h2.fr.of_cons
 cases hy
 exact ⟨E', ⟨h2.F, h2.lt, h2.mem, h2.top, h2.b7, h2.apart, .nil _⟩, h3, HR⟩
end Go.Eng
end
