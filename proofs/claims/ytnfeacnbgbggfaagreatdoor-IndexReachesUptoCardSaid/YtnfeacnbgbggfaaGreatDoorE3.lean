/-
  THE ENGINE, L: the steps are sound; code; functions.
  THE ENGINE, M: a table of types, checked by the kernel.
  THE ENGINE, N: rules and facts for carrying it out by simp.
  THE ENGINE, O: closures' contracts; a range over a function.
  THE ENGINE, P: regions that draw their order.
  THE ENGINE, Q: regions that draw their order are sound.
  THE ENGINE, R: a region that draws its order comes to what it comes to in the order of its text.
  THE ENGINE, S: functions that hand back rows that their caller may write.
  THE ENGINE, U: what a contract does not speak of stays.
-/
import Derived.Test.YtnfeacnbgbggfaaGreatDoorE2
import Derived.RangeFuncRecord
import Derived.OrdersIn
set_option linter.all false
section
namespace Go.Eng
variable [aG]
open Go.RowKit (Below)

theorem dL {P : Program} {s : Sem Value} {w w' : World} {x : Value} (h : s.run P w = .ok x w') : (do pure (Next.value (← s)) : Sem Next).run P w = .ok (.value x) w' := by
 simp [h]

def xZ (E : Env) (w : World) (a : Act) (dst : Option Tmp) (Q : St → Prop) (v : Value) (w' : World) : Prop := ∃ E' st', bd E' w' (a.put dst v) st' ∧ dt E w E' w' ∧ Q st'

def WF (ρ : Option Nat) : Fence := { fn := fun _ => True, depth := none, alive := false, round := ρ }
theorem su {ρ : Option Nat} {n : Nat} {P : Program} {f : FuncId} {xs : Array Value} {w : World} {R : Ending → World → Prop} (h : Calls P f xs w R) : CallsIn (WF ρ) n P f xs w R := by
 have h1 : CallsIn Fence.wide n P f xs w R := callsIn_wide.2 h
 cases ρ with
 | none => exact h1
 | some l => exact h1.inRound l
theorem x9 {n : Nat} {P : Program} {f : FuncId} {xs : Array Value} {w : World} {R : Ending → World → Prop} (h : CallsIn (WF none) n P f xs w R) : Calls P f xs w R := callsIn_wide.1 h
theorem Ar {ρ : Option Nat} {n : Nat} {P : Program} {l : Nat} {f : FuncId} {tmps : Array Value} {assign body : Code} {w : World} {R : Ending → World → Prop} (h : RoundIn Fence.wide 0 P l f tmps assign body w R) : RoundIn (WF ρ) n P l f tmps assign body w R := by
 refine ⟨trivial, fun c cs _ => ?_⟩
 exact h.2 c cs (room_wide _)
section
variable {P : Program} {ρ : Option Nat} {n : Nat} {o : Oper} {a : Act} {w w' : World} {next : Act → World → Prop} {Q : Exit → Act → World → Prop} (ko : ∀ c, o.op ≠ .defer c)
include ko
theorem bj {v : Value} (h : (execOp a.eval o).run P w = .ok (.value v) w') (hn : next (a.put o.dst v) w') : o.wpIn (WF ρ) n P a w next Q := by
 refine ⟨fun _ _ => trivial, ?_⟩
 rw [Oper.semAt_eq _ _ _ ko, h]; exact hn
theorem iC (h : (execOp a.eval o).run P w = .ok .skip w') (hn : next (a.put o.dst undef) w') : o.wpIn (WF ρ) n P a w next Q := by
 refine ⟨fun _ _ => trivial, ?_⟩
 rw [Oper.semAt_eq _ _ _ ko, h]; exact hn
theorem qA {f : FuncId} {xs : Array Value} {R : Ending → World → Prop} (h : (execOp a.eval o).run P w = .ok (.enter f xs) w) (hc : Calls P f xs w R) (hR : ∀ e w', R e w' → ∃ v, e = .returned v ∧ next (a.put o.dst v) w') :
  o.wpIn (WF ρ) n P a w next Q := by
 refine ⟨fun _ _ => trivial, ?_⟩
 rw [Oper.semAt_eq _ _ _ ko, h]
 refine ⟨fun h => by simp [WF] at h, (su hc).mono fun e w' he => ?_⟩
 obtain ⟨v, rfl, hn⟩ := hR e w' he
 exact hn
theorem qB {l : Nat} {f : FuncId} {tmps : Array Value} {assign body : Code} {R : Ending → World → Prop} (h : (execOp a.eval o).run P w = .ok (.round l f tmps assign body) w) (hc : RoundIn Fence.wide 0 P l f tmps assign body w R)
  (hR : ∀ e w', R e w' → ∃ v, e = .returned v ∧ next (a.put o.dst v) w') : o.wpIn (WF ρ) n P a w next Q := by
 refine ⟨fun _ _ => trivial, ?_⟩
 rw [Oper.semAt_eq _ _ _ ko, h]
 refine ⟨fun h => by simp [WF] at h, (Ar hc).mono fun e w' he => ?_⟩
 obtain ⟨v, rfl, hn⟩ := hR e w' he
 exact hn
end

theorem qC {P : Program} {E : Env} {w : World} {a : Act} {st : St} (hs : bd E w a st) {f : FuncId} {vs : List V} {dst : Option Tmp} {Q : St → Prop} (h : uM P f vs st dst Q) {xs : Array Value} (hx : aQ E vs xs.toList) :
  ((callFunc f xs).run P w = .ok (.enter f xs) w ∧ Calls P f xs w fun e w' => ∃ v, e = .returned v ∧ xZ E w a dst Q v w') ∨ ∃ v, (callFunc f xs).run P w = .ok (.value v) w ∧ xZ E w a dst Q v w := by
 rcases h with ⟨vs', r, hp, hf, hQ⟩ | ⟨r, aF, hf, hQ⟩ | ⟨R, hf, hQ⟩ | ⟨r, hf, hQ⟩
 ·refine .inl ⟨hf.1 xs w, (D0 hs hx hp hf).mono ?_⟩
  rintro e w' ⟨E', x, rfl, du, la, hr⟩
  exact ⟨x, rfl, E', _, la.put dst hr, du, hQ⟩
 ·refine .inl ⟨hf.1 xs w, (hf.2 E w xs hs.bare hx).mono ?_⟩
  rintro e w' ⟨E', x, rfl, du, la, hr⟩
  exact ⟨x, rfl, E', _, (hs.xX la du.le).put dst hr, du, hQ⟩
 ·refine .inl ⟨hf.1 xs w, (hf.2 E w xs hs.bare hx).mono ?_⟩
  rintro e w' ⟨E', x, r, aF, rfl, hR, du, la, hr⟩
  exact ⟨x, rfl, E', _, (hs.xX la du.le).put dst hr, du, hQ _ _ hR⟩
 ·obtain ⟨x, h1, h2⟩ := hf E w xs hs.F hx
  exact .inr ⟨x, h1, E, _, hs.put dst h2, dt.refl E w, hQ⟩

theorem dk {P : Program} {tt : Table} (ht : TT P tt) {E : Env} {w : World} {a : Act} {st : St} (hs : bd E w a st) {key : Nat} (hk : dP st.mem key) {o : Oper} {Q : St → Prop} (h : bH P tt key o st Q)
  {ρ : Option Nat} {n : Nat} {next : Act → World → Prop} {Q' : Exit → Act → World → Prop} (hn : ∀ v w', xZ E w a o.dst Q v w' → next (a.put o.dst v) w') : o.wpIn (WF ρ) n P a w next Q' := by
 obtain ⟨dst, op, type, pos, after, guard⟩ := o
 have ko : ∀ c, op ≠ .defer c := by
  rintro c rfl
  simp [bH, fP] at h
 unfold bH at h
 dsimp only at h
 split at h
 ·-- alloc
  rename_i T
  split at h
  ·rename_i i hi
   obtain ⟨info, oa, -, -, z, hz, DU⟩ := ht.size T i hi
   have hr : aQ E (i.zero.map V.sc) z.cells.toList := by
    rw [DU]; exact ⟨by simp, fun k c x hc hx => by
     simp only [List.getElem?_map,hx,Option.map_some,Option.some.injEq] at hc; subst hc; exact .sc _ _⟩
   obtain ⟨E', h1, h2, h3⟩ := hs.FQ hk hr T
   refine bj ko (v := .pointer (some ⟨w.heap.size, 0, none⟩)) (w' := w.alloc (.cells z.cells T (0, 0))) ?_ (hn _ _ ⟨E', _, h1.put dst h3, h2, h⟩)
   have Rw : (zeroValue T).run P w = .ok z w := by simp [zeroValue, cL oa, hz]
   simp [execOp, Instr.alloc, Rw, newVar, newRow]
  ·exact h.elim
 ·-- box
  rename_i T x
  split at h
  ·rename_i cs tV
   obtain ⟨hr, -⟩ := ki (hs.eval x) tV
   obtain ⟨E', h1, h2, h3⟩ := hs.FQ hk hr T
   refine bj ko (v := .pointer (some ⟨w.heap.size, 0, none⟩)) (w' := w.alloc (.cells (a.eval x).cells T (0, 0))) ?_ (hn _ _ ⟨E', _, h1.put dst h3, h2, h⟩)
   simp [execOp, Instr.box, newVar, newRow]
  ·exact h.elim
 ·-- build
  split at h
  ·rename_i v hv
   obtain ⟨x, h1, h2⟩ := oA ht hs hv
   exact bj ko (bf h1) (hn _ _ ⟨E, _, hs.put dst h2, dt.refl E w, h⟩)
  ·exact h.elim
 ·-- buildSlice
  rename_i T len parts
  split at h
  ·rename_i size rs hl
   obtain ⟨Z, e, h1, h2, h3, h4⟩ := vS ht (fun p _ => hs.eval p.2) hl
   obtain ⟨E', h5, h6, h7⟩ := hs.oo hk (xs := Z) (rs := rs) (c := len) e h2 (by omega) h4
   rw [h3] at h7
   exact bj ko (dL h1) (hn _ _ ⟨E', _, h5.put dst h7, h6, h⟩)
  ·split at h
   ·rename_i size rs hl
    unfold ny at hl
    split at hl
    ·rename_i vs' Uh
     obtain ⟨E1, jC, JG, F8⟩ := hs.freeze Uh
     have YS : ∀ (l : List (Nat × Operand)) (us Mm : List V), us = l.map (fun p => st.eval p.2) → cD st.mem us = some Mm → aQ E1 Mm (l.map fun p => a.eval p.2) → ∀ p ∈ l, aX E1 (Ct st.mem st.eval p.2) (a.eval p.2) := by
      intro l
      induction l with
      | nil => intro us Mm _ _ _ p hp; simp at hp
      | cons q r ih =>
       intro us Mm hu hp hr p NF
       subst hu
       simp only [List.map_cons,cD] at hp
       split at hp
       ·rename_i c' hc
        split at hp
        ·rename_i r' tX
         cases hp
         obtain ⟨y, ys, hy, g1, g2⟩ := hr.of_cons
         simp only [List.map_cons,List.cons.injEq] at hy
         obtain ⟨rfl, rfl⟩ := hy
         rcases List.mem_cons.1 NF with rfl | NF
         ·unfold Ct; rw [hc]; exact g1
         ·exact ih _ _ rfl tX g2 p NF
        ·cases hp
       ·cases hp
     have nt : aQ E (parts.toList.map fun p => st.eval p.2) (parts.toList.map fun p => a.eval p.2) := by
      refine ⟨by simp, fun i v x hv hx => ?_⟩
      simp only [List.getElem?_map,Option.map_eq_some_iff] at hv hx
      obtain ⟨q, hq, rfl⟩ := hv
      obtain ⟨q', Jf, rfl⟩ := hx
      rw [hq] at Jf; cases Jf
      exact hs.eval q.2
     have Vg := YS parts.toList _ _ rfl Uh (F8 _ nt)
     have fJ : dP ({ st with mem := bY st.mem (fg st.eval parts.toList) } : St).mem key := by
      unfold dP
      dsimp only
      rw [km, nd]
      rcases hk with hk | hk
      ·rw [hk]; exact .inl rfl
      ·exact .inr hk
     obtain ⟨Z, e, h1, h2, h3, h4⟩ := vS ht (w := w) Vg hl
     obtain ⟨E', h5, h6, h7⟩ := jC.oo fJ (xs := Z) (rs := rs) (c := len) e h2 (by omega) h4
     rw [h3] at h7
     exact bj ko (dL h1) (hn _ _ ⟨E', _, h5.put dst h7, JG.trans h6, h⟩)
    ·cases hl
   ·exact h.elim
 ·-- store
  rename_i T p x
  split at h
  ·rename_i aF hm
   obtain ⟨w', h1, h2, h3⟩ := ot ht hs (hs.eval _) (hs.eval _) hm
   refine iC ko (w' := w') ?_ (hn _ _ ⟨E, _, h2.put dst (.sc _ _), h3, h⟩)
   simp [execOp, h1]
  ·split at h
   ·rename_i aF hm
    unfold v8 at hm
    split at hm
    ·rename_i v' qY
     obtain ⟨E1, jC, JG, F8⟩ := hs.freeze (vs := [st.eval x]) (vs' := [v']) (by simp [cD, qY])
     simp only [List.flatMap_cons,List.flatMap_nil,List.append_nil] at jC
     obtain ⟨z, r, hz, h4, -⟩ := (F8 [a.eval x] (.cons (hs.eval x) (.nil _))).of_cons
     simp only [List.cons.injEq] at hz
     obtain ⟨rfl, -⟩ := hz
     obtain ⟨w', h1, h2, h3⟩ := ot ht jC ((hs.eval p).mono JG.le) h4 hm
     refine iC ko (w' := w') ?_ (hn _ _ ⟨E1, _, h2.put dst (.sc _ _), JG.trans h3, h⟩)
     simp [execOp, h1]
    ·cases hm
   ·exact h.elim
 ·-- append
  rename_i xs ts
  split at h
  ·rename_i s x JH
   split at h
   ·rename_i size ob rows ha
    have he := hs.jE xs
    rw [JH] at he
    obtain ⟨y, r1, hy, Ak, he⟩ := he.of_cons
    obtain ⟨z, r2, hz, re, he⟩ := he.of_cons
    have := he.of_nil
    subst this; subst hz
    have nt : xs.map a.eval = #[y, z] := by rw [← Array.toArray_toList (xs := xs.map a.eval), hy]
    obtain ⟨v, w', E', h1, h2, h3, h4⟩ := uf ht hs (ty := type) hk Ak re ha
    refine bj ko (v := v) (w' := w') ?_ (hn _ _ ⟨E', _, h2.put dst h4, h3, h⟩)
    simp only [execOp,resolve,Sem.run_bind,Sem.run_pure,Result.andThen_ok,invoke,builtin,nt,h1]
   ·unfold qz at h
    split at h
    ·rename_i size b v l rs news ha
     have he := hs.jE xs
     rw [JH] at he
     obtain ⟨y, r1, hy, Ak, he⟩ := he.of_cons
     obtain ⟨z, r2, hz, re, he⟩ := he.of_cons
     have := he.of_nil
     subst this; subst hz
     have nt : xs.map a.eval = #[y, z] := by rw [← Array.toArray_toList (xs := xs.map a.eval), hy]
     obtain ⟨u, w', E', o', rs', h1, NG, D2, h2, h3, h4⟩ := uj ht hs (ty := type) Ak re ha
     refine bj ko (v := u) (w' := w') ?_ (hn _ _ ⟨E', _, h2.put dst h4, h3, h o' rs' NG D2⟩)
     simp only [execOp,resolve,Sem.run_bind,Sem.run_pure,Result.andThen_ok,invoke,builtin,nt,h1]
    ·exact h.elim
  ·exact h.elim
 ·-- a call
  rename_i f xs ts
  split at h
  ·-- yield
   rename_i k QD
   have hf := hs.eval f
   rw [QD] at hf
   generalize XE : a.eval f = fx at hf
   cases hf with
   | ia _ _ l e c hb =>
    rcases h with ⟨b, aF, hy, hQ⟩ | ⟨R, hy, hQ⟩
    rotate_left
    ·obtain ⟨fn, tmps, assign, body, h1, h2⟩ := hy E w (xs.map a.eval) l e c hs.bare (hs.jE xs) hb
     refine qB ko (l := l) (f := fn) (tmps := tmps) (assign := assign) (body := body) ?_ h2 fun e w' ⟨E', b, aF, he, hR, du, la⟩ => ⟨_, he, hn _ _ ⟨E', _, (hs.xX la du.le).put dst (.sc _ _), du, hQ _ _ hR⟩⟩
     rw [← h1]
     simp [execOp, resolve, XE, Deferred.ofValue, invoke]
    obtain ⟨fn, tmps, assign, body, h1, h2⟩ := hy E w (xs.map a.eval) l e c hs.bare (hs.jE xs) hb
    refine qB ko (l := l) (f := fn) (tmps := tmps) (assign := assign) (body := body) ?_ h2 fun e w' ⟨E', he, du, la⟩ => ⟨_, he, hn _ _ ⟨E', _, (hs.xX la du.le).put dst (.sc _ _), du, hQ⟩⟩
    rw [← h1]
    simp [execOp, resolve, XE, Deferred.ofValue, invoke]
  ·rename_i QD
   split at h
   ·rename_i g vs hg
    obtain ⟨ys, h1, h2⟩ := lz (P := P) (w := w) (hs.eval f) (hs.jE xs) hg
    rcases qC hs h h1 with ⟨h3, h4⟩ | ⟨v, h3, h4⟩
    ·refine qA ko (f := g) (xs := ys) ?_ h4 fun e w' ⟨v, hv, ha⟩ => ⟨v, hv, hn _ _ ha⟩
     rw [← h3, ← h2]
     simp only [execOp,resolve]
    ·refine bj ko (v := v) ?_ (hn _ _ h4)
     rw [← h3, ← h2]
     simp only [execOp,resolve]
   ·exact h.elim
 ·split at h
  ·rename_i size rs cap hm
   obtain ⟨E', w', h1, h2, h3, h4⟩ := xT (P := P) ht hs hk (hs.eval _) (hs.eval _) hm
   exact bj ko (dL h1) (hn _ _ ⟨E', _, h2.put dst h4, h3, h⟩)
  ·exact h.elim
 ·-- a map
  obtain ⟨E', w', h1, h2, h3, h4⟩ := uh (P := P) hs hk _
  exact bj ko (dL h1) (hn _ _ ⟨E', _, h2.put dst h4, h3, h⟩)
 ·split at h
  ·rename_i aF hm
   obtain ⟨w', h1, h2, h3⟩ := nb (P := P) hs (hs.eval _) (hs.eval _) (hs.eval _) hm
   refine iC ko (w' := w') ?_ (hn _ _ ⟨E, _, h2.put dst (.sc _ _), h3, h⟩)
   simp [execOp, h1]
  ·exact h.elim
 ·split at h
  ·rename_i aF hm
   obtain ⟨w', h1, h2, h3⟩ := nb (P := P) hs (hs.eval _) (hs.eval _) (hs.eval _) hm
   refine iC ko (w' := w') ?_ (hn _ _ ⟨E, _, h2.put dst (.sc _ _), h3, h⟩)
   simp [execOp, h1]
  ·exact h.elim
 ·split at h
  ·rename_i aF v hm
   obtain ⟨z, w', h1, h2, h3, h4⟩ := vV (P := P) hs (hs.eval _) (hs.eval _) hm
   exact bj ko (dL h1) (hn _ _ ⟨E, _, h2.put dst h4, h3, h⟩)
  ·exact h.elim
 ·rename_i T m s x
  split at h
  ·rename_i aF hm
   obtain ⟨w', h1, h2, h3⟩ := vW (P := P) (T := T) hs (hs.eval _) (hs.eval _) (hs.eval _) hm
   refine iC ko (w' := w') ?_ (hn _ _ ⟨E, _, h2.put dst (.sc _ _), h3, h⟩)
   simp [execOp, h1]
  ·exact h.elim
 ·rename_i xs ts
  split at h
  ·rename_i aF hm
   obtain ⟨w', h1, h2, h3⟩ := ug (ty := type) hs (hs.jE xs) hm
   refine bj ko (v := .tuple #[]) (w' := w') ?_ (hn _ _ ⟨E, _, h2.put dst (.sc _ _), h3, h⟩)
   simp only [execOp,resolve,Sem.run_bind,Sem.run_pure,Result.andThen_ok,invoke,builtin,h1]
  ·exact h.elim
 ·split at h
  ·rename_i B hB
   obtain ⟨E', w', h1, h2, h3, h4⟩ := sh (P := P) hs hk (hs.eval _) hB
   exact bj ko (dL h1) (hn _ _ ⟨E', _, h2.put dst h4, h3, h⟩)
  ·exact h.elim
 ·obtain ⟨z, w', st', h1, h2, h3, h4⟩ := xS (P := P) (ty := type) hs (hs.eval _) h
  exact bj ko (dL h1) (hn _ _ ⟨E, st', h2, h3, h4⟩)
 ·-- a NH
  rename_i op T x y yT
  split at h
  ·rename_i m hm
   obtain ⟨b, hb, cO⟩ := v7 (P := P) (w := w) ht x y (hs.eval x) (hs.eval y) hm
   exact bj ko (bf cO) (hn _ _ ⟨E, _, hs.put dst (.sc _ _), dt.refl E w, h b hb⟩)
  ·split at h
   ·rename_i v hv
    obtain ⟨x, h1, h2⟩ := mc ht hs hv
    exact bj ko h1 (hn _ _ ⟨E, _, hs.put dst h2, dt.refl E w, h⟩)
   ·exact h.elim
 ·split at h
  ·rename_i v hv
   obtain ⟨x, h1, h2⟩ := mc ht hs hv
   exact bj ko h1 (hn _ _ ⟨E, _, hs.put dst h2, dt.refl E w, h⟩)
  ·exact h.elim

def cZ (all : Array Oper) (fr : List V) (o : Oper) : Option Bool :=
 match o.guard with
 | none => some true
 | some (j, want) => match (all[j]?).bind (·.dst) with
  | none => some false
  | some d => match fr[d]? with
   | some (.sc (.bool b)) => some (b == want)
   | some (.sc _) => some false
   | some _ => none
   | none => some false

theorem gC {E : Env} {w : World} {a : Act} {st : St} (hs : bd E w a st) {all : Array Oper} {o : Oper} {b : Bool} (h : cZ all st.fr o = some b) : Region.wanted o (yielded all a.tmps) = b := by
 unfold cZ at h
 unfold Region.wanted
 split at h
 ·rename_i hg; rw [hg]; simpa using h
 ·rename_i j want hg
  rw [hg]
  dsimp only
  unfold yielded
  split at h
  ·rename_i hd; rw [hd]; simp at h; subst h; rfl
  ·rename_i d hd
   rw [hd]
   split at h
   ·rename_i bb hf
    obtain ⟨x, hx, hr⟩ := hs.fr.get hf
    obtain rfl := b9 hr
    simp only [Option.some.injEq] at h; subst h
    have : a.tmps[d]? = some (.bool bb) := by simpa using hx
    simp [this]
   ·rename_i v bO hf
    obtain ⟨x, hx, hr⟩ := hs.fr.get hf
    obtain rfl := b9 hr
    simp only [Option.some.injEq] at h; subst h
    have : a.tmps[d]? = some x := by simpa using hx
    simp only [Option.bind_some,this]
    cases x <;> first | rfl | exact absurd rfl (bO _)
   ·cases h
   ·rename_i hf
    simp only [Option.some.injEq] at h; subst h
    have hl : st.fr.length = a.tmps.size := by have := hs.fr.1; simpa using this
    have : a.tmps[d]? = none := by
     rw [List.getElem?_eq_none_iff] at hf
     exact Array.getElem?_eq_none (by omega)
    simp [this]

def dA (P : Program) (tt : Table) (all : Array Oper) : List Oper → St → (St → Prop) → Prop
 | [], st, Q => Q st
 | o :: r, st, Q => match cZ all st.fr o with
  | some true => bH P tt st.mem.length o st fun st' => dA P tt all r st' Q
  | some false => dA P tt all r (st.put o.dst (.sc undef)) Q
  | none => False

theorem put_defers (a : Act) (dst : Option Tmp) (v : Value) : (a.put dst v).defers = a.defers := by cases dst <;> rfl
theorem wa {P : Program} {tt : Table} (ht : TT P tt) {ρ : Option Nat} {n : Nat} {all : Array Oper} {Q : St → Prop} {Q' : Exit → Act → World → Prop} : ∀ (RB pre : List Oper), all.toList = pre ++ RB →
  ∀ {E : Env} {w : World} {a : Act} {st : St}, bd E w a st → dA P tt all RB st Q → (∀ a' w', a'.defers = a.defers → (∃ E' st', bd E' w' a' st' ∧ dt E w E' w' ∧ Q st') → Q' .normal a' w') → wpOpsIn (WF ρ) n P all Q' (List.range' pre.length RB.length) a w := by
 intro RB
 induction RB with
 | nil => intro pre _ E w a st hs h hq; exact hq _ _ rfl ⟨E, st, hs, dt.refl E w, h⟩
 | cons o r ih =>
  intro pre aS E w a st hs h hq
  have eS : all[pre.length]? = some o := by
   rw [← Array.getElem?_toList, aS, List.getElem?_append_right (Nat.le_refl _)]; simp
  have RC : all.toList = (pre ++ [o]) ++ r := by rw [aS]; simp
  have Vh := @ih (pre ++ [o]) RC
  simp only [List.length_append,List.length_cons,List.length_nil,Nat.zero_add] at Vh
  rw [List.length_cons, List.range'_succ, wpOpsIn, eS]
  dsimp only
  simp only [dA] at h
  split at h
  ·rename_i hw
   rw [if_pos (gC hs hw)]
   refine dk ht hs (.inr rfl) h ?_
   rintro v w' ⟨E', st', h1, h2, h3⟩
   exact Vh h1 h3 fun YT XF hd ⟨xu, NI, h4, h5, h6⟩ => hq _ _ (hd.trans (put_defers _ _ _)) ⟨xu, NI, h4, h2.trans h5, h6⟩
  ·rename_i hw
   rw [if_neg (by rw [gC hs hw]; simp)]
   exact ⟨fun _ _ => trivial, Vh (hs.put o.dst (.sc _ _)) h fun YT XF hd h => hq _ _ (hd.trans (put_defers _ _ _)) h⟩
  ·exact h.elim

def Marks (E : Env) (w : World) (base : Nat) (ds : List Deferred) : Prop :=
 ∃ rs : List Nat, ds = rs.map (fun r => { target := .collected r, args := #[] }) ∧ rs.Nodup ∧ ∀ r ∈ rs, base ≤ r ∧ w.heap[r]? = some (.deferred (some [])) ∧ ∀ k v e c, E.aK k v ≠ some (r, e, c)
theorem Marks.FB {E E' : Env} {w w' : World} {base : Nat} {ds : List Deferred} (h : Marks E w base ds) (he : dt E w E' w') : Marks E' w' base ds := by
 obtain ⟨rs, h1, h2, h3⟩ := h
 refine ⟨rs, h1, h2, fun r hr => ?_⟩
 obtain ⟨h6, h4, h5⟩ := h3 r hr
 have aB : r < w.heap.size := by
  rcases Nat.lt_or_ge r w.heap.size with h | h
  ·exact h
  ·rw [Array.getElem?_eq_none h] at h4; cases h4
 refine ⟨h6, (he.heap r aB h5).trans h4, fun k v e c hk => ?_⟩
 rcases he.aK _ _ _ _ _ hk with ⟨k0, v0, e0, c0, h⟩ | h
 ·exact h5 _ _ _ _ h
 ·omega
theorem Marks.nil (E : Env) (w : World) (base : Nat) : Marks E w base [] := ⟨[], rfl, .nil, fun r h => by simp at h⟩

def NJ (E0 : Env) (w0 : World) (Q : Exit → St → Prop) : Exit → Act → World → Prop := fun ex a' w' => ∃ E' st', bd E' w' a' st' ∧ dt E0 w0 E' w' ∧ Marks E' w' w0.heap.size a'.defers ∧ Q ex st'

def gD (P : Program) (ρ : Option Nat) (n0 : Nat) (c : Code) (st : St) (Q : Exit → St → Prop) : Prop :=
 ∀ (E0 : Env) (w0 : World), (∀ k, n0 ≤ k → ∀ v, E0.aK k v = none) → ∀ (E : Env) (w : World) (a : Act), dt E0 w0 E w → bd E w a st → Marks E w w0.heap.size a.defers → c.wpIn (WF ρ) 0 P (NJ E0 w0 Q) a w

def dZ (next : St → Prop) (Q : Exit → St → Prop) : Exit → St → Prop
 | .normal, st => next st
 | e, st => Q e st
def eD (id : Nat) (Q : Exit → St → Prop) : Exit → St → Prop
 | .exit j, st => if j = id then Q .normal st else Q (.exit j) st
 | e, st => Q e st

section
variable {P : Program} {tt : Table} {ρ : Option Nat} {n0 : Nat} {st : St} {Q : Exit → St → Prop}
theorem gD.mono {c : Code} {Q' : Exit → St → Prop} (h : gD P ρ n0 c st Q) (hq : ∀ e st', Q e st' → Q' e st') : gD P ρ n0 c st Q' :=
 fun E0 w0 h0 E w a he hs hm => wpIn_mono (h E0 w0 h0 E w a he hs hm) fun _ _ _ ⟨E', st', h1, h2, h4, h3⟩ => ⟨E', st', h1, h2, h4, hq _ _ h3⟩
theorem lA (h : Q .normal st) : gD P ρ n0 .skip st Q := fun E0 w0 h0 E w a he hs hm => wpIn_skip ⟨E, st, hs, he, hm, h⟩
theorem oB (h : Q .ret st) : gD P ρ n0 .ret st Q := fun E0 w0 h0 E w a he hs hm => wpIn_ret ⟨E, st, hs, he, hm, h⟩
theorem sv {id : Nat} (h : Q (.exit id) st) : gD P ρ n0 (.exit id) st Q := fun E0 w0 h0 E w a he hs hm => wpIn_exit ⟨E, st, hs, he, hm, h⟩
theorem kp {x y : Code} (h : gD P ρ n0 x st (dZ (fun st' => gD P ρ n0 y st' Q) Q)) : gD P ρ n0 (.seq x y) st Q := fun E0 w0 h0 E w a he hs hm => by
 refine wpIn_seq (wpIn_mono (h E0 w0 h0 E w a he hs hm) ?_)
 rintro e a' w' ⟨E', st', h1, h2, h4, h3⟩
 cases e with
 | normal => exact h3 E0 w0 h0 E' w' a' h2 h1 h4
 | _ => exact ⟨E', st', h1, h2, h4, h3⟩
theorem lB {c : Operand} {x y : Code} {b : Bool} (hc : st.eval c = .sc (.bool b)) (h : gD P ρ n0 (if b = true then x else y) st Q) : gD P ρ n0 (.cond c x y) st Q := fun E0 w0 h0 E w a he hs hm => by
 have := hs.eval c
 rw [hc] at this
 exact wpIn_cond (t := b) (b9 this) (h E0 w0 h0 E w a he hs hm)
theorem jI {id : Nat} {c : Code} (h : gD P ρ n0 c st (eD id Q)) : gD P ρ n0 (.block id c) st Q := fun E0 w0 h0 E w a he hs hm => by
 refine wpIn_block (wpIn_mono (h E0 w0 h0 E w a he hs hm) ?_)
 rintro e a' w' ⟨E', st', h1, h2, h4, h3⟩
 cases e with
 | exit j =>
  simp only [Exit.inBlock,eD] at h3 ⊢
  split
  ·rename_i hj; rw [if_pos hj] at h3; exact ⟨E', st', h1, h2, h4, h3⟩
  ·rename_i hj; rw [if_neg hj] at h3; exact ⟨E', st', h1, h2, h4, h3⟩
 | _ => exact ⟨E', st', h1, h2, h4, h3⟩
theorem kq (ht : TT P tt) {id : Nat} {ops : Array Oper} (h : dA P tt ops ops.toList st (Q .normal)) : gD P ρ n0 (.region id ops false) st Q := fun E0 w0 h0 E w a he hs hm => by
 refine wpIn_region ?_
 have := wa ht (ρ := ρ) (n := 0) (Q' := NJ E0 w0 Q) ops.toList [] (by simp) hs h (fun a' w' hd ⟨E', st', h1, h2, h3⟩ => ⟨E', st', h1, he.trans h2, by rw [hd]; exact hm.FB h2, h3⟩)
 rw [List.range_eq_range']
 simpa using this

def kU (P : Program) (ρ : Option Nat) (n0 : Nat) (c : Code) : Nat → St → (Exit → St → Prop) → Prop
 | 0, _, _ => False
 | n + 1, st, Q => gD P ρ n0 c st (dZ (fun st' => kU P ρ n0 c n st' Q) Q)
theorem sw {c : Code} (n : Nat) (h : kU P ρ n0 c n st Q) : gD P ρ n0 (.loop c) st Q := fun E0 w0 h0 E w a he hs hm => by
 refine wpIn_loop_rounds n ?_
 have key : ∀ (n : Nat) (E1 : Env) (w1 : World) (a1 : Act) (st1 : St), bd E1 w1 a1 st1 → dt E0 w0 E1 w1 → Marks E1 w1 w0.heap.size a1.defers → kU P ρ n0 c n st1 Q → Code.roundsIn (WF ρ) 0 P c (NJ E0 w0 Q) n a1 w1 := by
  intro n
  induction n with
  | zero => intro E1 w1 a1 st1 _ _ _ h; exact h.elim
  | succ n ih =>
   intro E1 w1 a1 st1 h1 h2 h5 h3
   refine wpIn_mono (h3 E0 w0 h0 E1 w1 a1 h2 h1 h5) ?_
   rintro e a' w' ⟨E', st', h4, h5, h7, h6⟩
   cases e with
   | normal => exact ih E' w' a' st' h4 h5 h7 h6
   | _ => exact ⟨E', st', h4, h5, h7, h6⟩
 exact key n E w a st hs he hm h

theorem sx {c : Code} {st' : St} (hw : ∀ E w a, bd E w a st → bd E w a st') (h : gD P ρ n0 c st' Q) : gD P ρ n0 c st Q :=
 fun E0 w0 h0 E w a he hs hm => h E0 w0 h0 E w a he (hw E w a hs) hm


mutual
def ai (n : Nat) : V → Bool
 | .ms b _ _ _ => decide (b < n)
 | .ptr b _ => decide (b < n)
 | .ia b => decide (b < n)
 | .mp b => decide (b < n)
 | .de b _ _ _ => decide (b < n)
 | .undef => true
 | .sc _ => true
 | .slice _ => true
 | .cn _ => true
 | .gn => true
 | .full _ => true
 | .agg cs => dp n cs
 | .bT cs => dp n cs
 | .fS _ first cap => dp n first && dp n cap
def dp (n : Nat) : List V → Bool
 | [] => true
 | c :: r => ai n c && dp n r
end
theorem cz (n : Nat) (l : List V) : dp n l = l.all (ai n) := by
 induction l with
 | nil => rfl
 | cons c r ih => simp [dp, ih]
def aA (n : Nat) : ay → Bool
 | .box cs => cs.all (ai n)
 | .loop _ _ fr _ _ _ => fr.all (ai n)
 | .map br _ => br.all (fun k => ai n k.2.2)
 | .eo m _ _ _ => decide (m < n)
 | _ => true
def Env.cut (E : Env) (n : Nat) : Env := { F := E.F, aK := fun k v => if k < n then E.aK k v else none, gl := E.gl }

theorem fh {E : Env} {n : Nat} {v : V} {x : Value} (h : aX E v x) (hb : ai n v = true) : aX (E.cut n) v x := by
 induction h with
 | undef => exact .undef _ _
 | sc => exact .sc _ _
 | slice E rows a cap nn ad xf ha hD hz hF h1 hR ih => exact .slice _ _ _ _ nn ad xf ha hD hz hF h1 hR
 | ms E b v s l g e c a cap dX hl h0 uD => exact .ms _ _ _ _ _ g e c _ _ ((if_pos (by simpa [ai] using hb)).trans dX) hl h0 uD
 | df => exact .df _ _ _ _
 | ptr E b o g e c dX => exact .ptr _ _ _ g e c ((if_pos (by simpa [ai] using hb)).trans dX)
 | ia E b l e c dX => exact .ia _ _ l e c ((if_pos (by simpa [ai] using hb)).trans dX)
 | mp E b l e c dX => exact .mp _ _ l e c ((if_pos (by simpa [ai] using hb)).trans dX)
 | de E b v i o g e c dX => exact .de _ _ _ _ _ g e c ((if_pos (by simpa [ai] using hb)).trans dX)
 | cn E cs ad xf hF hR ih => exact .cn _ _ _ xf hF hR
 | gn => exact .gn _
 | full E rows a h ih => exact .full _ _ _ (ih rfl)
 | agg E cs xs hl hh ih =>
  rw [ai, cz] at hb
  exact .agg _ _ _ hl fun i c x hc hx => ih i c x hc hx (List.all_eq_true.1 hb c (List.mem_of_getElem? hc))
 | bT E cs xs hl hh ih =>
  rw [ai, cz] at hb
  exact .bT _ _ _ hl fun i c x hc hx => ih i c x hc hx (List.all_eq_true.1 hb c (List.mem_of_getElem? hc))
 | fS E f first cap xs ys hx hy h1 h2 Ni Nj =>
  rw [ai, cz, cz, Bool.and_eq_true] at hb
  exact .fS _ _ _ _ _ _ hx hy (fun i c x hc hx => Ni i c x hc hx (List.all_eq_true.1 hb.1 c (List.mem_of_getElem? hc))) fun i c x hc hx => Nj i c x hc hx (List.all_eq_true.1 hb.2 c (List.mem_of_getElem? hc))

theorem bd.cut {E : Env} {w : World} {a : Act} {st : St} (hs : bd E w a st) {n : Nat} (hf : st.fr.all (ai n) = true) (hm : (st.mem.take n).all (aA n) = true) : bd (E.cut n) w a { st with mem := st.mem.take n } := by
 have hblk : ∀ k v, k < n → (E.cut n).aK k v = E.aK k v := fun k v h => if_pos h
 have cB : ∀ k v, n ≤ k → (E.cut n).aK k v = none := fun k v h => if_neg (by omega)
 have aB : ∀ {k v t}, (E.cut n).aK k v = some t → k < n ∧ E.aK k v = some t := fun {k v t} h => by
  by_cases hk : k < n
  ·rw [hblk k v hk] at h; exact ⟨hk, h⟩
  ·rw [cB k v (by omega)] at h; cases h
 have eS : ∀ {k : Nat} {B : ay}, (st.mem.take n)[k]? = some B → k < n ∧ st.mem[k]? = some B := fun {k B} h => by
  rw [List.getElem?_take] at h
  split at h
  ·exact ⟨by assumption, h⟩
  ·cases h
 refine ⟨hs.F, fun k v g e c h => hs.lt _ _ _ _ _ (aB h).2, fun k B hk => ?_, fun k hk v => ?_, fun k B hk v hv => ?_, fun k k' v v' g e1 c1 e2 c2 h5 h6 => hs.apart _ _ _ _ _ _ _ _ _ (aB h5).2 (aB h6).2, ⟨hs.fr.1, fun i v x hv hx => fh (hs.fr.2 i v x hv hx) (List.all_eq_true.1 hf v (List.mem_of_getElem? hv))⟩⟩
 ·obtain ⟨eR, eQ⟩ := eS hk
  have aS := List.all_eq_true.1 hm B (List.mem_of_getElem? hk)
  have h := hs.mem k B eQ
  cases B with
  | hole => exact fun v => by rw [hblk k v eR]; exact h v
  | dead => trivial
  | box cs =>
   obtain ⟨g, T, xs, h1, h2, h3, h4⟩ := h
   exact ⟨g, T, xs, (hblk k 0 eR).trans h1, h2, ⟨h3.1, fun i v x hv hx => fh (h3.2 i v x hv hx) (List.all_eq_true.1 aS v (List.mem_of_getElem? hv))⟩, h4⟩
  | loop s jm fr params assign body =>
   obtain ⟨l, fn, tmps, db, h1, h2, h3, h4⟩ := h
   exact ⟨l, fn, tmps, db, (hblk k 0 eR).trans h1, h2, ⟨h3.1, fun i v x hv hx => fh (h3.2 i v x hv hx) (List.all_eq_true.1 aS v (List.mem_of_getElem? hv))⟩, h4⟩
  | map br clock =>
   obtain ⟨g, es, h1, h2, h3, h4⟩ := h
   exact ⟨g, es, (hblk k 0 eR).trans h1, h2, ⟨h3.1, fun i kb e hk he => let ⟨p1, p2, p3⟩ := h3.2 i kb e hk he; ⟨p1, p2, fh p3 (List.all_eq_true.1 aS kb (List.mem_of_getElem? hk))⟩⟩, h4⟩
  | eo m since seen last =>
   obtain ⟨g, gm, e, c, h1, h2, h3, h4⟩ := h
   have rf : m < n := by simpa [aA] using aS
   exact ⟨g, gm, e, c, (hblk k 0 eR).trans h1, (hblk m 0 rf).trans h2, h3, h4⟩
  | gX s pos =>
   obtain ⟨g, h1, h2, h3⟩ := h
   exact ⟨g, (hblk k 0 eR).trans h1, h2, h3⟩
  | iv =>
   obtain ⟨g, h1, h2, h3⟩ := h
   exact ⟨g, (hblk k 0 eR).trans h1, h2, h3⟩
  | rows v e rs =>
   rcases h with ⟨h1, h2⟩ | ⟨g, T, xs, c, h1, h2⟩
   ·exact .inl ⟨h1, (hblk k v eR).trans h2⟩
   ·exact .inr ⟨g, T, xs, c, (hblk k v eR).trans h1, h2⟩
  | mJ v e rs =>
   rcases h with ⟨h1, h2⟩ | ⟨g, c, h1, h2⟩
   ·exact .inl ⟨h1, (hblk k v eR).trans h2⟩
   ·exact .inr ⟨g, c, (hblk k v eR).trans h1, h2⟩
 ·by_cases eR : k < n
  ·rw [hblk k v eR]
   refine hs.top k ?_ v
   dsimp only at hk
   rw [List.length_take] at hk; omega
  ·exact cB k v (by omega)
 ·obtain ⟨eR, eQ⟩ := eS hk
  rw [hblk k v eR]; exact hs.aC k B eQ v hv

def forget (qD : List Nat) (fr : List V) : List V := qD.foldl (fun fr i => fr.set i .undef) fr
theorem bd.forget {E : Env} {w : World} {a : Act} (qD : List Nat) : ∀ {st : St}, bd E w a st → bd E w a { st with fr := Eng.forget qD st.fr } := by
 induction qD with
 | nil => intro st hs; exact hs
 | cons i r ih =>
  intro st hs
  have : bd E w a { st with fr := st.fr.set i .undef } := by
   refine ⟨hs.F, hs.lt, hs.mem, hs.top, hs.aC, hs.apart, ⟨by simpa using hs.fr.1, fun j v x hv hx => ?_⟩⟩
   dsimp only at hv
   rw [List.getElem?_set] at hv
   split at hv
   ·split at hv
    ·cases hv; exact .undef _ _
    ·cases hv
   ·exact hs.fr.2 j v x hv hx
  exact ih this

theorem ya {c : Code} (n : Nat) (qD : List Nat) (hn : n0 ≤ n) (hf : (forget qD st.fr).all (ai n) = true) (hm : (st.mem.take n).all (aA n) = true)
  (h : gD P ρ n0 c { fr := forget qD st.fr, mem := st.mem.take n } Q) : gD P ρ n0 c st Q := fun E0 w0 h0 E w a he hs fQ => by
 have h1 := (hs.forget qD).cut (n := n) hf hm
 refine h E0 w0 h0 (E.cut n) w a ⟨⟨he.le.F, fun k v t hk => ?_⟩, fun k v g e c hk => ?_, he.F, he.os, he.tape, he.output, he.size, he.heap⟩ h1 ?_
 rotate_left 2
 ·obtain ⟨rs, m1, m2, m3⟩ := fQ
  refine ⟨rs, m1, m2, fun r hr => ⟨(m3 r hr).1, (m3 r hr).2.1, fun k v e c hk => ?_⟩⟩
  have : E.aK k v = some (r, e, c) := by
   by_cases eR : k < n
   ·exact ((if_pos eR).symm.trans hk : E.aK k v = _)
   ·have h2 : (E.cut n).aK k v = none := if_neg eR
    rw [h2] at hk; cases hk
  exact (m3 r hr).2.2 _ _ _ _ this
 ·have : k < n := by
   rcases Nat.lt_or_ge k n with aB | cB
   ·exact aB
   ·rw [h0 k (by omega) v] at hk; cases hk
  exact (if_pos this).trans (he.le.aK _ _ _ hk)
 ·have : E.aK k v = some (g, e, c) := by
   by_cases eR : k < n
   ·exact ((if_pos eR).symm.trans hk : E.aK k v = _)
   ·have h2 : (E.cut n).aK k v = none := if_neg eR
    rw [h2] at hk; cases hk
  exact he.aK _ _ _ _ _ this

theorem bd.JI {E : Env} {w : World} {a : Act} {st : St} (hs : bd E w a st) {i b v : Nat} (h : st.fr[i]? = some (.sc (.slice none 0 0))) : bd E w a { st with fr := st.fr.set i (.ms b v 0 0) } := by
 refine ⟨hs.F, hs.lt, hs.mem, hs.top, hs.aC, hs.apart, ⟨by simpa using hs.fr.1, fun j u x hu hx => ?_⟩⟩
 dsimp only at hu
 rw [List.getElem?_set] at hu
 split at hu
 ·rename_i sb
  subst sb
  split at hu
  ·cases hu
   have := hs.fr.2 _ _ _ h hx
   rw [b9 this]
   exact .df _ _ _ _
  ·cases hu
 ·exact hs.fr.2 j u x hu hx
end

def oC (tt : Table) (st : St) : ResultVar → Option V
 | .tmp t => some (st.fr.getD t .undef)
 | .cell a T => kP tt st.mem T (st.fr.getD a .undef)
def lC (tt : Table) (st : St) : List ResultVar → Option (List V)
 | [] => some []
 | r :: rs => match oC tt st r with
  | some v => match lC tt st rs with | some l => some (v :: l) | none => none
  | none => none
def mK (tt : Table) (rs : Array ResultVar) (st : St) : Option V :=
 match lC tt st rs.toList with
 | some [v] => Cr st.mem v
 | some vs => Cr st.mem (.bT vs)
 | none => none

theorem iD {P : Program} {tt : Table} (ht : TT P tt) {E : Env} {w : World} {a : Act} {st : St} (hs : bd E w a st) : ∀ (rs : List ResultVar) (vs : List V), lC tt st rs = some vs →
  ∃ xs : List Value, (rs.mapM (fun | .tmp t => pure (a.tmps.getD t undef) | .cell p t => do loadVar t (← asAddr (a.tmps.getD p undef))) : Sem (List Value)).run P w = .ok xs w ∧ aQ E vs xs
 | [], vs, h => by simp [lC] at h; subst h; exact ⟨[], rfl, .nil _⟩
 | r :: rs, vs, h => by
  simp only [lC] at h
  split at h
  ·rename_i v hv
   split at h
   ·rename_i l hl
    simp only [Option.some.injEq] at h; subst h
    obtain ⟨xs, h1, h2⟩ := iD ht hs rs l hl
    have hx : ∃ x, ((match r with | .tmp t => pure (a.tmps.getD t undef) | .cell p t => do loadVar t (← asAddr (a.tmps.getD p undef))) : Sem Value).run P w = .ok x w ∧ aX E v x := by
     cases r with
     | tmp t =>
      simp only [oC,Option.some.injEq] at hv; subst hv
      exact ⟨_, rfl, hs.eval (.tmp t)⟩
     | cell p t =>
      simp only [oC] at hv
      have hp := hs.eval (.tmp p)
      obtain ⟨y, h3, h4⟩ := qs ht hs hp hv
      refine ⟨y, ?_, h4⟩
      have Mo : ∃ ad, a.tmps.getD p undef = .pointer (some ad) := by
       have pE : aX E (st.fr.getD p .undef) (a.tmps.getD p undef) := hp
       revert pE hv
       generalize st.fr.getD p .undef = q
       generalize a.tmps.getD p undef = z
       intro hv pE
       cases pE with
       | ptr => exact ⟨_, rfl⟩
       | de => exact ⟨_, rfl⟩
       | cn => exact ⟨_, rfl⟩
       | _ => simp [kP] at hv
      obtain ⟨ad, YU⟩ := Mo
      have QE : (Instr.loadAt t (a.tmps.getD p undef)).run P w = .ok y w := h3
      show ((do loadVar t (← asAddr (a.tmps.getD p undef))) : Sem Value).run P w = _
      rw [YU] at QE ⊢
      simpa [Instr.loadAt, Instr.sureAddr, asAddr] using QE
    obtain ⟨x, h3, h4⟩ := hx
    refine ⟨x :: xs, ?_, .cons h4 h2⟩
    simp only [List.mapM_cons,Sem.run_bind]
    rw [h3]
    simp only [Result.andThen_ok]
    rw [h1]
    rfl
   ·cases h
  ·cases h

theorem As {P : Program} {tt : Table} (ht : TT P tt) {E : Env} {w : World} {a : Act} {st : St} (hs : bd E w a st) {fn : Func} {r : V} (h : mK tt fn.results st = some r) :
  ∃ keys x, (results fn a.tmps).run P w = .ok x w ∧ aX (E.kc w keys).pure r x := by
 unfold mK at h
 have run : ∀ xs : List Value, (fn.results.toList.mapM (fun | .tmp t => pure (a.tmps.getD t undef) | .cell p t => do loadVar t (← asAddr (a.tmps.getD p undef))) : Sem (List Value)).run P w = .ok xs w →
   (results fn a.tmps).run P w = .ok (if h : xs.toArray.size = 1 then xs.toArray[0] else .tuple xs.toArray) w := fun xs hx => by
  unfold results
  rw [Array.mapM_eq_mapM_toList]
  simp only [Sem.run_bind,Sem.run_map]
  erw [hx]
  rfl
 split at h
 ·rename_i v hv
  obtain ⟨xs, h1, h2⟩ := iD ht hs _ _ hv
  obtain ⟨x, ys, rfl, h3, h4⟩ := h2.of_cons
  have := h4.of_nil; subst this
  exact ⟨refs v, x, run _ h1, uJ hs h3 h fun k hk => hk⟩
 ·rename_i vs bO hv
  obtain ⟨xs, h1, h2⟩ := iD ht hs _ _ hv
  have hl : xs.toArray.size ≠ 1 := by
   have := h2.1
   intro he
   match vs, xs, this, he with
   | [v], _, _, _ => exact bO v rfl
   | [], [], _, he => simp at he
   | [], _ :: _, h, _ => simp at h
   | _ :: _ :: _, [], h, _ => simp at h
   | _ :: _ :: _, _ :: [], h, _ => simp at h
   | _ :: _ :: _, _ :: _ :: _, _, he => simp at he
  have h3 := run _ h1
  rw [dif_neg hl] at h3
  exact ⟨refs (.bT vs), _, h3, uJ hs (.bT _ _ _ (by simpa using h2.1) fun i c x hc hx => h2.2 i c x hc (by simpa using hx)) h fun k hk => hk⟩
 ·cases h

def ew (fn : Func) (args : List V) (mem : List ay) : St := { fr := args ++ List.replicate (fn.ntmps - args.length) (.sc undef), mem := mem }
theorem qE {E : Env} (fn : Func) {args : List V} {mem : List ay} {xs : Array Value} (hx : aQ E args xs.toList) : aQ E (ew fn args mem).fr (xs ++ Array.replicate (fn.ntmps - xs.size) undef).toList := by
 have hl : args.length = xs.size := by have := hx.1; simpa using this
 simp only [ew,Array.toList_append,Array.toList_replicate,hl]
 refine hx.append ⟨by simp, fun i v x hv hx => ?_⟩
 rw [List.getElem?_replicate] at hv hx
 split at hv
 ·rename_i hi; rw [if_pos hi] at hx; cases hv; cases hx; exact .sc _ _
 ·cases hv

theorem wb {P : Program} {w : World} {r : Nat} (h : w.heap[r]? = some (.deferred (some []))) : (Instr.takeDeferred r).run P w = .ok [] { w with heap := w.heap.setIfInBounds r (.deferred none) } := by
 simp [Instr.takeDeferred, getObj, setObj, Sem.run, h, bind, Sem.bind, pure]

theorem kr {P : Program} {fn : Func} {tmps : Array Value} {R : Ending → World → Prop} : ∀ (rs : List Nat) (w : World), rs.Nodup → (∀ r ∈ rs, w.heap[r]? = some (.deferred (some []))) →
  (∀ w', w'.os = w.os → w'.tape = w.tape → w'.output = w.output → w'.heap.size = w.heap.size → (∀ b, b ∉ rs → w'.heap[b]? = w.heap[b]?) → ∃ v, (results fn tmps).run P w' = .ok v w' ∧ R (.returned v) w') →
  LeavesInM (WF none) 0 P fn tmps R (rs.map (fun r => { target := .collected r, args := #[] })) .returning w
 | [], w, _, _, h => by
  obtain ⟨v, h1, h2⟩ := h w rfl rfl rfl rfl fun _ _ => rfl
  exact ⟨v, h1, h2⟩
 | r :: rs, w, hn, hr, h => by
  refine ⟨by simp, .inl ⟨r, _, rfl, wb (hr r (List.mem_cons_self ..)), ?_⟩⟩
  rw [List.nodup_cons] at hn
  have yb : ∀ b, b ≠ r → (w.heap.setIfInBounds r (.deferred none))[b]? = w.heap[b]? := fun b hb => Array.getElem?_setIfInBounds_ne (fun e => hb e.symm)
  refine kr rs _ hn.2 (fun r' tX => ?_) fun w' h1 h2 h3 h4 h5 => ?_
  ·rw [yb r' (fun e => hn.1 (e ▸ tX))]; exact hr r' (List.mem_cons_of_mem _ tX)
  ·exact h w' h1 h2 h3 (by rw [h4]; simp) fun b hb => by
    simp only [List.mem_cons,not_or] at hb
    rw [h5 b hb.2, yb b hb.1]

theorem bd.F9 {E : Env} {w w' : World} {a : Act} {st : St} (hs : bd E w a st) {rs : List Nat} (hr : ∀ r ∈ rs, w.heap[r]? = some (.deferred (some [])) ∧ ∀ k v e c, E.aK k v ≠ some (r, e, c)) (ka : w'.heap.size = w.heap.size)
  (hh : ∀ b, b ∉ rs → w'.heap[b]? = w.heap[b]?) : bd E w' a st := by
 refine ⟨fun ad x hx => ?_, fun k v g e c h => by rw [ka]; exact hs.lt _ _ _ _ _ h, fun k B hk => ?_, hs.top, hs.aC, hs.apart, hs.fr⟩
 ·have hc := hs.F ad x hx
  have : ad.block ∉ rs := fun fF => by
   have := (hr _ fF).1
   simp [World.cell?, this] at hc
  rw [← hc]; simp [World.cell?, hh _ this]
 ·exact (hs.mem k B hk).mono E.le_refl (fun _ h => h) (fun g e c h => hh g fun fF => (hr g fF).2 _ _ _ _ h) fun _ _ _ _ _ h => h

theorem Ga {P : Program} {tt : Table} (ht : TT P tt) {f : FuncId} {fn : Func} {body : Code} {args : List V} {r : V} (hf : P.funcs[f]? = some fn) (hb : fn.body = some body)
  (dB : ∀ (xs : Array Value) (w : World), (callFunc f xs).run P w = .ok (.enter f xs) w)
  (h : gD P none 0 body (ew fn args []) fun ex st' => (ex = .ret ∨ ex = .normal) ∧ mK tt fn.results st' = some r) : aP P f args r := by
 refine ⟨dB, fun F hg w xs hF hx => x9 (n := 0) (callsIn_of_wp_marks hf hb trivial ?_)⟩
 have hs : bd ⟨F, fun _ _ => none, hg⟩ w { tmps := xs ++ Array.replicate (fn.ntmps - xs.size) undef, defers := [] } (ew fn args []) := by
  refine ⟨hF, (fun k v g e c h => by cases h), (fun k B h => by simp [ew] at h), (fun k _ v => rfl), (fun k B h => by simp [ew] at h), (fun k k' v v' g e c e' c' h => by cases h), qE fn hx⟩
 refine wpIn_mono (h _ w (fun k _ v => rfl) _ w _ (dt.refl _ w) hs (.nil _ _ _)) ?_
 rintro e a' w' ⟨E', st', h1, h2, ⟨rs, hd, ko, FV⟩, he, hr⟩
 have post : LeavesInM (WF none) 0 P fn a'.tmps (fun e w' => ∃ F' x, e = .returned x ∧ (∀ ad y, F ad = some y → F' ad = some y) ∧ (∀ ad y, F' ad = some y → w'.cell? ad = some y) ∧ (∀ ad y, F' ad = some y → F ad = some y ∨ w.heap.size ≤ ad.block) ∧
   (∃ JD, aX ⟨F', fun _ _ => none, JD⟩ r x) ∧ Below w.heap.size w w') a'.defers .returning w' := by
  rw [hd]
  refine kr rs w' ko (fun r hr => (FV r hr).2.1) fun w2 k1 k2 k3 k4 k5 => ?_
  have gQ := h1.F9 (fun r hr => (FV r hr).2) k4 k5
  obtain ⟨keys, x, h3, h4⟩ := As ht gQ hr
  have hold : ∀ r ∈ rs, w.heap.size ≤ r := fun r hr => (FV r hr).1
  refine ⟨x, h3, (E'.kc w2 keys).F, x, rfl, fun ad y hy => (Env.pC E' w2 keys).F _ _ (h2.le.F _ _ hy), fun ad y hy => Env.Cs gQ.F hy, fun ad y hy => ?_, ⟨_, h4⟩, ⟨k1.trans h2.os, k2.trans h2.tape, k3.trans h2.output, by rw [k4]; exact h2.size, fun b hb => (k5 b fun fF => by have := hold b fF; omega).trans (h2.heap b hb (by simp))⟩⟩
  rcases Env.vZ hy with h | ⟨k, -, e, c, h⟩
  ·rcases h2.F _ _ h with h | h | ⟨k0, v0, e0, c0, h⟩
   ·exact .inl h
   ·exact .inr h
   ·cases h
  ·rcases h2.aK _ _ _ _ _ h with ⟨k0, v0, e0, c0, h⟩ | h
   ·cases h
   ·exact .inr h
 rcases he with rfl | rfl <;> exact post
end Go.Eng
end

section
namespace Go.Eng
variable [aG]

def mg : List (Nat × Ti) → Table
 | [], _ => none
 | (k, i) :: r, t => if t = k then some i else mg r t

def wc : Value → Value → Bool
 | .bool a, .bool b => a == b
 | .int k n, .int k' n' => k == k' && n == n'
 | .string a, .string b => a.data == b.data
 | .pointer none, .pointer none => true
 | .slice none a b, .slice none c d => a == c && b == d
 | .map none, .map none => true
 | .nilFunc, .nilFunc => true
 | .nilIface, .nilIface => true
 | _, _ => false
def jc : List Value → List Value → Bool
 | [], [] => true
 | a :: r, b :: s => wc a b && jc r s
 | _, _ => false
theorem uN {a b : Value} (h : wc a b = true) : a = b := by
 unfold wc at h
 split at h
 ·simp at h; rw [h]
 ·simp at h; rw [h.1, h.2]
 ·rename_i a b
  have : a.data = b.data := by simpa using h
  congr 1
  cases a; cases b; simp_all
 ·rfl
 ·simp at h; rw [h.1, h.2]
 ·rfl
 ·rfl
 ·rfl
 ·cases h
theorem ku : ∀ {a b : List Value}, jc a b = true → a = b
 | [], [], _ => rfl
 | x :: r, y :: s, h => by
  simp only [jc,Bool.and_eq_true] at h
  rw [uN h.1, ku h.2]
 | [], _ :: _, h => by simp [jc] at h
 | _ :: _, [], h => by simp [jc] at h

def pF (P : Program) : List Field → List (Nat × Nat) → Bool
 | [], [] => true
 | f :: r, p :: s => f.offset == p.1 && p.2 != 0 && (match P.info? f.type with | some i => i.size == p.2 | none => false) && pF P r s
 | _, _ => false

def JJ (P : Program) (t : TypeId) (i : Ti) : Bool :=
 match P.info? t with
 | none => false
 | some info => info.size == i.size && info.bytes == i.bytes && (match info.zero with | some z => jc z.cells.toList i.zero | none => false) &&
  match P.underlying t with
  | none => false
  | some d => (i.agg == (match d with | .struct _ => true | .array _ _ => true | _ => false)) &&
   (match i.elem with | none => true | some e => (match d with | .slice e' => e' == e | _ => false)) &&
   (match i.bz with | [] => true | fl => (match d with | .struct fs => pF P fs.toList fl | _ => false))

def Cu (P : Program) : List (Nat × Ti) → Bool
 | [] => true
 | (t, i) :: r => JJ P t i && Cu P r

theorem sy {P : Program} : ∀ {fs : List Field} {fl : List (Nat × Nat)}, pF P fs fl = true → fs.length = fl.length ∧ ∀ (k off sz : Nat), fl[k]? = some (off, sz) → ∃ f inf, fs[k]? = some f ∧ f.offset = off ∧ P.info? f.type = some inf ∧ inf.size = sz ∧ sz ≠ 0
 | [], [], _ => ⟨rfl, fun k off sz h => by simp at h⟩
 | f :: r, p :: s, h => by
  simp only [pF,Bool.and_eq_true,beq_iff_eq,bne_iff_ne] at h
  obtain ⟨⟨⟨h1, h2⟩, h3⟩, h4⟩ := h
  obtain ⟨h5, h6⟩ := sy h4
  refine ⟨by simp [h5], fun k off sz hk => ?_⟩
  cases k with
  | zero =>
   simp only [List.getElem?_cons_zero,Option.some.injEq] at hk; subst hk
   split at h3
   ·rename_i inf hi
    exact ⟨f, inf, rfl, h1, hi, by simpa using h3, h2⟩
   ·cases h3
  | succ k => exact h6 k off sz (by simpa using hk)
 | [], _ :: _, h => by simp [pF] at h
 | _ :: _, [], h => by simp [pF] at h

theorem Cv {P : Program} {t : TypeId} {i : Ti} (h : JJ P t i = true) :
  (∃ info, P.info? t = some info ∧ info.size = i.size ∧ info.bytes = i.bytes ∧ ∃ z, info.zero = some z ∧ z.cells.toList = i.zero) ∧
  (∃ d, P.underlying t = some d ∧ (i.agg = true ↔ ((∃ fs, d = .struct fs) ∨ ∃ n e, d = .array n e)) ∧ (∀ e, i.elem = some e → d = .slice e) ∧
   (∀ (f off sz : Nat), i.bz[f]? = some (off, sz) → ∃ fs fd inf, d = .struct fs ∧ fs.size = i.bz.length ∧ fs[f]? = some fd ∧ fd.offset = off ∧ P.info? fd.type = some inf ∧ inf.size = sz ∧ sz ≠ 0)) := by
 unfold JJ at h
 split at h
 ·cases h
 ·rename_i info RD
  simp only [Bool.and_eq_true,beq_iff_eq] at h
  obtain ⟨⟨⟨h1, h2⟩, h3⟩, h4⟩ := h
  split at h3
  ·rename_i z hz
   refine ⟨⟨info, RD, h1, h2, z, hz, ku h3⟩, ?_⟩
   split at h4
   ·cases h4
   ·rename_i d hd
    simp only [Bool.and_eq_true,beq_iff_eq] at h4
    obtain ⟨⟨h5, h6⟩, h7⟩ := h4
    refine ⟨d, hd, ?_, ?_, ?_⟩
    ·rw [h5]
     cases d <;> simp
    ·intro e he
     rw [he] at h6
     dsimp only at h6
     split at h6
     ·simp at h6; rw [h6]
     ·cases h6
    ·intro f off sz hf
     split at h7
     ·rename_i Uf; rw [Uf] at hf; simp at hf
     ·split at h7
      ·rename_i fs
       obtain ⟨h8, h9⟩ := sy h7
       obtain ⟨fd, inf, Ui, Vi⟩ := h9 f off sz hf
       exact ⟨fs, fd, inf, rfl, by simpa using h8, by simpa using Ui, Vi⟩
      ·cases h7
  ·cases h3

theorem pG {P : Program} : ∀ {l : List (Nat × Ti)}, Cu P l = true → ∀ t i, mg l t = some i → JJ P t i = true
 | [], _, t, i, h => by simp [mg] at h
 | (k, j) :: r, h, t, i, ht => by
  simp only [Cu,Bool.and_eq_true] at h
  simp only [mg] at ht
  split at ht
  ·rename_i hk; subst hk; cases ht; exact h.1
  ·exact pG h.2 t i ht
theorem tt_of {P : Program} {l : List (Nat × Ti)} (h : Cu P l = true) : TT P (mg l) :=
 ⟨fun t i ht => (Cv (pG h t i ht)).1, fun t i ht => (Cv (pG h t i ht)).2⟩
end Go.Eng
end

section
namespace Go.Eng
variable [aG]

section
variable {P : Program} {tt : Table} {ρ : Option Nat} {n0 : Nat} {st : St} {Q : Exit → St → Prop}
theorem fK (ht : TT P tt) {id : Nat} {ops : Array Oper} {y : Code} (h : ∀ K : St → Prop, (∀ st', gD P ρ n0 y st' Q → K st') → dA P tt ops ops.toList st K) : gD P ρ n0 (.seq (.region id ops false) y) st Q :=
 kp (kq ht (h (fun st' => gD P ρ n0 y st' Q) fun _ h => h))
def we : List Bool → List V → List V
 | _, [] => []
 | [], _ :: r => .undef :: we [] r
 | b :: m, v :: r => (if b = true then v else .undef) :: we m r
theorem nz {E : Env} : ∀ (m : List Bool) {vs : List V} {xs : List Value}, aQ E vs xs → aQ E (we m vs) xs
 | m, [], xs, h => by rw [h.of_nil]; cases m <;> exact .nil _
 | [], v :: r, xs, h => by
  obtain ⟨x, ys, rfl, h1, h2⟩ := h.of_cons
  exact .cons (.undef _ _) (nz [] h2)
 | b :: m, v :: r, xs, h => by
  obtain ⟨x, ys, rfl, h1, h2⟩ := h.of_cons
  refine .cons ?_ (nz m h2)
  cases b
  ·exact .undef _ _
  ·exact h1
theorem bd.mask {E : Env} {w : World} {a : Act} {st : St} (hs : bd E w a st) (m : List Bool) : bd E w a { st with fr := we m st.fr } :=
 ⟨hs.F, hs.lt, hs.mem, hs.top, hs.aC, hs.apart, nz m hs.fr⟩
theorem sA {c : Code} : ∀ {n n' : Nat} {st : St}, n ≤ n' → kU P ρ n0 c n st Q → kU P ρ n0 c n' st Q
 | 0, _, _, _, h => h.elim
 | n + 1, 0, _, hn, _ => by omega
 | n + 1, n' + 1, st, hn, h => gD.mono h fun e st' hq => by
  cases e with
  | normal => exact sA (by omega) hq
  | _ => exact hq
end

theorem aN {α β : Type} (P : Program) (s : Sem α) (f : α → Sem β) : aH P (s >>= f) = (aH P s).bind fun a => aH P (f a) := by
 show aH P (s.bind f) = _
 induction s with
 | pure a => rfl
 | program k ih => exact ih P
 | mark m k ih => exact ih
 | _ => rfl
theorem cw {P : Program} {T : TypeId} {d : TypeDesc} (h : P.underlying T = some d) : aH P (underlying T) = some d := by
 simp [underlying, aN, program, aH, h, pure]
theorem yc {P : Program} {T : TypeId} (hT : P.underlying T = some .bool) (p q : Bool) : aH P (Op.equal T (.bool p) (.bool q)) = some (p == q) := by
 show aH P (Op.equalIn (9999 + 1) T (.bool p) (.bool q)) = _
 rw [Op.equalIn, aN, cw hT]
 rfl

section ints
variable (P : Program) (T : TypeId) (x y : Operand) (k : IntKind) (a b : Int)
theorem NK : aT P (fO .add T x y) (.sc (.int k a)) (.sc (.int k b)) = some (.sc (.int k (k.wrap (a + b)))) := by
 simp [aT, bC, fO, binOp, Op.intArith, eqGuard, aH, dH, bind, pure, Sem.bind]
theorem NL : aT P (fO .sub T x y) (.sc (.int k a)) (.sc (.int k b)) = some (.sc (.int k (k.wrap (a - b)))) := by
 simp [aT, bC, fO, binOp, Op.intArith, eqGuard, aH, dH, bind, pure, Sem.bind]
theorem NM : aT P (fO .mul T x y) (.sc (.int k a)) (.sc (.int k b)) = some (.sc (.int k (k.wrap (a * b)))) := by
 simp [aT, bC, fO, binOp, Op.intArith, eqGuard, aH, dH, bind, pure, Sem.bind]
theorem NN : aT P (fO .lss T x y) (.sc (.int k a)) (.sc (.int k b)) = some (.sc (.bool (decide (a < b)))) := by
 simp [aT, bC, fO, binOp, Op.intCmp, eqGuard, aH, dH, bind, pure, Sem.bind]
theorem NO : aT P (fO .leq T x y) (.sc (.int k a)) (.sc (.int k b)) = some (.sc (.bool (decide (a ≤ b)))) := by
 simp [aT, bC, fO, binOp, Op.intCmp, eqGuard, aH, dH, bind, pure, Sem.bind]
theorem NP : aT P (fO .gtr T x y) (.sc (.int k a)) (.sc (.int k b)) = some (.sc (.bool (decide (b < a)))) := by
 simp [aT, bC, fO, binOp, Op.intCmp, eqGuard, aH, dH, bind, pure, Sem.bind]
theorem NQ : aT P (fO .geq T x y) (.sc (.int k a)) (.sc (.int k b)) = some (.sc (.bool (decide (b ≤ a)))) := by
 simp [aT, bC, fO, binOp, Op.intCmp, eqGuard, aH, dH, bind, pure, Sem.bind]
theorem NR : aT P (fO .eql T x y) (.sc (.int k a)) (.sc (.int k b)) = some (.sc (.bool (decide (a = b)))) := by
 simp [aT, bC, fO, binOp, Op.intCmp, eqGuard, aH, dH, bind, pure, Sem.bind]
 rfl
theorem NS : aT P (fO .neq T x y) (.sc (.int k a)) (.sc (.int k b)) = some (.sc (.bool (!decide (a = b)))) := by
 simp [aT, bC, fO, binOp, Op.intCmp, eqGuard, aH, dH, bind, pure, Sem.bind]
 rfl
theorem NT (ts : Array TypeId) (ty : TypeId) : cN P (Builtin.max_ ts ty) [.sc (.int k a), .sc (.int k b)] = some (.sc (.int k (if a < b then b else a))) := by
 simp [cN, jn, bC, Builtin.max_, Builtin.max2, aH, dH, bind, pure, Sem.bind]
theorem NU (ts : Array TypeId) (ty : TypeId) : cN P (Builtin.min_ ts ty) [.sc (.int k a), .sc (.int k b)] = some (.sc (.int k (if b < a then b else a))) := by
 simp [cN, jn, bC, Builtin.min_, Builtin.min2, aH, dH, bind, pure, Sem.bind]
theorem NV (t : Bool) : mW P (Op.unary .not) (.sc (.bool t)) = some (.sc (.bool (!t))) := by
 simp [mW, bC, Op.unary, aH, dH, pure]
end ints

section strings
variable (P : Program) (T : TypeId) (x y : Operand) (a b : ByteArray)
theorem JK : aT P (fO .eql T x y) (.sc (.string a)) (.sc (.string b)) = some (.sc (.bool (a.toList == b.toList))) := by
 simp [aT, bC, fO, binOp, Op.stringOp, eqGuard, aH, dH, bind, pure, Sem.bind]
theorem JL : aT P (fO .neq T x y) (.sc (.string a)) (.sc (.string b)) = some (.sc (.bool (!(a.toList == b.toList)))) := by
 simp [aT, bC, fO, binOp, Op.stringOp, eqGuard, aH, dH, bind, pure, Sem.bind]
theorem JM : aT P (fO .lss T x y) (.sc (.string a)) (.sc (.string b)) = some (.sc (.bool (Op.bytesLess a.toList b.toList))) := by
 simp [aT, bC, fO, binOp, Op.stringOp, eqGuard, aH, dH, bind, pure, Sem.bind]
theorem JN : aT P (fO .gtr T x y) (.sc (.string a)) (.sc (.string b)) = some (.sc (.bool (!(Op.bytesLess a.toList b.toList || a.toList == b.toList)))) := by
 simp [aT, bC, fO, binOp, Op.stringOp, eqGuard, aH, dH, bind, pure, Sem.bind]
theorem oD (h : ((a.size + b.size : Nat) : Int) ≤ IntKind.i64.max) : aT P (fO .add T x y) (.sc (.string a)) (.sc (.string b)) = some (.sc (.string (a ++ b))) := by
 have h' : ¬ ((a.size + b.size : Nat) : Int) > IntKind.i64.max := by omega
 simp only [aT,bC,fO,binOp,Op.stringOp,if_neg h']
 simp [eqGuard, aH, dH, bind, pure, Sem.bind]
theorem cQ {P : Program} {T : TypeId} (hT : P.underlying T = some .string) (k : IntKind) (n : Int) (h0 : 0 ≤ n) {c : UInt8} (hc : a[n.toNat]? = some c) : aT P (Instr.index T) (.sc (.string a)) (.sc (.int k n)) = some (.sc (.int .u8 c.toNat)) := by
 simp [aT, bC, Instr.index, asIntOf, underlying, hT, h0, hc, aH, dH, bind, pure, Sem.bind, program]
theorem cx {P : Program} {tt : Table} {T : TypeId} (hT : P.underlying T = some .string) (ty : TypeId) : ra P tt #[T] ty [.sc (.string a)] = some (.sc (.int .i64 a.size)) := by
 simp [ra, cN, jn, bC, Builtin.len_, underlying, hT, aH, dH, bind, pure, Sem.bind, program, goInt]
theorem yd {P : Program} {tt : Table} {mem : List ay} {T : TypeId} (hT : P.underlying T = some .string) (k : IntKind) (n : Int) (h0 : 0 ≤ n) (hn : n ≤ a.size) :
  rT P tt mem T (.sc (.string a)) none (some (.sc (.int k n))) = some (.sc (.string (a.extract 0 n.toNat))) := by
 simp [rT, aT, bC, Instr.sliceAt, Instr.slice, Instr.sliceBounds, Instr.sliceBound, asIntOf, underlying, hT, h0, hn, aH, dH, bind, pure, Sem.bind, program]
theorem D3 {P : Program} {tt : Table} {mem : List ay} {T : TypeId} (hT : P.underlying T = some .string) (k k' : IntKind) (l h : Int) (h0 : 0 ≤ l) (h1 : l ≤ h) (hn : h ≤ a.size) :
  rT P tt mem T (.sc (.string a)) (some (.sc (.int k l))) (some (.sc (.int k' h))) = some (.sc (.string (a.extract l.toNat h.toNat))) := by
 have h2 : 0 ≤ h := by omega
 have h3 : l ≤ max h 0 := by omega
 simp [rT, aT, bC, Instr.sliceAt, Instr.slice, Instr.sliceBounds, Instr.sliceBound, asIntOf, underlying, hT, h0, h2, hn, h3, h1, aH, dH, bind, pure, Sem.bind, program]
theorem JO {P : Program} {T : TypeId} (hT : P.underlying T = some .bool) (p q : Bool) : aT P (fO .eql T x y) (.sc (.bool p)) (.sc (.bool q)) = some (.sc (.bool (p == q))) := by
 have : aH P (do eqGuard .eql T x y (.bool p) (.bool q); binOp .eql T (.bool p) (.bool q)) = some (.bool (p == q)) := by
  show aH P ((Op.equal T (.bool p) (.bool q)) >>= fun r => Pure.pure (Value.bool r)) = _
  rw [aN, yc hT]; rfl
 simp only [aT,bC,fO,this]; rfl
theorem ey {P : Program} {src dst : TypeId} {d : TypeDesc} {k' : IntKind} (hs : P.underlying src = some d) (hd : P.underlying dst = some (.int k')) (k : IntKind) (n : Int) : mW P (convert src dst) (.sc (.int k n)) = some (.sc (.int k' (k'.wrap n))) := by
 simp [mW, bC, convert, underlying, hs, hd, Conv.intToInt, aH, dH, bind, pure, Sem.bind, program]
end strings
end Go.Eng
end

section
namespace Go.Eng
variable [aG]
open Go.RowKit (Below)

theorem dt.cut {E E' : Env} {w w' : World} (h : dt E w E' w') {n : Nat} (hn : ∀ k, n ≤ k → ∀ v, E.aK k v = none) : dt E w (E'.cut n) w' := by
 refine ⟨⟨h.le.F, fun k v t hk => ?_⟩, fun k v g e c hk => ?_, h.F, h.os, h.tape, h.output, h.size, h.heap⟩
 ·have : k < n := by
   rcases Nat.lt_or_ge k n with aB | cB
   ·exact aB
   ·rw [hn k cB v] at hk; cases hk
  exact (if_pos this).trans (h.le.aK _ _ _ hk)
 ·have : E'.aK k v = some (g, e, c) := by
   by_cases eR : k < n
   ·exact ((if_pos eR).symm.trans hk : E'.aK k v = _)
   ·have h2 : (E'.cut n).aK k v = none := if_neg eR
    rw [h2] at hk; cases hk
  exact h.aK _ _ _ _ _ this

def iE (tt : Table) (rs : Array ResultVar) (st : St) : Option V :=
 match lC tt st rs.toList with
 | some [v] => some v
 | some vs => some (.bT vs)
 | none => none

theorem wg {P : Program} {tt : Table} (ht : TT P tt) {E : Env} {w : World} {a : Act} {st : St} (hs : bd E w a st) {fn : Func} {r : V} (h : iE tt fn.results st = some r) : ∃ x, (results fn a.tmps).run P w = .ok x w ∧ aX E r x := by
 unfold iE at h
 have run : ∀ xs : List Value, (fn.results.toList.mapM (fun | .tmp t => pure (a.tmps.getD t undef) | .cell p t => do loadVar t (← asAddr (a.tmps.getD p undef))) : Sem (List Value)).run P w = .ok xs w →
   (results fn a.tmps).run P w = .ok (if h : xs.toArray.size = 1 then xs.toArray[0] else .tuple xs.toArray) w := fun xs hx => by
  unfold results
  rw [Array.mapM_eq_mapM_toList]
  simp only [Sem.run_bind,Sem.run_map]
  erw [hx]
  rfl
 split at h
 ·rename_i v hv
  simp only [Option.some.injEq] at h; subst h
  obtain ⟨xs, h1, h2⟩ := iD ht hs _ _ hv
  obtain ⟨x, ys, rfl, h3, h4⟩ := h2.of_cons
  have := h4.of_nil; subst this
  exact ⟨x, run _ h1, h3⟩
 ·rename_i vs bO hv
  simp only [Option.some.injEq] at h; subst h
  obtain ⟨xs, h1, h2⟩ := iD ht hs _ _ hv
  have hl : xs.toArray.size ≠ 1 := by
   have := h2.1
   intro he
   match vs, xs, this, he with
   | [v], _, _, _ => exact bO v rfl
   | [], [], _, he => simp at he
   | [], _ :: _, h, _ => simp at h
   | _ :: _ :: _, [], h, _ => simp at h
   | _ :: _ :: _, _ :: [], h, _ => simp at h
   | _ :: _ :: _, _ :: _ :: _, _, he => simp at he
  have h3 := run _ h1
  rw [dif_neg hl] at h3
  exact ⟨_, h3, .bT _ _ _ (by simpa using h2.1) fun i c x hc hx => h2.2 i c x hc (by simpa using hx)⟩
 ·cases h

theorem Gb {P : Program} {tt : Table} (ht : TT P tt) {f : FuncId} {fn : Func} {body : Code} {args : List V} {mem : List ay} {R : V → List ay → Prop} (hf : P.funcs[f]? = some fn) (hb : fn.body = some body)
  (dB : ∀ (xs : Array Value) (w : World), (callFunc f xs).run P w = .ok (.enter f xs) w)
  (h : gD P none mem.length body (ew fn args mem) fun ex st' => (ex = .ret ∨ ex = .normal) ∧ ∃ r n, mem.length ≤ n ∧ iE tt fn.results st' = some r ∧ ai n r = true ∧ (st'.mem.take n).all (aA n) = true ∧ R r (st'.mem.take n)) : gH P f args mem R := by
 refine ⟨dB, fun E w xs FD hx => x9 (n := 0) (callsIn_of_wp_marks hf hb trivial ?_)⟩
 have hs : bd E w { tmps := xs ++ Array.replicate (fn.ntmps - xs.size) undef, defers := [] } (ew fn args mem) := ⟨FD.F, FD.lt, FD.mem, FD.top, FD.aC, FD.apart, qE fn hx⟩
 refine wpIn_mono (h E w FD.top E w _ (dt.refl _ w) hs (.nil _ _ _)) ?_
 rintro e a' w' ⟨E', st', h1, h2, ⟨rs, hd, ko, FV⟩, he, r, n, hn, hr, YV, Jb, hR⟩
 have post : LeavesInM (WF none) 0 P fn a'.tmps (fun e w' => ∃ E' x r aF, e = .returned x ∧ R r aF ∧ dt E w E' w' ∧ bd E' w' { tmps := #[], defers := [] } { fr := [], mem := aF } ∧ aX E' r x) a'.defers .returning w' := by
  rw [hd]
  refine kr rs w' ko (fun r hr => (FV r hr).2.1) fun w2 k1 k2 k3 k4 k5 => ?_
  have gQ := h1.F9 (fun r hr => (FV r hr).2) k4 k5
  obtain ⟨x, h3, h4⟩ := wg ht gQ hr
  have du : dt E w E' w2 := ⟨h2.le, h2.aK, h2.F, k1.trans h2.os, k2.trans h2.tape, k3.trans h2.output, by rw [k4]; exact h2.size, fun b hb bO => (k5 b fun fF => by have := (FV b fF).1; omega).trans (h2.heap b hb bO)⟩
  exact ⟨x, h3, E'.cut n, x, r, _, rfl, hR, du.cut fun k hk v => FD.top k (by dsimp only; omega) v, gQ.bare.cut (by rfl) Jb, fh h4 YV⟩
 rcases he with rfl | rfl <;> exact post

theorem Gc {P : Program} {tt : Table} (ht : TT P tt) {f : FuncId} {fn : Func} {body : Code} {args : List V} {mem : List ay} {r : V} {aF : List ay} (n : Nat) (hn : mem.length ≤ n) (hf : P.funcs[f]? = some fn) (hb : fn.body = some body)
  (dB : ∀ (xs : Array Value) (w : World), (callFunc f xs).run P w = .ok (.enter f xs) w)
  (h : gD P none mem.length body (ew fn args mem) fun ex st' => (ex = .ret ∨ ex = .normal) ∧ iE tt fn.results st' = some r ∧ ai n r = true ∧ (st'.mem.take n).all (aA n) = true ∧ aF = st'.mem.take n) : aU P f args mem r aF :=
 (Gb ht hf hb dB (R := fun r' m' => r' = r ∧ m' = aF) (h.mono fun ex st' ⟨h1, h2, h3, h4, h5⟩ => ⟨h1, r, n, hn, h2, h3, h4, rfl, h5.symm⟩)).XB

def uO : List Tmp → List V → List V → List V
 | t :: ts, v :: vs, fr => uO ts vs (fr.set t v)
 | _, _, fr => fr
theorem uP {E : Env} : ∀ (ts : List Tmp) {vs : List V} {xs : List Value} {fr : List V} {tmps : Array Value}, aQ E vs xs → aQ E fr tmps.toList → aQ E (uO ts vs fr) ((ts.zip xs).foldl (fun (tmps : Array Value) (p : Tmp × Value) => tmps.setIfInBounds p.1 p.2) tmps).toList
 | [], vs, xs, fr, tmps, _, h => by cases vs <;> exact h
 | t :: ts, [], xs, fr, tmps, hv, h => by rw [hv.of_nil]; exact h
 | t :: ts, v :: vs, xs, fr, tmps, hv, h => by
  obtain ⟨x, ys, rfl, h1, h2⟩ := hv.of_cons
  simp only [uO,List.zip_cons_cons,List.foldl_cons]
  exact uP ts h2 (by simpa using h.set t h1)

def Au : Exit → Option (Option Code)
 | .normal => some none
 | .ret => some (some .ret)
 | .exit id => some (some (.exit id))
 | .goto l => some (some (.goto l))
 | _ => none

theorem wh {P : Program} {k : Nat} {fr vs : List V} {params : Array Tmp} {assign body : Code} {mem : List ay} {R : Bool → List ay → Prop} (hk : mem[k]? = some (.loop .ready none fr params assign body)) (hlen : vs.length = params.size)
  (h : ∀ l, gD P (some l) mem.length assign { fr := uO params.toList vs fr, mem := mem } fun ex st1 => ex = .normal ∧ ∃ Mp p1 JP JQ, st1.mem[k]? = some (.loop .ready none Mp p1 JP JQ) ∧
   gD P (some l) mem.length body { st1 with mem := st1.mem.set k (.loop .busy none Mp p1 JP JQ) } fun ex st2 => ∃ n jump s2 Uj JR p2 Gd Ge, mem.length ≤ n ∧ Au ex = some jump ∧ st2.mem[k]? = some (.loop s2 Uj JR p2 Gd Ge) ∧
    ((st2.mem.set k (.loop (if jump.isNone then .ready else .done) jump JR p2 Gd Ge)).take n).all (aA n) = true ∧
    R jump.isNone ((st2.mem.set k (.loop (if jump.isNone then .ready else .done) jump JR p2 Gd Ge)).take n)) :
  D1 P k vs mem R := by
 intro E w xs l e c hs hx hb
 obtain ⟨l', fn, tmps, db, eP, hh, hr, hf⟩ := hs.mem k _ hk
 rw [hb] at eP; cases eP
 have eS : ∀ {W : World} {R : Loop}, W.heap[l]? = some (.loop R) → (Instr.getLoop l).run P W = .ok R W := fun {W R} hW => by
  simp [Instr.getLoop, getObj, Sem.run, hW, bind, Sem.bind, pure]
 have yb : ∀ {W : World} {R : Loop} {o : Obj}, W.heap[l]? = some (.loop R) → (setObj l o).run P W = .ok () { W with heap := W.heap.setIfInBounds l o } := fun {W R o} hW => by
  simp [setObj, Sem.run, hW]
 have xQ : xs.size = params.size := by have := hx.1; simp at this; omega
 refine ⟨fn, (params.zip xs).foldl (fun tmps (p : Tmp × Value) => tmps.setIfInBounds p.1 p.2) tmps, assign, body, ?_, ?_⟩
 ·simp only [Instr.yield,Sem.run_bind,eS hh,Result.andThen_ok,xQ,ne_eq,not_true_eq_false,if_false]
  rfl
 ·refine roundIn_of_wpIn trivial ?_
  have jC : bd E w { tmps := (params.zip xs).foldl (fun tmps (p : Tmp × Value) => tmps.setIfInBounds p.1 p.2) tmps, defers := [] } { fr := uO params.toList vs fr, mem := mem } := by
   refine ⟨hs.F, hs.lt, hs.mem, hs.top, hs.aC, hs.apart, ?_⟩
   have := uP (E := E) params.toList hx hr
   rw [← Array.foldl_toList, Array.toList_zip]
   exact this
  refine wpIn_mono (h l E w hs.top E w _ (dt.refl E w) jC (.nil _ _ _)) ?_
  rintro ex a1 w1 ⟨E1, st1, h1, h2, YW, rfl, Mp, p1, JP, JQ, fJ, h3⟩
  obtain ⟨l1, XG, Mq, XH, rB, Qz, Ak, Ry⟩ := h1.mem k _ fJ
  have NW : E1.aK k 0 = some (l, 0, 0) := h2.le.aK _ _ _ hb
  rw [NW] at rB; cases rB
  have only : ∀ (W : World) (o : Obj), oq W { W with heap := W.heap.setIfInBounds l o } l := fun W o => ⟨rfl, rfl, rfl, by simp, fun b hb => Array.getElem?_setIfInBounds_ne (fun e => hb e.symm)⟩
  have aB : ∀ {W : World} {o : Obj}, W.heap[l]? = some o → l < W.heap.size := fun {W o} hW => (Array.getElem?_eq_some_iff.1 hW).1
  have t1 := h1.xM fJ rfl (B' := .loop .busy none Mp p1 JP JQ) rfl NW Ry (only w1 (.loop { state := .busy, pending := none, fn := XG, tmps := Mq, params := p1, assign := JP, body := JQ, defers := XH }))
   ⟨l, XG, Mq, XH, NW, by simp [aB Qz], Ak, Ry⟩
  refine ⟨_, by simp [Instr.beginRound, eS Qz, yb Qz]; rfl, ?_⟩
  refine wpIn_mono (h3 E w hs.top E1 _ a1 (h2.trans t1.2) t1.1 ?_) ?_
  ·exact YW.FB t1.2
  ·rintro ex a2 w2 ⟨E2, st2, h4, h5, -, n, jump, s2, Uj, JR, p2, Gd, Ge, rf, hj, jA, Jb, hR⟩
   obtain ⟨l2, Vj, Gf, Vk, si, Mi, re, Ug⟩ := h4.mem k _ jA
   have NY : E2.aK k 0 = some (l, 0, 0) := h5.le.aK _ _ _ hb
   rw [NY] at si; cases si
   have t2 := h4.xM jA rfl (B' := .loop (if jump.isNone then .ready else .done) jump JR p2 Gd Ge) rfl NY Ug
    (only w2 (.loop { state := if jump.isNone then .ready else .done, pending := jump, fn := Vj, tmps := Gf, params := p2, assign := Gd, body := Ge, defers := Vk })) ⟨l, Vj, Gf, Vk, NY, by simp [aB Mi], re, Ug⟩
   have run : (Instr.endRound l jump).run P w2 = .ok (.bool jump.isNone) { w2 with heap := w2.heap.setIfInBounds l (.loop { state := if jump.isNone then .ready else .done, pending := jump, fn := Vj, tmps := Gf, params := p2, assign := Gd, body := Ge, defers := Vk }) } := by
    simp [Instr.endRound, eS Mi, yb Mi]
   have fin : ∃ v w', (Instr.endRound l jump).run P w2 = .ok v w' ∧ ∃ E' b aF, Ending.returned v = .returned (.bool b) ∧ R b aF ∧ dt E w E' w' ∧ bd E' w' { tmps := #[], defers := [] } { fr := [], mem := aF } :=
    ⟨_, _, run, E2.cut n, _, _, rfl, hR, (h5.trans t2.2).cut (fun k hk v => hs.top k (Nat.le_trans rf hk) v), t2.1.bare.cut (by rfl) Jb⟩
   cases ex <;> simp only [Au,Option.some.injEq,reduceCtorEq] at hj <;> subst hj <;> exact fin


theorem sB {P : Program} {n0 : Nat} {st : St} {Q : Exit → St → Prop} {f : Operand} {params : Array Tmp} {assign body : Code} {g : FuncId} {vs : List V} {R : V → List ay → Prop} (hc : bn (st.eval f) [.ia st.mem.length] = some (g, vs))
  (Jg : gH P g vs (st.mem ++ [.loop .ready none st.fr params assign body]) R)
  (hq : ∀ r Av, R r Av → ∃ s jm Uk Mr Ms Mt, Av[st.mem.length]? = some (.loop s jm Uk Mr Ms Mt) ∧ s ≠ .busy ∧ (match jm with | none => Q .normal { st with mem := Av.set st.mem.length .dead } | some c => gD P none n0 c { st with mem := Av.set st.mem.length .dead } Q)) :
  gD P none n0 (.rangeFunc f params assign body) st Q := fun E0 w0 h0 E w a he hs fQ => by
 refine wpIn_rangeFunc fun fn _ => ?_
 -- dU Vl block, dU Vm record
 let w1 : World := w.alloc (.deferred (some []))
 let L : Loop := { state := .ready, pending := none, fn := fn, tmps := a.tmps, params := params, assign := assign, body := body, defers := w.heap.size }
 let w2 : World := w1.alloc (.loop L)
 have eR : ∀ v, E.aK st.mem.length v = none := hs.top _ (Nat.le_refl _)
 have hle : E.le (E.with st.mem.length 0 (w.heap.size + 1, 0, 0)) := Env.gz (eR 0) _
 have cf : (E.with st.mem.length 0 (w.heap.size + 1, 0, 0)).aK st.mem.length 0 = some (w.heap.size + 1, 0, 0) := if_pos ⟨rfl, rfl⟩
 have hblk : ∀ k v, ¬ (k = st.mem.length ∧ v = 0) → (E.with st.mem.length 0 (w.heap.size + 1, 0, 0)).aK k v = E.aK k v := fun k v h => if_neg h
 have hold : ∀ b, b < w.heap.size → w2.heap[b]? = w.heap[b]? := fun b hb => (Go.RowKit.Below.heap_alloc w1 _ b (by simp [w1]; omega)).trans (Go.RowKit.Below.heap_alloc w _ b hb)
 have D4 : w2.heap[w.heap.size + 1]? = some (.loop L) := by
  have : w1.heap.size = w.heap.size + 1 := by simp [w1]
  show (w1.alloc (.loop L)).heap[w.heap.size + 1]? = _
  rw [← this]; exact heap_alloc_new w1 _
 have du : dt E w (E.with st.mem.length 0 (w.heap.size + 1, 0, 0)) w2 := by
  refine ⟨hle, fun k v g e c hk => ?_, fun ad x hx => .inl hx, rfl, rfl, rfl, by simp [w2, w1]; omega, fun b hb _ => hold b hb⟩
  by_cases bR : k = st.mem.length ∧ v = 0
  ·obtain ⟨rfl, rfl⟩ := bR; rw [cf] at hk; cases hk; exact .inr (by omega)
  ·rw [hblk k v bR] at hk; exact .inl ⟨_, _, _, _, hk⟩
 have YX : ∀ o, E.F ⟨w.heap.size + 1, o, none⟩ = none := fun o => by
  cases hx : E.F ⟨w.heap.size + 1, o, none⟩ with
  | none => rfl
  | some x => have := World.block_lt_of_cell? w _ (hs.F _ _ hx); simp at this; omega
 have gQ : bd (E.with st.mem.length 0 (w.heap.size + 1, 0, 0)) w2 { tmps := #[], defers := [] } { fr := [], mem := st.mem ++ [.loop .ready none st.fr params assign body] } := by
  have eS : ∀ {k : Nat} {B : ay}, (st.mem ++ [ay.loop .ready none st.fr params assign body])[k]? = some B → (k < st.mem.length ∧ st.mem[k]? = some B) ∨ (k = st.mem.length ∧ B = .loop .ready none st.fr params assign body) := fun {k B} h => by
   rw [List.getElem?_append] at h
   split at h
   ·rename_i aB; exact .inl ⟨aB, h⟩
   ·have Mu : k - st.mem.length = 0 := by
     rcases Nat.eq_zero_or_pos (k - st.mem.length) with h0 | h0
     ·exact h0
     ·rw [List.getElem?_eq_none (by simp; omega)] at h; cases h
    rw [Mu] at h; simp at h
    exact .inr ⟨by omega, h.symm⟩
  refine ⟨fun ad x hx => ?_, fun k v g e c hk => ?_, fun k B hk => ?_, fun k hk v => ?_, fun k B hk v hv => ?_, fun k k' v v' g e1 c1 e2 c2 h5 h6 => ?_, .nil _⟩
  ·have hc := hs.F ad x hx
   rw [← hc]; simp [World.cell?, hold _ (World.block_lt_of_cell? w ad hc)]
  ·by_cases bR : k = st.mem.length ∧ v = 0
   ·obtain ⟨rfl, rfl⟩ := bR; rw [cf] at hk; cases hk; simp [w2, w1]
   ·rw [hblk k v bR] at hk; have := hs.lt _ _ _ _ _ hk; simp [w2, w1]; omega
  ·rcases eS hk with ⟨aB, eQ⟩ | ⟨rfl, rfl⟩
   ·exact (hs.mem k B eQ).mono hle (fun v h => by rw [hblk k v (by omega)]; exact h) (fun g e c h => hold g (hs.lt _ _ _ _ _ h)) fun _ _ _ _ _ h => h
   ·exact ⟨w.heap.size + 1, fn, a.tmps, w.heap.size, cf, D4, hs.fr.mono hle, YX⟩
  ·dsimp only at hk
   simp at hk
   rw [hblk k v (by omega)]; exact hs.top k (by omega) v
  ·rcases eS hk with ⟨aB, eQ⟩ | ⟨rfl, rfl⟩
   ·rw [hblk k v (by omega)]; exact hs.aC k B eQ v hv
   ·rw [hblk _ v (by simp [ay.aC] at hv; omega)]; exact eR v
  ·by_cases bR : k = st.mem.length ∧ v = 0 <;> by_cases vM : k' = st.mem.length ∧ v' = 0
   ·rw [bR.1, vM.1]
   ·obtain ⟨rfl, rfl⟩ := bR; rw [cf] at h5; cases h5; rw [hblk k' _ vM] at h6; have := hs.lt _ _ _ _ _ h6; omega
   ·obtain ⟨rfl, rfl⟩ := vM; rw [cf] at h6; cases h6; rw [hblk k _ bR] at h5; have := hs.lt _ _ _ _ _ h5; omega
   ·rw [hblk k _ bR] at h5; rw [hblk k' _ vM] at h6
    exact hs.apart _ _ _ _ _ _ _ _ _ h5 h6
 have DQ : aQ (E.with st.mem.length 0 (w.heap.size + 1, 0, 0)) [.ia st.mem.length] (#[Value.func (.yield (w.heap.size + 1)) #[] #[]] : Array Value).toList := .cons (.ia _ _ _ 0 0 cf) (.nil _)
 obtain ⟨d, ys, hy, NG, D2⟩ := ss (P := P) (w := w2) ((hs.eval f).mono hle) DQ hc
 have RF := fQ.FB du
 refine ⟨w.heap.size + 1, [{ target := .collected w.heap.size, args := #[] }], w2, d, w2, g, ys, w2, ?_, ?_, fun _ _ => trivial, D2.trans (Jg.1 ys w2), fun h => by simp [WF] at h, ?_⟩
 ·exact run_enterLoop_outer _ _ _ _ _
 ·refine Eq.trans ?_ NG
  simp only [rangeCall,resolve]
  simp [Act.eval]
 ·refine su ((Jg.2 _ w2 ys gQ hy).mono ?_)
  rintro e w3 ⟨E3, x, r, Av, rfl, YY, Gg, QF, -⟩
  obtain ⟨s, jm, Uk, Mr, Ms, Mt, NZ, RG, Mv⟩ := hq r Av YY
  obtain ⟨l3, Ul, Cw, Um, QG, Vn, hr3, Vf⟩ := QF.mem _ _ NZ
  have RH : E3.aK st.mem.length 0 = some (w.heap.size + 1, 0, 0) := Gg.le.aK _ _ _ cf
  rw [RH] at QG; cases QG
  have YZ : w.heap.size + 1 < w3.heap.size := (Array.getElem?_eq_some_iff.1 Vn).1
  have Y0 : (s == LoopState.busy) = false := by cases s <;> first | rfl | exact absurd rfl RG
  have Vo := hs.xX QF (Env.le_trans hle Gg.le)
  have t := Vo.xM NZ rfl (B' := .dead) rfl RH Vf (w' := { w3 with heap := w3.heap.setIfInBounds (w.heap.size + 1) (.loop { state := .exhausted, pending := jm, fn := Ul, tmps := Cw, params := Mr, assign := Ms, body := Mt, defers := Um }) })
   ⟨rfl, rfl, rfl, by simp, fun b hb => Array.getElem?_setIfInBounds_ne (fun e => hb e.symm)⟩ trivial
  have RJ : dt E0 w0 E3 _ := (he.trans (du.trans Gg)).trans t.2
  have RL : Marks E3 { w3 with heap := w3.heap.setIfInBounds (w.heap.size + 1) (.loop { state := .exhausted, pending := jm, fn := Ul, tmps := Cw, params := Mr, assign := Ms, body := Mt, defers := Um }) } w0.heap.size ({ target := .collected w.heap.size, args := #[] } :: a.defers) := by
   obtain ⟨rs, m1, m2, m3⟩ := (RF.FB Gg).FB t.2
   have RM : w2.heap[w.heap.size]? = some (.deferred (some [])) := (Go.RowKit.Below.heap_alloc w1 _ _ (by simp [w1])).trans (heap_alloc_new w _)
   have Jc : ∀ k v e c, (E.with st.mem.length 0 (w.heap.size + 1, 0, 0)).aK k v ≠ some (w.heap.size, e, c) := fun k v e c hk => by
    by_cases bR : k = st.mem.length ∧ v = 0
    ·obtain ⟨rfl, rfl⟩ := bR; rw [cf] at hk; simp at hk
    ·rw [hblk k v bR] at hk; have := hs.lt _ _ _ _ _ hk; omega
   have one : Marks (E.with st.mem.length 0 (w.heap.size + 1, 0, 0)) w2 w0.heap.size [{ target := .collected w.heap.size, args := #[] }] := ⟨[w.heap.size], rfl, by simp, fun r hr => by
    simp at hr; subst hr; exact ⟨he.size, RM, Jc⟩⟩
   obtain ⟨rs', n1, n2, n3⟩ := (one.FB Gg).FB t.2
   have Nr : rs' = [w.heap.size] := by
    match rs', n1 with
    | [r], h => simp at h; rw [h]
    | [], h => simp at h
    | _ :: _ :: _, h => simp at h
   subst Nr
   refine ⟨w.heap.size :: rs, by rw [m1]; rfl, ?_, fun r hr => ?_⟩
   ·rw [List.nodup_cons]
    refine ⟨fun fF => ?_, m2⟩
    -- an elder mark ba below
    obtain ⟨Ud, q1, q2, q3⟩ := fQ
    have uE : rs = Ud := by
     have := m1.symm.trans q1
     have inj : ∀ (xs ys : List Nat), xs.map (fun r => ({ target := .collected r, args := #[] } : Deferred)) = ys.map (fun r => { target := .collected r, args := #[] }) → xs = ys := by
      intro xs
      induction xs with
      | nil => intro ys h; cases ys with | nil => rfl | cons y ys => simp at h
      | cons x xs ih => intro ys h; cases ys with | nil => simp at h | cons y ys => simp at h; rw [h.1, ih ys (by simpa using h.2)]
     exact inj _ _ this
    subst uE
    have := (q3 _ fF).2.1
    rw [Array.getElem?_eq_none (Nat.le_refl _)] at this; cases this
   ·rcases List.mem_cons.1 hr with rfl | hr
    ·exact n3 _ (by simp)
    ·exact m3 r hr
  refine ⟨jm, { w3 with heap := w3.heap.setIfInBounds (w.heap.size + 1) (.loop { state := .exhausted, pending := jm, fn := Ul, tmps := Cw, params := Mr, assign := Ms, body := Mt, defers := Um }) }, ?_, ?_⟩
  ·have hg : (Instr.getLoop (w.heap.size + 1)).run P w3 = .ok { state := s, pending := jm, fn := Ul, tmps := Cw, params := Mr, assign := Ms, body := Mt, defers := Um } w3 := by
    simp [Instr.getLoop, getObj, Sem.run, Vn, bind, Sem.bind, pure]
   simp only [Instr.endLoop,Sem.run_bind,hg,Result.andThen_ok,Y0,Bool.false_eq_true,if_false]
   simp [setObj, Sem.run, Vn]
  ·cases jm with
   | none => exact ⟨E3, _, ⟨t.1.F, t.1.lt, t.1.mem, t.1.top, t.1.aC, t.1.apart, t.1.fr⟩, RJ, RL, Mv⟩
   | some c => exact Mv E0 w0 h0 E3 _ { a with defers := { target := .collected w.heap.size, args := #[] } :: a.defers } RJ ⟨t.1.F, t.1.lt, t.1.mem, t.1.top, t.1.aC, t.1.apart, t.1.fr⟩ RL
end Go.Eng
end

section
namespace Go.Eng
variable [aG]
open Go.RowKit (Below)

inductive JS where
 | n | r | a | w | s | b | z | e
 deriving DecidableEq
structure Pl where
 cls : JS
 key : Nat
 mask : List Nat
 Mw : List Nat := []
 abs : List Nat := []

def ye (m : List ay) (k : Nat) : List ay := match m[k]? with
 | some B => if B.aC = 0 then m.set k .dead else m
 | none => m
def dm : List Nat → List ay → List ay
 | [], m => m
 | k :: r, m => dm r (ye m k)
def gV (b : Bool) (B : ay) : ay := if b = true ∧ B.aC = 0 then .dead else B
theorem D5 (m : List ay) (k q : Nat) : (ye m k)[q]? = (m[q]?).map (gV (q == k)) := by
 unfold ye
 by_cases hq : q = k
 ·subst hq
  cases h : m[q]? with
  | none => simp [h]
  | some B =>
   have aB : q < m.length := (List.getElem?_eq_some_iff.1 h).1
   simp only [beq_self_eq_true,Option.map_some,gV,true_and]
   split
   ·rename_i hv; simp [List.getElem?_set, aB]
   ·rename_i hv; exact h
 ·have hb : (q == k) = false := by simpa using hq
  have hid : (m[q]?).map (gV (q == k)) = m[q]? := by rw [hb]; cases m[q]? <;> simp [gV]
  rw [hid]
  cases h : m[k]? with
  | none => rfl
  | some B =>
   dsimp only
   split
   ·exact List.getElem?_set_ne (fun e => hq e.symm)
   ·rfl
theorem uk (b c : Bool) (B : ay) : gV b (gV c B) = gV (b || c) B := by
 have hd : ay.dead.aC = 0 := rfl
 unfold gV
 cases b <;> cases c <;> by_cases hv : B.aC = 0 <;> simp [hv, hd]
theorem mh : ∀ (ks : List Nat) (m : List ay) (q : Nat), (dm ks m)[q]? = (m[q]?).map (gV (ks.contains q))
 | [], m, q => by cases h : m[q]? <;> simp [dm, h, gV]
 | k :: r, m, q => by
  rw [dm, mh r, D5]
  cases m[q]? with
  | none => rfl
  | some B =>
   simp only [Option.map_some,uk,List.contains_cons]
   rw [Bool.or_comm]
theorem oE : ∀ (ks : List Nat) (m : List ay), (dm ks m).length = m.length
 | [], m => rfl
 | k :: r, m => by
  rw [dm, oE r]
  unfold ye
  split
  ·split <;> simp
  ·rfl
theorem mi {ks : List Nat} {m : List ay} {k : Nat} {B0 B : ay} (hk : k ∈ ks) (hm : m[k]? = some B0) (h0 : B0.aC = 0) (hB : B.aC = 0) : dm ks (m.set k B) = dm ks m := by
 refine List.ext_getElem? fun q => ?_
 rw [mh, mh]
 by_cases hq : q = k
 ·subst hq
  have aB : q < m.length := (List.getElem?_eq_some_iff.1 hm).1
  have hc : ks.contains q = true := by simpa using hk
  rw [List.getElem?_set, if_pos rfl, if_pos aB, hm]
  simp [gV, hB, h0, hk]
 ·rw [List.getElem?_set_ne (fun e => hq e.symm)]

theorem bd.dm {E : Env} {w : World} {a : Act} {st : St} (hs : bd E w a st) (ks : List Nat) : bd E w a { st with mem := Eng.dm ks st.mem } := by
 have get : ∀ {k : Nat} {B : ay}, (Eng.dm ks st.mem)[k]? = some B → ∃ B0 : ay, st.mem[k]? = some B0 ∧ (B = B0 ∨ B = ay.dead ∧ B0.aC = 0) := fun {k B} h => by
  rw [mh] at h
  cases h0 : st.mem[k]? with
  | none => rw [h0] at h; cases h
  | some B0 =>
   rw [h0] at h
   simp only [Option.map_some,Option.some.injEq] at h
   refine ⟨B0, rfl, ?_⟩
   unfold gV at h
   split at h
   ·rename_i hc; exact .inr ⟨h.symm, hc.2⟩
   ·exact .inl h.symm
 refine ⟨hs.F, hs.lt, fun k B hk => ?_, fun k hk => hs.top k (by simpa [oE] using hk), fun k B hk v hv => ?_, hs.apart, hs.fr⟩
 ·obtain ⟨B0, h0, rfl | ⟨rfl, -⟩⟩ := get hk
  ·exact hs.mem k _ h0
  ·trivial
 ·obtain ⟨B0, h0, rfl | ⟨rfl, h1⟩⟩ := get hk
  ·exact hs.aC k _ h0 v hv
  ·exact hs.aC k _ h0 v (by rw [h1]; exact hv)

/-! ### what one operation makes -/

def wi (P : Program) (f : FuncId) (vs : List V) (r : V) : Prop := aP P f vs r ∨ sr P f vs r
def RO (P : Program) (f : FuncId) (vs : List V) (Q : V → Prop) : Prop := ∃ vs' r, cD [] vs = some vs' ∧ wi P f vs' r ∧ Q r

def rh (P : Program) (tt : Table) (o : Oper) (st : St) : Option V :=
 match o.op with
 | .build T parts => gU P tt T parts.toList st.eval
 | .buildSlice T len parts => match po tt T len parts.toList st.eval with
  | some (_, rs) => some (.slice rs)
  | none => none
 | _ => fP P tt st o
def mL (P : Program) (tt : Table) (o : Oper) (st : St) (Q : V → Prop) : Prop :=
 match o.op with
 | .call { callee := .value f, args := xs, .. } => match bn (st.eval f) (xs.toList.map st.eval) with
  | some (g, vs) => RO P g vs Q
  | none => False
 | _ => match rh P tt o st with
  | some v => Q v
  | none => False
def RQ (P : Program) (f : FuncId) (vs : List V) (st : St) (dst : Option Tmp) (Q : St → Prop) : Prop := ∃ vs' r, cD [] vs = some vs' ∧ wi P f vs' r ∧ Q (st.put dst r)
def wj (P : Program) (tt : Table) (o : Oper) (um st : St) (Q : St → Prop) : Prop :=
 match o.op with
 | .call { callee := .value f, args := xs, .. } => match bn (um.eval f) (xs.toList.map um.eval) with
  | some (g, vs) => RQ P g vs st o.dst Q
  | none => False
 | _ => match rh P tt o um with
  | some v => Q (st.put o.dst v)
  | none => False
theorem rC {P : Program} {tt : Table} {o : Oper} {um st : St} {Q : St → Prop} : wj P tt o um st Q = mL P tt o um fun v => Q (st.put o.dst v) := by
 unfold wj mL
 split <;> rfl
def ej (tt : Table) (o : Oper) (key : Nat) (st : St) : Option (ay × V) :=
 match o.op with
 | .alloc T => match tt T with
  | some i => some (.box (i.zero.map V.sc), .ptr key 0)
  | none => none
 | .box _ x => match fH (st.eval x) with
  | some cs => some (.box cs, .ptr key 0)
  | none => none
 | .buildSlice T len parts => match po tt T len parts.toList st.eval with
  | some (size, rs) => some (.rows 0 size rs, .ms key 0 0 len)
  | none => none
 | .makeMap _ none => some (.map [] 0, .mp key)
 | .makeSlice T l c => match nc tt T (st.eval l) (st.eval c) with
  | some (size, rs, _) => some (.rows 0 size rs, .ms key 0 0 rs.length)
  | none => none
 | _ => none
def oF (P : Program) (tt : Table) (key : Nat) (o : Oper) (st : St) : Option (List ay × V) :=
 match o.op with
 | .store T p x => match gR tt st.mem T (st.eval p) (st.eval x) with
  | some aF => some (aF, .sc undef)
  | none => none
 | .call { callee := .builtin .append, args := xs, argTypes := ts } => match xs.toList.map st.eval with
  | [s, x] => match dv tt st.mem ts.toList s x with
   | some (size, ob, rows) => some (cy st.mem key size rows ob)
   | none => none
  | _ => none
 | .mapUpdate T m k x => match cp P st.mem T (st.eval m) (st.eval k) (st.eval x) with
  | some aF => some (aF, .sc undef)
  | none => none
 | .insert T m k x => match cp P st.mem T (st.eval m) (st.eval k) (st.eval x) with
  | some aF => some (aF, .sc undef)
  | none => none
 | _ => none
def ri (tt : Table) (key : Nat) (o : Oper) (st : St) : Option (List ay) :=
 match o.op with
 | .store T p x => match st.eval p with
  | .ptr b off => if b = key then gR tt st.mem T (.ptr key off) (st.eval x) else none
  | _ => none
 | _ => none
def isHole (mem : List ay) (k : Nat) : Bool := match mem[k]? with | some .hole => true | _ => false
theorem ga {mem : List ay} {k : Nat} : isHole mem k = true ↔ mem[k]? = some .hole := by
 unfold isHole
 split
 ·rename_i h; simp [h]
 ·rename_i h; simp; exact fun e => h e

def sC (P : Program) (f : FuncId) (vs : List V) (e : Nat) (rs : List V) : Prop := ∃ v, aU P f vs [] (.ms 0 v 0 rs.length) [.rows v e rs]
def kV (P : Program) (o : Oper) (ev : Operand → V) (Q : Nat → List V → Prop) : Prop :=
 match o.op with
 | .call { callee := .value f, args := xs, .. } => match bn (ev f) (xs.toList.map ev) with
  | some (g, vs) => ∃ vs' e rs, cD [] vs = some vs' ∧ sC P g vs' e rs ∧ Q e rs
  | none => False
 | _ => False
theorem ib {P : Program} {o : Oper} {ev : Operand → V} {Q : Nat → List V → Prop} : kV P o ev Q ↔ ∃ e rs, kV P o ev (fun e' rs' => e' = e ∧ rs' = rs) ∧ Q e rs := by
 unfold kV
 split
 ·split
  ·constructor
   ·rintro ⟨vs', e, rs, h1, h2, h3⟩; exact ⟨e, rs, ⟨vs', e, rs, h1, h2, rfl, rfl⟩, h3⟩
   ·rintro ⟨e, rs, ⟨vs', e', rs', h1, h2, h3, h4⟩, h5⟩; subst h3; subst h4; exact ⟨vs', _, _, h1, h2, h5⟩
  ·exact ⟨fun h => h.elim, fun ⟨_, _, h, _⟩ => h⟩
 ·exact ⟨fun h => h.elim, fun ⟨_, _, h, _⟩ => h⟩
def sD (st : St) (key : Nat) (dst : Option Tmp) (e : Nat) (rs : List V) : St := { st with mem := st.mem.set key (.rows 0 e rs) }.put dst (.ms key 0 0 rs.length)
def RR (P : Program) (f : FuncId) (vs : List V) (st : St) (key : Nat) (dst : Option Tmp) (Q : St → Prop) : Prop := ∃ vs' e rs, cD [] vs = some vs' ∧ sC P f vs' e rs ∧ Q (sD st key dst e rs)
def nA (P : Program) (o : Oper) (key : Nat) (st : St) (Q : St → Prop) : Prop :=
 match o.op with
 | .call { callee := .value f, args := xs, .. } => match bn (st.eval f) (xs.toList.map st.eval) with
  | some (g, vs) => RR P g vs st key o.dst Q
  | none => False
 | _ => False
theorem uQ {P : Program} {o : Oper} {key : Nat} {st : St} {Q : St → Prop} : nA P o key st Q = kV P o st.eval fun e rs => Q (sD st key o.dst e rs) := by
 unfold nA kV
 split <;> rfl
def c5 : ay → ay
 | .box cs => .box cs
 | _ => .dead
def kW (tt : Table) (o : Oper) (st : St) : Option V :=
 match o.op with
 | .load T x => kP tt (st.mem.map c5) T (st.eval x)
 | _ => none
def isApp (o : Oper) : Bool := match o.op with | .call { callee := .builtin .append, .. } => true | _ => false
def Cx (o : Oper) : Bool := match o.op with | .alloc _ => false | .box _ _ => false | _ => true
theorem D6 {P : Program} {tt : Table} {o : Oper} {st : St} {v : V} (h : kW tt o st = some v) : fP P tt st o = some v := by
 unfold kW at h
 split at h
 ·rename_i T x ho
  unfold fP
  rw [ho]
  dsimp only
  unfold kP at h ⊢
  split
  ·rename_i b off he
   rw [he] at h
   dsimp only at h
   rw [List.getElem?_map] at h
   cases hb : st.mem[b]? with
   | none => rw [hb] at h; simp at h
   | some B =>
    rw [hb] at h
    cases B <;> simp [c5] at h <;> exact h
  ·rename_i b aC i off he
   rw [he] at h
   dsimp only at h
   have : rowOf (st.mem.map c5) b aC i = none := by
    unfold rowOf
    rw [List.getElem?_map]
    cases hb : st.mem[b]? with
    | none => rfl
    | some B => cases B <;> rfl
   rw [this] at h; cases h
  ·rename_i cs he
   rw [he] at h; exact h
  ·rename_i h1 h2 h3
   split at h
   ·rename_i he; exact absurd he (h1 _ _)
   ·rename_i he; exact absurd he (h2 _ _ _ _)
   ·rename_i he; exact absurd he (h3 _)
   ·cases h
 ·cases h
theorem yf {tt : Table} {mem : List ay} {ts : List TypeId} {s x : V} {size b aC : Nat} {rows : List V} (h : dv tt mem ts s x = some (size, some (b, aC), rows)) : ∃ e rs, mem[b]? = some (.rows aC e rs) := by
 have hl : ∀ {sz : Nat} {rs : List V}, ln mem sz s = some (some (b, aC), rs) → ∃ e rs, mem[b]? = some (.rows aC e rs) := fun {sz rs} h => by
  unfold ln at h
  split at h
  ·cases h
  ·split at h <;> cases h
  ·split at h
   ·rename_i v' e rs' hb
    split at h
    ·rename_i hc
     simp only [Option.some.injEq,Prod.mk.injEq] at h
     obtain ⟨⟨rfl, rfl⟩, rfl⟩ := h
     exact ⟨_, _, by rw [hb, hc.1]⟩
    ·cases h
   ·cases h
  ·cases h
 unfold dv at h
 split at h
 ·split at h
  ·split at h
   ·split at h
    ·split at h
     ·split at h
      ·split at h
       ·rename_i ob rs Vp
        split at h
        ·split at h
         ·split at h
          case isFalse => cases h
          simp only [Option.some.injEq,Prod.mk.injEq] at h
          obtain ⟨-, rfl, -⟩ := h
          exact hl Vp
         ·cases h
        ·cases h
       ·cases h
      ·cases h
     ·cases h
    ·cases h
   ·cases h
  ·cases h
 ·cases h
theorem Gh {P : Program} {tt : Table} {key : Nat} {o : Oper} {st : St} {m : List ay} {v : V} (ha : isApp o = true) (hh : st.mem[key]? = some .hole) (h : oF P tt key o st = some (m, v)) : m.map c5 = st.mem.map c5 := by
 have yb : ∀ (k : Nat) (B0 B : ay), st.mem[k]? = some B0 → c5 B = c5 B0 → (st.mem.set k B).map c5 = st.mem.map c5 := fun k B0 B h0 hB => by
  apply List.ext_getElem?
  intro q
  rw [List.getElem?_map, List.getElem?_map, List.getElem?_set]
  split
  ·rename_i hq; subst hq
   rw [if_pos (List.getElem?_eq_some_iff.1 h0).1, h0, Option.map_some, Option.map_some, hB]
  ·rfl
 unfold isApp at ha
 split at ha
 ·rename_i ho
  unfold oF at h
  rw [ho] at h
  dsimp only at h
  split at h
  ·split at h
   ·rename_i size ob rows Vq
    simp only [Option.some.injEq] at h
    cases ob with
    | none =>
     simp only [cy,Prod.mk.injEq] at h
     obtain ⟨rfl, -⟩ := h
     unfold bg
     rw [if_pos (List.getElem?_eq_some_iff.1 hh).1]
     exact yb _ _ _ hh rfl
    | some p =>
     obtain ⟨b, aC⟩ := p
     simp only [cy,Prod.mk.injEq] at h
     obtain ⟨rfl, -⟩ := h
     have hb : ∃ e rs, st.mem[b]? = some (.rows aC e rs) := by
      exact yf Vq
     obtain ⟨e, rs, hb⟩ := hb
     exact yb _ _ _ hb rfl
   ·cases h
  ·cases h
 ·cases ha
def lD (P : Program) (o : Oper) (st : St) (Q : St → Prop) : Prop :=
 match o.op with
 | .call { callee := .value f, args := xs, .. } => match bn (st.eval f) (xs.toList.map st.eval) with
  | some (g, vs) => ∃ vs' r, cD st.mem vs = some vs' ∧ aP P g vs' r ∧ Q ({ st with mem := cP st.mem (vs.flatMap cr) r }.put o.dst r)
  | none => False
 | _ => False
theorem sE {P : Program} {o : Oper} {st : St} {K K' : St → Prop} (h : lD P o st K) (hk : ∀ s, K s → K' s) : lD P o st K' := by
 unfold lD at h ⊢
 split at h
 ·split at h
  ·obtain ⟨vs', r, h1, h2, h3⟩ := h
   exact ⟨vs', r, h1, h2, hk _ h3⟩
  ·exact h.elim
 ·exact h.elim
def Aw (P : Program) (g : FuncId) (vs : List V) (k : Nat) (st : St) (dst : Option Tmp) (Q : St → Prop) : Prop :=
 ∃ v B0 B, B0.aC = 0 ∧ B.aC = 0 ∧ st.mem[k]? = some B0 ∧ (∀ mem : List ay, mem[k]? = some B0 → aU P g vs mem v (mem.set k B)) ∧ Q ({ st with mem := st.mem.set k B }.put dst v)
def uR (P : Program) (o : Oper) (k : Nat) (st : St) (Q : St → Prop) : Prop :=
 match o.op with
 | .call { callee := .value f, args := xs, .. } => match bn (st.eval f) (xs.toList.map st.eval) with
  | some (g, vs) => Aw P g vs k st o.dst Q
  | none => False
 | _ => False
def uo (P : Program) (o : Oper) (k : Nat) (st : St) (v : V) (m : List ay) : Prop :=
 match o.op with
 | .call { callee := .value f, args := xs, .. } => match bn (st.eval f) (xs.toList.map st.eval) with
  | some (g, vs) => ∃ B0 B, B0.aC = 0 ∧ B.aC = 0 ∧ st.mem[k]? = some B0 ∧ (∀ mem : List ay, mem[k]? = some B0 → aU P g vs mem v (mem.set k B)) ∧ m = st.mem.set k B
  | none => False
 | _ => False
theorem D7 {P : Program} {o : Oper} {k : Nat} {st : St} {Q : St → Prop} : uR P o k st Q ↔ ∃ v m, uo P o k st v m ∧ Q ({ st with mem := m }.put o.dst v) := by
 unfold uR uo
 split
 ·split
  ·constructor
   ·rintro ⟨v, B0, B, h1, h2, h3, h4, h5⟩; exact ⟨v, _, ⟨B0, B, h1, h2, h3, h4, rfl⟩, h5⟩
   ·rintro ⟨v, m, ⟨B0, B, h1, h2, h3, h4, rfl⟩, h5⟩; exact ⟨v, B0, B, h1, h2, h3, h4, h5⟩
  ·exact ⟨fun h => h.elim, fun ⟨_, _, h, _⟩ => h.elim⟩
 ·exact ⟨fun h => h.elim, fun ⟨_, _, h, _⟩ => h.elim⟩
theorem Ax {P : Program} {o : Oper} {k : Nat} {st st' : St} {v : V} {m : List ay} (h : ∀ x ∈ o.op.operands, st.eval x = st'.eval x) (hm : st.mem = st'.mem) : uo P o k st v m = uo P o k st' v m := by
 unfold uo
 split
 ·rename_i f xs ts heq
  rw [heq] at h
  have jd : xs.toList.map st.eval = xs.toList.map st'.eval := List.map_congr_left fun x hx => h x (by simp [Op.operands, Call.operands]; exact .inr (by simpa using hx))
  have hf : st.eval f = st'.eval f := h f (by simp [Op.operands, Call.operands])
  rw [jd, hf, hm]
 ·rfl
theorem Gi {P : Program} {o : Oper} {k : Nat} {st : St} {v : V} {m : List ay} (h : uo P o k st v m) : ∃ B0 B : ay, B0.aC = 0 ∧ B.aC = 0 ∧ st.mem[k]? = some B0 ∧ m = st.mem.set k B ∧ ∀ mem : List ay, mem[k]? = some B0 → uo P o k { st with mem := mem } v (mem.set k B) := by
 have ev : ∀ (mem : List ay), St.eval { st with mem := mem } = st.eval := fun mem => funext fun x => by cases x <;> rfl
 unfold uo at h
 split at h
 ·rename_i f xs ts heq
  split at h
  ·rename_i g vs hg
   obtain ⟨B0, B, h1, h2, h3, h4, h5⟩ := h
   refine ⟨B0, B, h1, h2, h3, h5, fun mem hm => ?_⟩
   unfold uo
   simp only [heq,ev,hg]
   exact ⟨B0, B, h1, h2, hm, h4, rfl⟩
  ·exact h.elim
 ·exact h.elim
def dM (P : Program) (tt : Table) (all : Array Oper) (base : Nat) (o : Oper) (p : Pl) (st : St) (Q : St → Prop) : Prop :=
 match cZ all st.fr o with
 | some true => match p.cls with
  | .n => wj P tt o { st with mem := [] } st Q
  | .r => wj P tt o { st with mem := dm (p.mask.map (base + ·) ++ p.abs) st.mem } st Q
  | .a => isHole st.mem (base + p.key) = true ∧ match ej tt o (base + p.key) st with
   | some (B, v) => Q ({ st with mem := st.mem.set (base + p.key) B }.put o.dst v)
   | none => nA P o (base + p.key) st Q
  | .w => isHole st.mem (base + p.key) = true ∧ match oF P tt (base + p.key) o st with
   | some (m, v) => Q ({ st with mem := m }.put o.dst v)
   | none => False
  | .s => match ri tt (base + p.key) o st with
   | some m => Q ({ st with mem := m }.put o.dst (.sc undef))
   | none => False
  | .b => match kW tt o st with
   | some v => Q (st.put o.dst v)
   | none => False
  | .z => lD P o st Q
  | .e => uR P o p.key st Q
 | some false => Q (st.put o.dst (.sc undef))
 | none => False

def k7 (P : Program) (tt : Table) (all : Array Oper) (base : Nat) (o : Oper) (p : Pl) (st : St) (v : V) (m : List ay) : Prop :=
 match cZ all st.fr o with
 | some true => match p.cls with
  | .n => mL P tt o { st with mem := [] } (fun u => u = v) ∧ m = st.mem
  | .r => mL P tt o { st with mem := dm (p.mask.map (base + ·) ++ p.abs) st.mem } (fun u => u = v) ∧ m = st.mem
  | .a => isHole st.mem (base + p.key) = true ∧ ∃ B, (ej tt o (base + p.key) st = some (B, v) ∨ ej tt o (base + p.key) st = none ∧ kV P o st.eval (fun e rs => B = .rows 0 e rs ∧ v = .ms (base + p.key) 0 0 rs.length)) ∧ m = st.mem.set (base + p.key) B
  | .w => isHole st.mem (base + p.key) = true ∧ oF P tt (base + p.key) o st = some (m, v)
  | .s => v = .sc undef ∧ ri tt (base + p.key) o st = some m
  | .b => kW tt o st = some v ∧ m = st.mem
  | .z => False
  | .e => uo P o p.key st v m
 | some false => v = .sc undef ∧ m = st.mem
 | none => False

theorem yg {P : Program} {tt : Table} {o : Oper} {st : St} {Q : V → Prop} : mL P tt o st Q ↔ ∃ v, mL P tt o st (fun u => u = v) ∧ Q v := by
 unfold mL
 split
 ·split
  ·constructor
   ·rintro ⟨vs', r, h1, h2, h3⟩; exact ⟨r, ⟨vs', r, h1, h2, rfl⟩, h3⟩
   ·rintro ⟨v, ⟨vs', r, h1, h2, rfl⟩, h3⟩; exact ⟨vs', r, h1, h2, h3⟩
  ·exact ⟨fun h => h.elim, fun ⟨_, h, _⟩ => h⟩
 ·split
  ·exact ⟨fun h => ⟨_, rfl, h⟩, fun ⟨_, h, hq⟩ => by subst h; exact hq⟩
  ·exact ⟨fun h => h.elim, fun ⟨_, h, _⟩ => h⟩

theorem ee {P : Program} {tt : Table} {all : Array Oper} {base : Nat} {o : Oper} {p : Pl} {st : St} {Q : St → Prop} (hz : p.cls ≠ .z) :
  dM P tt all base o p st Q ↔ ∃ v m, k7 P tt all base o p st v m ∧ Q ({ st with mem := m }.put o.dst v) := by
 unfold dM k7
 split
 ·split
  ·rw [rC, yg]; exact ⟨fun ⟨v, h1, h2⟩ => ⟨v, st.mem, ⟨h1, rfl⟩, h2⟩, fun ⟨v, m, ⟨h1, h2⟩, h3⟩ => ⟨v, h1, by subst h2; exact h3⟩⟩
  ·rw [rC, yg]; exact ⟨fun ⟨v, h1, h2⟩ => ⟨v, st.mem, ⟨h1, rfl⟩, h2⟩, fun ⟨v, m, ⟨h1, h2⟩, h3⟩ => ⟨v, h1, by subst h2; exact h3⟩⟩
  ·split
   ·rename_i B v hb
    refine ⟨fun ⟨h1, h2⟩ => ⟨v, _, ⟨h1, B, .inl hb, rfl⟩, h2⟩, fun ⟨u, m, ⟨h1, B', h2, h3⟩, h4⟩ => ?_⟩
    rcases h2 with h2 | ⟨h2, -⟩
    ·rw [hb] at h2; cases h2; subst h3; exact ⟨h1, h4⟩
    ·rw [hb] at h2; cases h2
   ·rename_i hb
    rw [uQ]
    constructor
    ·rintro ⟨h1, h2⟩
     obtain ⟨e, rs, h3, h4⟩ := ib.1 h2
     exact ⟨_, _, ⟨h1, .rows 0 e rs, .inr ⟨hb, ib.2 ⟨e, rs, h3, rfl, rfl⟩⟩, rfl⟩, h4⟩
    ·rintro ⟨u, m, ⟨h1, B', h2, h3⟩, h4⟩
     rcases h2 with h2 | ⟨-, h2⟩
     ·rw [hb] at h2; cases h2
     ·obtain ⟨e, rs, h5, h6, h7⟩ := ib.1 h2
      subst h6; subst h7; subst h3
      exact ⟨h1, ib.2 ⟨e, rs, h5, h4⟩⟩
  ·split
   ·rename_i m v hb; exact ⟨fun ⟨h1, h2⟩ => ⟨v, m, ⟨h1, hb⟩, h2⟩, fun ⟨u, m', ⟨h1, h2⟩, h4⟩ => by rw [hb] at h2; cases h2; exact ⟨h1, h4⟩⟩
   ·rename_i hb; exact ⟨fun h => h.2.elim, fun ⟨_, _, ⟨_, h⟩, _⟩ => by rw [hb] at h; cases h⟩
  ·split
   ·rename_i m hb; exact ⟨fun h => ⟨_, m, ⟨rfl, hb⟩, h⟩, fun ⟨u, m', ⟨h1, h2⟩, h4⟩ => by rw [hb] at h2; cases h2; subst h1; exact h4⟩
   ·rename_i hb; exact ⟨fun h => h.elim, fun ⟨_, _, ⟨_, h⟩, _⟩ => by rw [hb] at h; cases h⟩
  ·split
   ·rename_i v hb; exact ⟨fun h => ⟨v, st.mem, ⟨hb, rfl⟩, h⟩, fun ⟨u, m', ⟨h1, h2⟩, h4⟩ => by rw [hb] at h1; cases h1; subst h2; exact h4⟩
   ·rename_i hb; exact ⟨fun h => h.elim, fun ⟨_, _, ⟨h, _⟩, _⟩ => by rw [hb] at h; cases h⟩
  ·rename_i hc; exact absurd hc hz
  ·exact D7
 ·exact ⟨fun h => ⟨_, _, ⟨rfl, rfl⟩, h⟩, fun ⟨v, m, ⟨h1, h2⟩, h3⟩ => by subst h1; subst h2; exact h3⟩
 ·exact ⟨fun h => h.elim, fun ⟨_, _, h, _⟩ => h⟩

/-! ### what an operation looks at -/

theorem ef {ρ ρ' : Operand → V} {xs : Array Operand} (h : ∀ x ∈ xs, ρ x = ρ' x) : xs.toList.map ρ = xs.toList.map ρ' :=
 List.map_congr_left fun x hx => h x (by simpa using hx)
theorem qF {bz : List (Nat × Nat)} {ρ ρ' : Operand → V} : ∀ {ps : List (Nat × Operand)} {cs : List V}, (∀ p ∈ ps, ρ p.2 = ρ' p.2) → oz bz ρ ps cs = oz bz ρ' ps cs
 | [], cs, _ => rfl
 | (i, x) :: r, cs, h => by
  simp only [oz,h (i,x) (by simp)]
  split
  ·split
   ·split
    ·exact qF fun p hp => h p (by simp [hp])
    ·rfl
   ·rfl
  ·rfl
theorem lE {ρ ρ' : Operand → V} : ∀ {ps : List (Nat × Operand)}, (∀ p ∈ ps, ρ p.2 = ρ' p.2) → gI ρ ps = gI ρ' ps
 | [], _ => rfl
 | (i, x) :: r, h => by
  simp only [gI,h (i,x) (by simp)]
  rw [lE fun p hp => h p (by simp [hp])]
theorem wk {P : Program} {tt : Table} {T : TypeId} {ρ ρ' : Operand → V} {ps : List (Nat × Operand)} (h : ∀ p ∈ ps, ρ p.2 = ρ' p.2) : gU P tt T ps ρ = gU P tt T ps ρ' := by
 unfold gU
 split
 ·rw [qF h, lE h]
 ·rfl
theorem sF {tt : Table} {T : TypeId} {len : Nat} {ρ ρ' : Operand → V} {ps : List (Nat × Operand)} (h : ∀ p ∈ ps, ρ p.2 = ρ' p.2) : po tt T len ps ρ = po tt T len ps ρ' := by
 unfold po
 have : (ps.map fun p => ρ p.2) = ps.map fun p => ρ' p.2 := List.map_congr_left h
 rw [this]

theorem D8 {P : Program} {tt : Table} {o : Oper} {st st' : St} (h : ∀ x ∈ o.op.operands, st.eval x = st'.eval x) (hm : st.mem = st'.mem) : fP P tt st o = fP P tt st' o := by
 obtain ⟨dst, op, type, pos, after, guard⟩ := o
 cases op <;> simp only [Op.operands] at h <;> try rfl
 case slice T x lo hi mx =>
  cases mx <;> cases lo <;> cases hi <;> try rfl
  all_goals (simp only [fP]; simp_all)
 case makeFunc fn first captured =>
  simp only [fP]
  rw [ef (xs := first) fun x hx => h x (by simp [hx]), ef (xs := captured) fun x hx => h x (by simp [hx])]
 case call c =>
  obtain ⟨callee, args, ts⟩ := c
  have jd : args.toList.map st.eval = args.toList.map st'.eval := ef fun x hx => h x (by simp [Call.operands, hx])
  cases callee with
  | builtin b => cases b <;> simp only [fP,jd,hm]
  | _ => rfl
 all_goals (simp only [fP]; simp_all)
theorem Ay {P : Program} {tt : Table} {o : Oper} {st st' : St} (h : ∀ x ∈ o.op.operands, st.eval x = st'.eval x) (hm : st.mem = st'.mem) : rh P tt o st = rh P tt o st' := by
 have h0 := D8 (P := P) (tt := tt) h hm
 obtain ⟨dst, op, type, pos, after, guard⟩ := o
 cases op <;> try exact h0
 case build T ps => exact wk fun p hp => h p.2 (by simp only [Op.operands]; simpa using ⟨p.1, by simpa using hp⟩)
 case buildSlice T len ps =>
  simp only [rh]
  rw [sF fun p hp => h p.2 (by simp only [Op.operands]; simpa using ⟨p.1, by simpa using hp⟩)]
theorem sG {P : Program} {tt : Table} {o : Oper} {st st' : St} {Q : V → Prop} (h : ∀ x ∈ o.op.operands, st.eval x = st'.eval x) (hm : st.mem = st'.mem) : mL P tt o st Q = mL P tt o st' Q := by
 have h0 := Ay (P := P) (tt := tt) h hm
 unfold mL
 rw [h0]
 split
 ·rename_i f xs ts heq
  rw [heq] at h
  have jd : xs.toList.map st.eval = xs.toList.map st'.eval := ef fun x hx => h x (by simp [Op.operands, Call.operands, hx])
  have hf : st.eval f = st'.eval f := h f (by simp [Op.operands, Call.operands])
  rw [jd, hf]
 ·rfl
theorem oG {tt : Table} {o : Oper} {key : Nat} {st st' : St} (h : ∀ x ∈ o.op.operands, st.eval x = st'.eval x) : ej tt o key st = ej tt o key st' := by
 obtain ⟨dst, op, type, pos, after, guard⟩ := o
 cases op <;> try rfl
 case makeMap t r => cases r <;> rfl
 case makeSlice t l c => simp only [ej]; rw [h l (by simp [Op.operands]), h c (by simp [Op.operands])]
 case box T x => simp only [ej]; rw [h x (by simp [Op.operands])]
 case buildSlice T len ps =>
  simp only [ej]
  rw [sF fun p hp => h p.2 (by simp only [Op.operands]; simpa using ⟨p.1, by simpa using hp⟩)]
theorem qG {P : Program} {o : Oper} {ρ ρ' : Operand → V} {Q : Nat → List V → Prop} (h : ∀ x ∈ o.op.operands, ρ x = ρ' x) : kV P o ρ Q = kV P o ρ' Q := by
 unfold kV
 split
 ·rename_i f xs ts heq
  rw [heq] at h
  have jd : xs.toList.map ρ = xs.toList.map ρ' := ef fun x hx => h x (by simp [Op.operands, Call.operands, hx])
  have hf : ρ f = ρ' f := h f (by simp [Op.operands, Call.operands])
  rw [jd, hf]
 ·rfl
theorem Az {P : Program} {tt : Table} {o : Oper} {key : Nat} {st st' : St} (h : ∀ x ∈ o.op.operands, st.eval x = st'.eval x) (hm : st.mem = st'.mem) : oF P tt key o st = oF P tt key o st' := by
 obtain ⟨dst, op, type, pos, after, guard⟩ := o
 cases op <;> try rfl
 case store T p x => simp only [oF,hm]; rw [h p (by simp [Op.operands]), h x (by simp [Op.operands])]
 case mapUpdate T m k x => simp only [oF,hm]; rw [h m (by simp [Op.operands]), h k (by simp [Op.operands]), h x (by simp [Op.operands])]
 case insert T m k x => simp only [oF,hm]; rw [h m (by simp [Op.operands]), h k (by simp [Op.operands]), h x (by simp [Op.operands])]
 case call c =>
  obtain ⟨callee, args, ts⟩ := c
  have jd : args.toList.map st.eval = args.toList.map st'.eval := ef fun x hx => h x (by simp [Op.operands, Call.operands, hx])
  cases callee with
  | builtin b => cases b <;> simp only [oF,jd,hm]
  | _ => rfl

theorem AA {tt : Table} {o : Oper} {key : Nat} {st st' : St} (h : ∀ x ∈ o.op.operands, st.eval x = st'.eval x) (hm : st.mem = st'.mem) : ri tt key o st = ri tt key o st' := by
 obtain ⟨dst, op, type, pos, after, guard⟩ := o
 cases op <;> try rfl
 case store T p x => simp only [ri,hm]; rw [h p (by simp [Op.operands]), h x (by simp [Op.operands])]
theorem Gj {tt : Table} {o : Oper} {key : Nat} {st : St} {m : List ay} (h : ri tt key o st = some m) :
  ∃ B0 B : ay, B0.aC = 0 ∧ B.aC = 0 ∧ st.mem[key]? = some B0 ∧ m = st.mem.set key B ∧ ∀ mem : List ay, mem[key]? = some B0 → ri tt key o { st with mem := mem } = some (mem.set key B) := by
 have ev : ∀ (mem : List ay) (x : Operand), St.eval { st with mem := mem } x = st.eval x := fun mem x => by cases x <;> rfl
 unfold ri at h ⊢
 obtain ⟨dst, op, type, pos, after, guard⟩ := o
 cases op <;> try (cases h)
 case store T p x =>
  simp only [ev]
  dsimp only at h
  split at h
  ·rename_i b off hp
   split at h
   ·rename_i hb
    subst hb
    unfold gR at h
    split at h
    ·cases h
    ·rename_i new hn
     split at h
     ·rename_i ka
      dsimp only at h
      split at h
      ·rename_i cs tV
       split at h
       ·rename_i hle
        cases h
        refine ⟨.box cs, .box (cb cs off new), rfl, rfl, tV, rfl, fun mem hm => ?_⟩
        simp only [hp,if_true]
        unfold gR
        simp only [hn,ka,if_true,hm,hle]
       ·cases h
      ·cases h
     ·cases h
   ·cases h
  ·cases h

theorem eval_put {st : St} {dst : Option Tmp} {v : V} {x : Operand} (h : ∀ d, dst = some d → x ≠ .tmp d) : (st.put dst v).eval x = st.eval x := by
 cases dst with
 | none => rfl
 | some d =>
  cases x with
  | tmp t =>
   have bO : d ≠ t := fun e => h d rfl (e ▸ rfl)
   simp [St.eval, St.put, List.getD, List.getElem?_set_ne bO]
  | _ => rfl
theorem JT (st : St) (dst : Option Tmp) (v : V) : (st.put dst v).mem = st.mem := by cases dst <;> rfl
theorem uq {all : Array Oper} {o : Oper} {d : Tmp} (h : d ∉ o.looksAt all) : ∀ x ∈ o.op.operands, x ≠ .tmp d := by
 rintro x hx rfl
 exact h (by unfold Oper.looksAt; exact List.mem_append_left _ (List.mem_filterMap.2 ⟨.tmp d, by simpa using hx, rfl⟩))
theorem yh {all : Array Oper} {o : Oper} {st : St} {dst : Option Tmp} {v : V} (h : ∀ d, dst = some d → d ∉ o.looksAt all) : cZ all (st.put dst v).fr o = cZ all st.fr o := by
 cases dst with
 | none => rfl
 | some d =>
  have hd := h d rfl
  unfold cZ
  split
  ·rfl
  ·rename_i j want hg
   split
   ·rfl
   ·rename_i e he
    have bO : d ≠ e := by
     rintro rfl
     exact hd (by unfold Oper.looksAt; exact List.mem_append_right _ (by rw [hg]; simp only []; rw [he]; simp))
    simp only [St.put,List.getElem?_set_ne bO]

section
variable {P : Program} {tt : Table} {all : Array Oper} {base : Nat}
theorem yi {o : Oper} {st st' : St} (h : ∀ x ∈ o.op.operands, st.eval x = st'.eval x) (hm : st.mem = st'.mem) : kW tt o st = kW tt o st' := by
 unfold kW
 split
 ·rename_i T x ho
  rw [hm, h x (by rw [ho]; simp [Op.operands])]
 ·rfl
theorem D9 {o : Oper} {p : Pl} {st st' : St} {v : V} {m : List ay} (hw : cZ all st.fr o = cZ all st'.fr o) (h : ∀ x ∈ o.op.operands, st.eval x = st'.eval x) (hm : st.mem = st'.mem) :
  k7 P tt all base o p st v m = k7 P tt all base o p st' v m := by
 have e1 : ∀ (mem : List ay) (x : Operand), St.eval { st with mem := mem } x = st.eval x := fun mem x => by cases x <;> rfl
 have e2 : ∀ (mem : List ay) (x : Operand), St.eval { st' with mem := mem } x = st'.eval x := fun mem x => by cases x <;> rfl
 unfold k7
 rw [hw, oG h, Az h hm, AA h hm, yi h hm, Ax h hm, hm]
 simp only [qG h]
 rw [sG (st := { st with mem := [] }) (st' := { st' with mem := [] }) (fun x hx => by rw [e1, e2]; exact h x hx) rfl,
  sG (st := { st with mem := dm (p.mask.map (base + ·) ++ p.abs) st'.mem }) (st' := { st' with mem := dm (p.mask.map (base + ·) ++ p.abs) st'.mem }) (fun x hx => by rw [e1, e2]; exact h x hx) rfl]
theorem Cy {o : Oper} {p : Pl} {st : St} {dst : Option Tmp} {u v : V} {m : List ay} (h : ∀ d, dst = some d → d ∉ o.looksAt all) : k7 P tt all base o p (st.put dst u) v m = k7 P tt all base o p st v m :=
 D9 (yh h) (fun x hx => eval_put fun d hd => uq (h d hd) x hx) (JT _ _ _)

def pH (all : Array Oper) (x : Oper) (px : Pl) (y : Oper) (py : Pl) : Bool :=
 px.cls != .z && py.cls != .z && x.apart all y && (px.cls == .n || py.cls == .n || (px.cls == .r && py.cls == .r) || ((px.cls == .a || px.cls == .s) && py.cls == .r && py.mask.contains px.key) || (px.cls == .r && (py.cls == .a || py.cls == .s) && px.mask.contains py.key) || ((px.cls == .a || px.cls == .s) && (py.cls == .a || py.cls == .s) && px.key != py.key) || (px.cls == .b && (py.cls == .r || py.cls == .b || (py.cls == .w && isApp y) || (py.cls == .a && Cx y))) || (py.cls == .b && (px.cls == .r || (px.cls == .w && isApp x) || (px.cls == .a && Cx x))) || (px.cls == .e && py.cls == .r && py.abs.contains px.key) || (px.cls == .r && py.cls == .e && px.abs.contains py.key))

theorem AB {o : Oper} {key : Nat} {st : St} {B : ay} {v : V} (h : ej tt o key st = some (B, v)) : B.aC = 0 := by
 unfold ej at h
 split at h
 ·split at h <;> cases h <;> rfl
 ·split at h <;> cases h <;> rfl
 ·split at h <;> cases h <;> rfl
 ·cases h; rfl
 ·split at h <;> cases h <;> rfl
 ·cases h

theorem pI {o : Oper} {p : Pl} (hp : p.cls = .n) {st : St} {v : V} {m : List ay} (h : k7 P tt all base o p st v m) (mem : List ay) : m = st.mem ∧ k7 P tt all base o p { st with mem := mem } v mem := by
 unfold k7 at h ⊢
 dsimp only
 split at h
 ·rename_i hw
  rw [hp] at h
  simp only [hw,hp]
  exact ⟨h.2, h.1, trivial⟩
 ·rename_i hw; simp only [hw]; exact ⟨h.2, h.1, trivial⟩
 ·exact h.elim
theorem dc {o : Oper} {p : Pl} (hp : p.cls = .r) {st : St} {v : V} {m : List ay} (h : k7 P tt all base o p st v m) {mem : List ay} (hm : dm (p.mask.map (base + ·) ++ p.abs) mem = dm (p.mask.map (base + ·) ++ p.abs) st.mem) :
  m = st.mem ∧ k7 P tt all base o p { st with mem := mem } v mem := by
 unfold k7 at h ⊢
 dsimp only
 split at h
 ·rename_i hw
  rw [hp] at h
  simp only [hw,hp]
  exact ⟨h.2, by rw [hm]; exact h.1, trivial⟩
 ·rename_i hw; simp only [hw]; exact ⟨h.2, h.1, trivial⟩
 ·exact h.elim
theorem ml {o : Oper} {p : Pl} (hp : p.cls = .a ∨ p.cls = .s) {st : St} {v : V} {m : List ay} (h : k7 P tt all base o p st v m) :
  (m = st.mem ∧ ∀ mem, k7 P tt all base o p { st with mem := mem } v mem) ∨
  ∃ B0 B : ay, B0.aC = 0 ∧ B.aC = 0 ∧ st.mem[base + p.key]? = some B0 ∧ m = st.mem.set (base + p.key) B ∧ ∀ mem : List ay, mem[base + p.key]? = some B0 → k7 P tt all base o p { st with mem := mem } v (mem.set (base + p.key) B) := by
 unfold k7 at h
 split at h
 ·rename_i hw
  rcases hp with hp | hp
  ·rw [hp] at h
   obtain ⟨h1, B, h2, h3⟩ := h
   have Rh : B.aC = 0 := by
    rcases h2 with h2 | ⟨-, h2⟩
    ·exact AB h2
    ·obtain ⟨e, rs, -, h5, -⟩ := ib.1 h2
     rw [h5]; rfl
   refine .inr ⟨.hole, B, rfl, Rh, ga.1 h1, h3, fun mem hm => ?_⟩
   unfold k7
   simp only [hw,hp]
   refine ⟨ga.2 hm, B, ?_, rfl⟩
   have e0 : ej tt o (base + p.key) { st with mem := mem } = ej tt o (base + p.key) st := oG fun x _ => by cases x <;> rfl
   rw [e0]
   have e1 : ∀ Q, kV P o (St.eval { st with mem := mem }) Q = kV P o st.eval Q := fun Q => qG fun x _ => by cases x <;> rfl
   rw [e1]
   exact h2
  ·rw [hp] at h
   obtain ⟨h1, h2⟩ := h
   obtain ⟨B0, B, h3, h4, h5, h6, h7⟩ := Gj h2
   refine .inr ⟨B0, B, h3, h4, h5, h6, fun mem hm => ?_⟩
   unfold k7
   simp only [hw,hp]
   exact ⟨h1, h7 mem hm⟩
 ·rename_i hw
  refine .inl ⟨h.2, fun mem => ?_⟩
  unfold k7
  simp only [hw]
  exact ⟨h.1, trivial⟩
 ·exact h.elim

theorem uS {o : Oper} {p : Pl} (hp : p.cls = .e) {st : St} {v : V} {m : List ay} (h : k7 P tt all base o p st v m) :
  (m = st.mem ∧ ∀ mem, k7 P tt all base o p { st with mem := mem } v mem) ∨
  ∃ B0 B : ay, B0.aC = 0 ∧ B.aC = 0 ∧ st.mem[p.key]? = some B0 ∧ m = st.mem.set p.key B ∧ ∀ mem : List ay, mem[p.key]? = some B0 → k7 P tt all base o p { st with mem := mem } v (mem.set p.key B) := by
 unfold k7 at h
 split at h
 ·rename_i hw
  rw [hp] at h
  obtain ⟨B0, B, h1, h2, h3, h4, h5⟩ := Gi h
  refine .inr ⟨B0, B, h1, h2, h3, h4, fun mem hm => ?_⟩
  unfold k7
  simp only [hw,hp]
  exact h5 mem hm
 ·rename_i hw
  refine .inl ⟨h.2, fun mem => ?_⟩
  unfold k7
  simp only [hw]
  exact ⟨h.1, trivial⟩
 ·exact h.elim

theorem pJ {o : Oper} {p : Pl} (hp : p.cls = .b) {st : St} {v : V} {m : List ay} (h : k7 P tt all base o p st v m) :
  m = st.mem ∧ ∀ mem : List ay, mem.map c5 = st.mem.map c5 → k7 P tt all base o p { st with mem := mem } v mem := by
 unfold k7 at h ⊢
 dsimp only
 split at h
 ·rename_i hw
  rw [hp] at h
  simp only [hw,hp]
  refine ⟨h.2, fun mem hm => ⟨?_, trivial⟩⟩
  have h1 := h.1
  unfold kW at h1 ⊢
  split at h1
  ·rename_i T x ho
   have e : St.eval { st with mem := mem } x = st.eval x := by cases x <;> rfl
   show kP tt (mem.map c5) T (St.eval { st with mem := mem } x) = some v
   rw [hm, e]; exact h1
  ·cases h1
 ·rename_i hw; simp only [hw]; exact ⟨h.2, fun _ _ => ⟨h.1, trivial⟩⟩
 ·exact h.elim
theorem uT {o : Oper} {p : Pl} (hp : p.cls = .w) (ha : isApp o = true) {st : St} {v : V} {m : List ay} (h : k7 P tt all base o p st v m) : m.map c5 = st.mem.map c5 := by
 unfold k7 at h
 split at h
 ·rw [hp] at h
  exact Gh ha (ga.1 h.1) h.2
 ·rw [h.2]
 ·exact h.elim
theorem sH {o : Oper} {p : Pl} (hp : p.cls = .a) (ha : Cx o = true) {st : St} {v : V} {m : List ay} (h : k7 P tt all base o p st v m) : m.map c5 = st.mem.map c5 := by
 unfold k7 at h
 split at h
 ·rw [hp] at h
  obtain ⟨h1, B, h2, rfl⟩ := h
  have hB : c5 B = .dead := by
   rcases h2 with h2 | ⟨-, h2⟩
   ·unfold ej at h2
    unfold Cx at ha
    split at h2
    ·rename_i he; rw [he] at ha; cases ha
    ·rename_i he; rw [he] at ha; cases ha
    ·split at h2 <;> cases h2; rfl
    ·cases h2; rfl
    ·split at h2 <;> cases h2; rfl
    ·cases h2
   ·obtain ⟨e, rs, -, h5, -⟩ := ib.1 h2
    rw [h5]; rfl
  have hh := ga.1 h1
  apply List.ext_getElem?
  intro q
  rw [List.getElem?_map, List.getElem?_map, List.getElem?_set]
  split
  ·rename_i hq; subst hq
   rw [if_pos (List.getElem?_eq_some_iff.1 hh).1, hh, Option.map_some, Option.map_some, hB]; rfl
  ·rfl
 ·rw [h.2]
 ·exact h.elim
theorem St.put_comm (st : St) {x y : Option Tmp} (v u : V) (h : ∀ d, x = some d → y ≠ some d) : (st.put x v).put y u = (st.put y u).put x v := by
 cases x with
 | none => rfl
 | some d =>
  cases y with
  | none => rfl
  | some e =>
   have bO : d ≠ e := fun he => h d rfl (he ▸ rfl)
   simp [St.put, List.set_comm _ _ bO]
theorem yj (st : St) (x : Option Tmp) (v : V) (m : List ay) : { st.put x v with mem := m } = St.put { st with mem := m } x v := by cases x <;> rfl

theorem AE {x y : Oper} {px py : Pl} (bM : pH all x px y py = true) {st : St} {Q : St → Prop} (h : dM P tt all base x px st fun st' => dM P tt all base y py st' Q) :
  dM P tt all base y py st fun st' => dM P tt all base x px st' Q := by
 unfold pH at bM
 rw [Bool.and_eq_true, Bool.and_eq_true, Bool.and_eq_true] at bM
 obtain ⟨⟨⟨Un, Uo⟩, Vq⟩, jD⟩ := bM
 have Un : px.cls ≠ .z := by simpa using Un
 have Uo : py.cls ≠ .z := by simpa using Uo
 obtain ⟨Y1, Mx, Vr⟩ := Oper.apart_spec Vq
 obtain ⟨v, m1, h1, h2⟩ := (ee Un).1 h
 obtain ⟨u, m2, h3, h4⟩ := (ee Uo).1 h2
 rw [Cy Y1] at h3
 have fin : ∀ RS , k7 P tt all base y py st u RS → k7 P tt all base x px { st with mem := RS } v m2 → dM P tt all base y py st fun st' => dM P tt all base x px st' Q := fun RS h5 h6 => by
  refine (ee Uo).2 ⟨u, RS, h5, (ee Un).2 ⟨v, m2, by rw [Cy Vr]; exact h6, ?_⟩⟩
  have e1 : ({ (St.put { st with mem := m1 } x.dst v) with mem := m2 } : St).put y.dst u = ({ (St.put { st with mem := RS } y.dst u) with mem := m2 } : St).put x.dst v := by
   rw [yj, yj]
   exact St.put_comm _ _ _ Mx
  rw [← e1]; exact h4
 have back : ∀ (m : List ay) (z : Oper) (pz : Pl) (c : V) (m' : List ay), k7 P tt all base z pz { ({ st with mem := m } : St) with mem := st.mem } c m' = k7 P tt all base z pz st c m' := fun _ _ _ _ _ => rfl
 simp only [Bool.or_eq_true,Bool.and_eq_true,beq_iff_eq,bne_iff_ne] at jD
 rcases jD with ((((((((hn | hn) | ⟨hr, tX⟩) | ⟨⟨ha, hr⟩, hm⟩) | ⟨⟨hr, ha⟩, hm⟩) | ⟨⟨ha, RT⟩, bO⟩) | ⟨hb, hy⟩) | ⟨hb, hx⟩) | ⟨⟨he, hr⟩, hm⟩) | ⟨⟨hr, he⟩, hm⟩
 ·-- x Jr not look
  obtain ⟨rfl, -⟩ := pI hn h1 []
  exact fin m2 h3 (pI hn h1 m2).2
 ·-- y Jr not look
  obtain ⟨h5, h6⟩ := pI hn h3 st.mem
  dsimp only at h5; subst h5
  exact fin st.mem h6 h1
 ·obtain ⟨rfl, -⟩ := dc hr h1 rfl
  obtain ⟨h5, h6⟩ := dc tX h3 (mem := st.mem) rfl
  dsimp only at h5; subst h5
  exact fin st.mem h6 h1
 ·rcases ml ha h1 with ⟨rfl, -⟩ | ⟨B0, B, Fy, hv, hh, rfl, -⟩
  ·obtain ⟨h5, h6⟩ := dc hr h3 (mem := st.mem) rfl
   dsimp only at h5; subst h5
   exact fin st.mem h6 h1
  ·have fQ : dm (py.mask.map (base + ·) ++ py.abs) (st.mem.set (base + px.key) B) = dm (py.mask.map (base + ·) ++ py.abs) st.mem := mi (List.mem_append_left _ (List.mem_map.2 ⟨_, by simpa using hm, rfl⟩)) hh Fy hv
   obtain ⟨h5, h6⟩ := dc hr h3 (mem := st.mem) fQ.symm
   dsimp only at h5; subst h5
   exact fin st.mem h6 h1
 ·obtain ⟨rfl, -⟩ := dc hr h1 rfl
  rcases ml ha h3 with ⟨h5, h6⟩ | ⟨B0, B, Fy, hv, hh, h5, h6⟩
  ·dsimp only at h5; subst h5
   exact fin st.mem h3 h1
  ·dsimp only at h5 hh; subst h5
   have fQ : dm (px.mask.map (base + ·) ++ px.abs) (st.mem.set (base + py.key) B) = dm (px.mask.map (base + ·) ++ px.abs) st.mem := mi (List.mem_append_left _ (List.mem_map.2 ⟨_, by simpa using hm, rfl⟩)) hh Fy hv
   exact fin _ h3 (dc hr h1 fQ).2
 ·rcases ml ha h1 with ⟨rfl, hx⟩ | ⟨B0, B, Fy, hv, hh, rfl, hx⟩
  ·exact fin m2 h3 (hx m2)
  ·rcases ml RT h3 with ⟨h5, h6⟩ | ⟨rj, B', Y2, qY, Jd, h5, h6⟩
   ·dsimp only at h5; subst h5
    exact fin st.mem (h6 st.mem) h1
   ·dsimp only at h5 Jd; subst h5
    have FM : base + px.key ≠ base + py.key := by omega
    rw [List.getElem?_set_ne FM] at Jd
    have h7 := h6 st.mem Jd
    have h8 := hx (st.mem.set (base + py.key) B') (by rw [List.getElem?_set_ne (fun e => FM e.symm)]; exact hh)
    refine fin _ h7 ?_
    rw [List.set_comm _ _ FM]
    exact h8
 ·obtain ⟨rfl, h5⟩ := pJ hb h1
  refine fin m2 h3 (h5 m2 ?_)
  rcases hy with ((hy | hy) | ⟨hy, ha⟩) | ⟨hy, ha⟩
  ·rw [(dc hy h3 rfl).1]
  ·rw [(pJ hy h3).1]
  ·exact uT hy ha h3
  ·exact sH hy ha h3
 ·obtain ⟨h5, h6⟩ := pJ hb h3
  dsimp only at h5; subst h5
  refine fin st.mem (h6 st.mem ?_) h1
  rcases hx with (hx | ⟨hx, ha⟩) | ⟨hx, ha⟩
  ·rw [(dc hx h1 rfl).1]
  ·exact (uT hx ha h1).symm
  ·exact (sH hx ha h1).symm
 ·rcases uS he h1 with ⟨rfl, -⟩ | ⟨B0, B, Fy, hv, hh, rfl, -⟩
  ·obtain ⟨h5, h6⟩ := dc hr h3 (mem := st.mem) rfl
   dsimp only at h5; subst h5
   exact fin st.mem h6 h1
  ·have fQ : dm (py.mask.map (base + ·) ++ py.abs) (st.mem.set px.key B) = dm (py.mask.map (base + ·) ++ py.abs) st.mem := mi (List.mem_append_right _ (by simpa using hm)) hh Fy hv
   obtain ⟨h5, h6⟩ := dc hr h3 (mem := st.mem) fQ.symm
   dsimp only at h5; subst h5
   exact fin st.mem h6 h1
 ·obtain ⟨rfl, -⟩ := dc hr h1 rfl
  rcases uS he h3 with ⟨h5, h6⟩ | ⟨B0, B, Fy, hv, hh, h5, h6⟩
  ·dsimp only at h5; subst h5
   exact fin st.mem h3 h1
  ·dsimp only at h5 hh; subst h5
   have fQ : dm (px.mask.map (base + ·) ++ px.abs) (st.mem.set py.key B) = dm (px.mask.map (base + ·) ++ px.abs) st.mem := mi (List.mem_append_right _ (by simpa using hm)) hh Fy hv
   exact fin _ h3 (dc hr h1 fQ).2
end
end Go.Eng
end

section
namespace Go.Eng
variable [aG]
open Go.RowKit (Below)

theorem mm {mem : List ay} {size : Nat} {l : Int} {h : Option Int} {x v : V} (hc : cutAt [] size l h x = some v) : cutAt mem size l h x = some v := by
 unfold cutAt at hc ⊢
 split at hc
 ·exact hc
 ·simp [eL] at hc
 ·cases hc
theorem Gk {P : Program} {tt : Table} {mem : List ay} {T : TypeId} {x v : V} {lo hi : Option V} (hc : rT P tt [] T x lo hi = some v) : rT P tt mem T x lo hi = some v := by
 unfold rT at hc ⊢
 split
 ·exact hc
 ·rename_i bO
  split at hc
  ·exact absurd rfl (bO _)
  ·split at hc
   ·cases hc
   ·split at hc
    ·cases hc
    ·split at hc
     ·split at hc
      ·exact mm hc
      ·split at hc
       ·exact mm hc
       ·cases hc
     ·split at hc
      ·cases hc
      ·split at hc
       ·exact mm hc
       ·split at hc
        ·exact mm hc
        ·cases hc
theorem Ea {tt : Table} {mem : List ay} {T : TypeId} {p v : V} (h : kP tt [] T p = some v) : kP tt mem T p = some v := by
 cases p <;> simp [kP, rowOf] at h ⊢
 exact h
theorem AF {tt : Table} {mem : List ay} {T : TypeId} {p i v : V} (h : ix tt [] T p i = some v) : ix tt mem T p i = some v := by
 unfold ix at h ⊢
 split at h
 ·split at h
  ·split at h
   ·cases p <;> simp [indexAt, eL] at h ⊢
    exact h
   ·cases h
  ·cases h
 ·cases h
theorem AH {tt : Table} {mem : List ay} {T : TypeId} {b o : Nat} {i : V} : ix tt mem T (.ptr b o) i = none := by
 unfold ix
 split
 ·split
  ·split <;> rfl
  ·rfl
 ·rfl
theorem AI {P : Program} {tt : Table} {mem : List ay} {T : TypeId} {p i v : V} (h : (match ix tt [] T p i with | some v => some v | none => rW P tt T p i) = some v) : (match ix tt mem T p i with | some v => some v | none => rW P tt T p i) = some v := by
 split at h
 ·rename_i u hu
  cases h
  rw [AF hu]
 ·have hp : ∃ b o, p = .ptr b o := by
   unfold rW at h
   split at h
   ·exact ⟨_, _, rfl⟩
   ·cases h
  obtain ⟨b, o, rfl⟩ := hp
  rw [AH]; exact h
theorem yl {P : Program} {mem : List ay} {T : TypeId} {m i v : V} {ok : Bool} (h : di P [] T m i ok = some v) : di P mem T m i ok = some v := by
 unfold di at h ⊢
 split at h
 ·split at h
  ·split at h
   ·rename_i hk
    rw [if_pos hk]
    unfold oh at h ⊢
    split at h
    ·simp at h
    ·exact h
    ·cases h
   ·cases h
  ·cases h
 ·cases h
theorem Gm {mem : List ay} {it v : V} (h : DR [] it = some v) : DR mem it = some v := by
 unfold DR at h
 split at h
 ·simp at h
 ·cases h
theorem Gn {P : Program} {tt : Table} {mem : List ay} {ts : Array TypeId} {ty : TypeId} {xs : List V} {v : V} (h : (match oi [] ts P xs with | some v => some v | none => ra P tt ts ty xs) = some v) :
  (match oi mem ts P xs with | some v => some v | none => ra P tt ts ty xs) = some v := by
 by_cases hx : ∃ b, xs = [.mp b]
 ·obtain ⟨b, rfl⟩ := hx
  simp [oi, ra, cN, jn, bC] at h
 ·have hn : ∀ m, oi m ts P xs = none := fun m => by
   unfold oi
   split
   ·exact absurd ⟨_, rfl⟩ hx
   ·rfl
  rw [hn] at h ⊢
  exact h
theorem Eb (st : St) (mem : List ay) (x : Operand) : St.eval { st with mem := mem } x = st.eval x := by cases x <;> rfl
theorem cj (st : St) (mem : List ay) : St.eval { st with mem := mem } = st.eval := funext fun x => Eb st mem x
theorem Ec {P : Program} {mem : List ay} {s d : TypeId} {x v : V} (h : kS P [] s d x = some v) : kS P mem s d x = some v := by
 cases x <;> first | exact h | (simp [kS] at h)
theorem JU {P : Program} {tt : Table} {st : St} {o : Oper} {v : V} (h : fP P tt { st with mem := [] } o = some v) : fP P tt st o = some v := by
 obtain ⟨dst, op, type, pos, after, guard⟩ := o
 cases op
 case load T x => simp only [fP,cj] at h ⊢; exact Ea h
 case indexAddr T x i => simp only [fP,cj] at h ⊢; exact AI h
 case entry it => simp only [fP,cj] at h ⊢; exact Gm h
 case convert s d x => simp only [fP,cj] at h ⊢; exact Ec h
 case lookup T x i ok => simp only [fP,cj] at h ⊢; exact yl h
 case slice T x lo hi mx =>
  cases mx
  ·simp only [fP,cj] at h ⊢; exact Gk h
  ·cases lo <;> cases hi <;> simp only [fP,cj,reduceCtorEq] at h ⊢
   exact h
 case call c =>
  obtain ⟨callee, args, ts⟩ := c
  cases callee with
  | builtin b => cases b <;> first | (simp only [fP,cj] at h ⊢; exact h) | (simp only [fP,cj] at h ⊢; exact Gn h) | (simp [fP] at h)
  | _ => simp [fP] at h
 all_goals first | (simp only [fP,cj] at h ⊢; exact h) | (simp [fP] at h)

theorem qH {mem : List ay} {v v' : V} (h : bD [] v = some v') : bD mem v = some v' ∧ eu v = [] := by
 unfold bD at h
 split at h
 ·exact ⟨h, rfl⟩
 ·exact ⟨h, rfl⟩
 ·exact ⟨h, rfl⟩
 ·exact ⟨h, rfl⟩
 ·exact ⟨h, rfl⟩
 ·exact ⟨h, rfl⟩
 ·simp at h
 ·exact ⟨h, rfl⟩
 ·cases h
theorem oH {mem : List ay} : ∀ {vs vs' : List V}, dj [] vs = some vs' → dj mem vs = some vs' ∧ vs.flatMap eu = []
 | [], vs', h => ⟨h, rfl⟩
 | c :: r, vs', h => by
  simp only [dj] at h ⊢
  split at h
  ·rename_i c' hc
   split at h
   ·rename_i r' hr
    obtain ⟨h1, h2⟩ := qH (mem := mem) hc
    obtain ⟨h3, h4⟩ := oH (mem := mem) hr
    rw [h1, h3]
    exact ⟨h, by simp [List.flatMap_cons, h2, h4]⟩
   ·cases h
  ·cases h
theorem Gp {mem : List ay} {v v' : V} (h : eA [] v = some v') : eA mem v = some v' ∧ cr v = [] := by
 unfold eA at h
 split at h
 ·rename_i cs
  split at h
  ·rename_i l hl
   obtain ⟨h1, h2⟩ := oH (mem := mem) hl
   exact ⟨by simp only [eA,h1]; exact h, h2⟩
  ·cases h
 ·rename_i bO
  obtain ⟨h1, h2⟩ := qH (mem := mem) h
  exact ⟨by cases v <;> first | exact h1 | exact absurd rfl (bO _), by cases v <;> first | exact h2 | exact absurd rfl (bO _)⟩
theorem oI {mem : List ay} : ∀ {vs vs' : List V}, cD [] vs = some vs' → cD mem vs = some vs' ∧ vs.flatMap cr = []
 | [], vs', h => ⟨h, rfl⟩
 | c :: r, vs', h => by
  simp only [cD] at h ⊢
  split at h
  ·rename_i c' hc
   split at h
   ·rename_i r' hr
    obtain ⟨h1, h2⟩ := Gp (mem := mem) hc
    obtain ⟨h3, h4⟩ := oI (mem := mem) hr
    rw [h1, h3]
    exact ⟨h, by simp [List.flatMap_cons, h2, h4]⟩
   ·cases h
  ·cases h
theorem kX {v v' : V} (h : bD [] v = some v') {E : Env} {x : Value} (hr : aX E v x) : aX E v' x := by
 unfold bD at h
 split at h
 ·cases h; exact hr
 ·cases h; exact ov hr
 ·cases h; exact hr
 ·cases h; cases hr with | full _ _ _ h => exact h
 ·cases h; exact hr
 ·cases h; exact hr
 ·simp at h
 ·cases h
  cases hr with
  | fS _ f _ _ xs ys hx hy h1 h2 =>
   have e1 : xs = #[] := by simpa using hx.symm
   have e2 : ys = #[] := by simpa using hy.symm
   subst e1; subst e2; exact .sc _ _
 ·cases h
theorem jJ {E : Env} : ∀ {vs vs' : List V} {xs : List Value}, dj [] vs = some vs' → aQ E vs xs → aQ E vs' xs
 | [], vs', xs, h, hr => by cases h; exact hr
 | c :: r, vs', xs, h, hr => by
  obtain ⟨x, ys, rfl, h1, h2⟩ := hr.of_cons
  simp only [dj] at h
  split at h
  ·rename_i c' hc
   split at h
   ·rename_i r' tX
    cases h
    exact .cons (kX hc h1) (jJ tX h2)
   ·cases h
  ·cases h
theorem wm {v v' : V} (h : eA [] v = some v') {E : Env} {x : Value} (hr : aX E v x) : aX E v' x := by
 unfold eA at h
 split at h
 ·rename_i cs
  split at h
  ·rename_i l hl
   cases h
   cases hr with
   | agg _ _ xs hlen hh =>
    have := jJ hl (E := E) (xs := xs.toList) ⟨by simpa using hlen, fun i c x hc hx => hh i c x hc (by simpa using hx)⟩
    exact .agg _ _ _ (by simpa using this.1) fun i c x hc hx => this.2 i c x hc (by simpa using hx)
  ·cases h
 ·exact kX h hr
theorem oJ {E : Env} : ∀ {vs vs' : List V} {xs : List Value}, cD [] vs = some vs' → aQ E vs xs → aQ E vs' xs
 | [], vs', xs, h, hr => by cases h; exact hr
 | c :: r, vs', xs, h, hr => by
  obtain ⟨x, ys, rfl, h1, h2⟩ := hr.of_cons
  simp only [cD] at h
  split at h
  ·rename_i c' hc
   split at h
   ·rename_i r' tX
    cases h
    exact .cons (wm hc h1) (oJ tX h2)
   ·cases h
  ·cases h
theorem oK (mem : List ay) (r : V) : cP mem [] r = mem := by unfold cP; split <;> rfl

theorem sC.hole {P : Program} {f : FuncId} {vs vs' : List V} {e : Nat} {rs : List V} (hp : cD [] vs = some vs') (h : sC P f vs' e rs) {mem : List ay} {key : Nat} (cf : mem[key]? = some .hole) :
  aU P f vs mem (.ms key 0 0 rs.length) (mem.set key (.rows 0 e rs)) := by
 obtain ⟨v0, h⟩ := h
 refine ⟨h.1, fun E w xs hs hx => ?_⟩
 obtain ⟨Mo, hk⟩ := oI (mem := mem) hp
 have h1 := fZ hs (keys := []) hx Mo (by rw [hk]; simp)
 have hE : (E.kc w []).pure = ⟨E.F, fun _ _ => none, E.gl⟩ := by
  refine Env.DO (funext fun ad => ?_) rfl
  simp only [Env.pure,Env.kc]
  cases hh : E.F ad <;> simp
 rw [hE] at h1
 have RU : key < mem.length := (List.getElem?_eq_some_iff.1 cf).1
 have eR : ∀ v, E.aK key v = none := hs.mem key _ cf
 have jC : bd ⟨E.F, fun _ _ => none, E.gl⟩ w { tmps := #[], defers := [] } { fr := [], mem := [] } :=
  ⟨hs.F, (fun k v g e c h => by cases h), (fun k B h => by simp at h), (fun k _ v => rfl), (fun k B h => by simp at h), (fun k k' v v' g e c e' c' h => by cases h), .nil _⟩
 refine (h.2 _ w xs jC h1).mono ?_
 rintro en w' ⟨E', x, rfl, du, la, hr⟩
 have iz : ∀ k v g e c, E'.aK k v = some (g, e, c) → w.heap.size ≤ g := fun k v g e c hb => by
  rcases du.aK _ _ _ _ _ hb with ⟨_, _, _, _, h⟩ | h
  ·cases h
  ·exact h
 have hold : ∀ b, b < w.heap.size → w'.heap[b]? = w.heap[b]? := fun b hb => du.heap b hb fun _ _ _ _ h => by cases h
 have RV : ∀ ad y, E'.F ad = some y → E.F ad = some y ∨ w.heap.size ≤ ad.block := fun ad y hy => by
  rcases du.F _ _ hy with h | h | ⟨_, _, _, _, h⟩
  ·exact .inl h
  ·exact .inr h
  ·cases h
 have JV : (⟨E'.F, fun k v => if k = key then (if v = 0 then E'.aK 0 v0 else none) else E.aK k v, E'.gl⟩ : Env).aK key 0 = E'.aK 0 v0 := by simp
 have N0 : ∀ v, v ≠ 0 → (⟨E'.F, fun k v => if k = key then (if v = 0 then E'.aK 0 v0 else none) else E.aK k v, E'.gl⟩ : Env).aK key v = none := fun v hv => by simp [hv]
 have kQ : ∀ k v, k ≠ key → (⟨E'.F, fun k v => if k = key then (if v = 0 then E'.aK 0 v0 else none) else E.aK k v, E'.gl⟩ : Env).aK k v = E.aK k v := fun k v hk => if_neg hk
 generalize RW : (⟨E'.F, fun k v => if k = key then (if v = 0 then E'.aK 0 v0 else none) else E.aK k v, E'.gl⟩ : Env) = E2 at JV N0 kQ
 have ei : E2.F = E'.F := by rw [← RW]
 have uF : E2.pure = E'.pure := Env.DO ei rfl
 have Cz : ∀ v t, E2.aK key v = some t → v = 0 ∧ E'.aK 0 v0 = some t := fun v t ht => by
  by_cases hv : v = 0
  ·subst hv; exact ⟨rfl, JV ▸ ht⟩
  ·rw [N0 v hv] at ht; cases ht
 have hle : E.le E2 := ⟨fun ad y hy => by rw [ei]; exact du.le.F _ _ hy, fun k v t hk => by
  by_cases bR : k = key
  ·subst bR; rw [eR v] at hk; cases hk
  ·rw [kQ k v bR]; exact hk⟩
 refine ⟨E2, x, rfl, ⟨hle, fun k v g e c hk => ?_, fun ad y hy => ?_, du.os, du.tape, du.output, du.size, fun b hb _ => hold b hb⟩, ⟨fun ad y hy => la.F _ _ (by rw [← ei]; exact hy), fun k v g e c hk => ?_, fun k B hk => ?_, fun k hk v => ?_, fun k B hk v hv => ?_, fun k k' v v' g e1 c1 e2 c2 h5 h6 => ?_, .nil _⟩, ?_⟩
 ·by_cases bR : k = key
  ·subst bR; obtain ⟨-, h⟩ := Cz _ _ hk; exact .inr (iz _ _ _ _ _ h)
  ·rw [kQ k v bR] at hk; exact .inl ⟨k, v, e, c, hk⟩
 ·rw [ei] at hy
  rcases RV ad y hy with h | h
  ·exact .inl h
  ·exact .inr (.inl h)
 ·by_cases bR : k = key
  ·subst bR; obtain ⟨-, h⟩ := Cz _ _ hk; exact la.lt _ _ _ _ _ h
  ·rw [kQ k v bR] at hk; have := hs.lt _ _ _ _ _ hk; have := du.size; omega
 ·rw [List.getElem?_set] at hk
  by_cases bR : key = k
  ·subst bR
   simp only [if_true,RU] at hk
   cases hk
   have h0 := la.mem 0 _ rfl
   rcases h0 with ⟨h1, h2⟩ | ⟨g, T, ys, c, h1, h2, h3, h4, h5, h6⟩
   ·exact .inl ⟨h1, by rw [JV]; exact h2⟩
   ·exact .inr ⟨g, T, ys, c, by rw [JV]; exact h1, h2, h3, h4, by rw [uF]; exact h5, fun o => by rw [ei]; exact h6 o⟩
  ·rw [if_neg bR] at hk
   refine (hs.mem k B hk).mono hle (fun v hv => by rw [kQ k v (fun e => bR e.symm)]; exact hv) (fun g e c hb => hold g (hs.lt _ _ _ _ _ hb)) fun g e c o hb hn => ?_
   rw [ei]
   cases hy : E'.F ⟨g, o, none⟩ with
   | none => rfl
   | some y =>
    rcases RV _ y hy with h | h
    ·rw [hn] at h; cases h
    ·have := hs.lt _ _ _ _ _ hb; simp at h; omega
 ·dsimp only at hk
  rw [List.length_set] at hk
  rw [kQ k v (by omega)]; exact hs.top k (by dsimp only; omega) v
 ·rw [List.getElem?_set] at hk
  by_cases bR : key = k
  ·subst bR
   simp only [if_true,RU] at hk
   cases hk
   exact N0 v (by simp [ay.aC] at hv; omega)
  ·rw [if_neg bR] at hk
   rw [kQ k v (fun e => bR e.symm)]; exact hs.aC k B hk v hv
 ·by_cases fJ : k = key <;> by_cases jA : k' = key
  ·rw [fJ, jA]
  ·subst fJ
   obtain ⟨-, h⟩ := Cz _ _ h5
   rw [kQ k' _ jA] at h6
   have := hs.lt _ _ _ _ _ h6; have := iz _ _ _ _ _ h; omega
  ·subst jA
   obtain ⟨-, h⟩ := Cz _ _ h6
   rw [kQ k _ fJ] at h5
   have := hs.lt _ _ _ _ _ h5; have := iz _ _ _ _ _ h; omega
  ·rw [kQ k _ fJ] at h5; rw [kQ k' _ jA] at h6
   exact hs.apart _ _ _ _ _ _ _ _ _ h5 h6
 ·rcases vT hr with ⟨h0, rfl⟩ | ⟨g, e, c, aa, cap, rfl, hb, hl, h0, hc⟩
  ·rw [h0]; exact .df _ _ _ _
  ·exact .ms _ _ _ _ _ g e c _ _ (by rw [JV]; exact hb) hl h0 hc

theorem bd.Gq {E : Env} {w : World} {a : Act} {st : St} (hs : bd E w a st) {xs : Array Value} {rs : List V} {e c : Nat} (T : TypeId) (hl : rs.length ≤ c) (hr : fE E.pure e rs (fun o => xs[o]?)) :
  ∃ E', bd E' (w.alloc (.cells xs T (0, 0))) a st ∧ dt E w E' (w.alloc (.cells xs T (0, 0))) ∧ aX E' (.slice rs) (.slice (some ⟨w.heap.size, 0, none⟩) rs.length c) := by
 have lq : ∀ o, (w.alloc (.cells xs T (0, 0))).cell? ⟨w.heap.size, o, none⟩ = xs[o]? := fun o => iW (heap_alloc_new w _) o
 have hle : E.le ⟨fun ad => match E.F ad with | some x => some x | none => if ad.block = w.heap.size ∧ ad.spot = none then xs[ad.off]? else none, E.aK, E.gl.mono fun ad x h => by simp only [h]⟩ := ⟨fun ad x h => by dsimp only; rw [h], fun _ _ _ h => h⟩
 refine ⟨⟨fun ad => match E.F ad with | some x => some x | none => if ad.block = w.heap.size ∧ ad.spot = none then xs[ad.off]? else none, E.aK, E.gl.mono fun ad x h => by simp only [h]⟩, ⟨fun ad x hx => ?_, fun k v g e c h => ?_, fun k B hB => ?_, hs.top, hs.aC, hs.apart, hs.fr.mono hle⟩, ⟨hle, fun k v g e c h => .inl ⟨k, v, e, c, h⟩, fun ad x hx => ?_, rfl, rfl, rfl, by simp, fun b hb _ => Go.RowKit.Below.heap_alloc w _ b hb⟩, ?_⟩
 ·dsimp only at hx
  split at hx
  ·rename_i y hy; cases hx
   rw [World.cell?_alloc_lt w _ ad (World.block_lt_of_cell? w ad (hs.F ad _ hy))]; exact hs.F ad _ hy
  ·split at hx
   ·rename_i hc
    obtain ⟨b, o, el⟩ := ad
    obtain ⟨rfl, rfl⟩ := hc
    rw [lq]; exact hx
   ·cases hx
 ·have := hs.lt _ _ _ _ _ h; simp; omega
 ·refine (hs.mem k B hB).mono hle (fun v h => h) (fun g e' c' hb => Go.RowKit.Below.heap_alloc w _ g (hs.lt _ _ _ _ _ hb)) fun g e c o hb hn => ?_
  dsimp only
  rw [hn]
  have := hs.lt _ _ _ _ _ hb
  simp; intro h; omega
 ·dsimp only at hx
  split at hx
  ·rename_i y hy; cases hx; exact .inl hy
  ·split at hx
   ·rename_i hc; exact .inr (.inl (by rw [hc.1]; exact Nat.le_refl _))
   ·cases hx
 ·have hn : ∀ o, E.F ⟨w.heap.size, o, none⟩ = none := fun o => by
   cases hx : E.F ⟨w.heap.size, o, none⟩ with
   | none => rfl
   | some x => have := World.block_lt_of_cell? w _ (hs.F _ _ hx); simp at this
  refine .slice _ rs _ c e ⟨w.heap.size, 0, none⟩ (fun i j => (xs[i * e + j]?).getD undef) (fun _ => rfl) hl (fun i row hi => (hr i row hi).1) (fun i row j cc hi hj => ?_) (fun i row j cc hi hj => ?_) fun i row j cc hi hj => ?_
  ·obtain ⟨x, hx, h1, h2⟩ := (hr i row hi).2 j cc hj
   rw [add_lit, Nat.zero_add]
   simp only [hn,true_and,if_true,and_self]
   dsimp only at hx; rw [hx]; rfl
  ·obtain ⟨x, hx, h1, h2⟩ := (hr i row hi).2 j cc hj
   dsimp only at hx ⊢; rw [hx]; exact h1
  ·obtain ⟨x, hx, h1, h2⟩ := (hr i row hi).2 j cc hj
   dsimp only at hx ⊢; rw [hx]; exact h2.mono (Env.fA hle)

section
variable {P : Program} {tt : Table} (ht : TT P tt)
include ht
theorem sI {E : Env} {w : World} {a : Act} {st : St} (hs : bd E w a st) {o : Oper} {mem : List ay} {Q : V → Prop} {R : St → Prop} (h : mL P tt o { st with mem := mem } Q) (hQ : ∀ v, Q v → R (st.put o.dst v))
  (kd : ∀ v, fP P tt { st with mem := mem } o = some v → ∃ x, (execOp a.eval o).run P w = .ok (.value x) w ∧ aX E v x)
  {ρ : Option Nat} {n : Nat} {next : Act → World → Prop} {Q' : Exit → Act → World → Prop} (hn : ∀ v w', xZ E w a o.dst R v w' → next (a.put o.dst v) w') : o.wpIn (WF ρ) n P a w next Q' := by
 obtain ⟨dst, op, type, pos, after, guard⟩ := o
 have gen : ∀ (ko : ∀ c, op ≠ .defer c), (∀ f xs ts, op ≠ .call { callee := .value f, args := xs, argTypes := ts }) → (∀ T ps, op ≠ .build T ps) → (∀ T l ps, op ≠ .buildSlice T l ps) → Oper.wpIn (WF ρ) n P { dst := dst, op := op, type := type, pos := pos, after := after, guard := guard } a w next Q' := by
  intro ko h1 h2 h3
  have hv : ∃ v, fP P tt { st with mem := mem } { dst := dst, op := op, type := type, pos := pos, after := after, guard := guard } = some v ∧ Q v := by
   unfold mL at h
   split at h
   ·rename_i heq; exact absurd heq (h1 _ _ _)
   ·unfold rh at h
    dsimp only at h
    split at h
    ·rename_i v hv
     split at hv
     ·exact absurd rfl (h2 _ _)
     ·exact absurd rfl (h3 _ _ _)
     ·exact ⟨v, hv, h⟩
    ·exact h.elim
  obtain ⟨v, hv, hq⟩ := hv
  obtain ⟨x, h4, h5⟩ := kd v hv
  exact bj ko h4 (hn _ _ ⟨E, _, hs.put dst h5, dt.refl E w, hQ _ hq⟩)
 cases op
 case defer c => simp [mL, rh, fP] at h
 case build T ps =>
  simp only [mL,rh,cj] at h
  split at h
  ·rename_i v hv
   obtain ⟨x, h1, h2⟩ := oA ht hs hv
   exact bj (by simp) (bf h1) (hn _ _ ⟨E, _, hs.put dst h2, dt.refl E w, hQ _ h⟩)
  ·exact h.elim
 case buildSlice T len ps =>
  simp only [mL,rh,cj] at h
  split at h
  ·rename_i v hv
   split at hv
   ·rename_i size rs hl
    cases hv
    obtain ⟨Z, e, h1, h2, h3, h4⟩ := vS ht (fun p _ => hs.eval p.2) hl
    obtain ⟨E', h5, h6, h7⟩ := hs.Gq (xs := Z) (rs := rs) (c := len) e (by omega) h4
    rw [h3] at h7
    exact bj (by simp) (dL h1) (hn _ _ ⟨E', _, h5.put dst h7, h6, hQ _ h⟩)
   ·cases hv
  ·exact h.elim
 case call c =>
  obtain ⟨callee, args, ts⟩ := c
  cases callee with
  | value f =>
   simp only [mL,cj] at h
   split at h
   ·rename_i g vs hg
    obtain ⟨vs', r, h1, h2, h3⟩ := h
    obtain ⟨h4, h5⟩ := oI (mem := st.mem) h1
    obtain ⟨ys, h6, h7⟩ := lz (P := P) (w := w) (hs.eval f) (hs.jE args) hg
    have hc : uM P g vs st dst R := by
     rcases h2 with h2 | h2
     ·exact .inl ⟨vs', r, h4, h2, by rw [h5, oK]; exact hQ _ h3⟩
     ·refine .inr (.inr (.inr ⟨r, fun E1 w1 Y3 Ao r5 => ?_, hQ _ h3⟩))
      obtain ⟨x, g1, g2⟩ := h2 E1 w1 Y3 Ao (oJ h1 r5)
      exact ⟨x, g1, g2⟩
    rcases qC hs hc h6 with ⟨h8, h9⟩ | ⟨v, h8, h9⟩
    ·refine qA (by simp) (f := g) (xs := ys) ?_ h9 fun e w' ⟨v, hv, ha⟩ => ⟨v, hv, hn _ _ ha⟩
     rw [← h8, ← h7]
     simp only [execOp,resolve]
    ·refine bj (by simp) (v := v) ?_ (hn _ _ h9)
     rw [← h8, ← h7]
     simp only [execOp,resolve]
   ·exact h.elim
  | _ => exact gen (by simp) (by simp) (by simp) (by simp)
 all_goals exact gen (by simp) (by simp) (by simp) (by simp)

omit ht in
theorem oL {mem : List ay} {k : Nat} (h : mem[k]? = some .hole) (B : ay) : bg mem k B = mem.set k B := by
 unfold bg; rw [if_pos (List.getElem?_eq_some_iff.1 h).1]

theorem ym {all : Array Oper} {base : Nat} {E : Env} {w : World} {a : Act} {st : St} (hs : bd E w a st) {i : Nat} {o : Oper} {p : Pl} {Q : St → Prop} (hi : all[i]? = some o) (h : dM P tt all base o p st Q)
  {ρ : Option Nat} {n : Nat} {next : Act → World → Prop} {Q' : Exit → Act → World → Prop} (hn : ∀ v w', xZ E w a o.dst Q v w' → next (a.put o.dst v) w') : wpOpIn (WF ρ) n P all Q' i next a w := by
 unfold wpOpIn
 rw [hi]
 dsimp only
 unfold dM at h
 split at h
 ·rename_i hw
  rw [if_pos (gC hs hw)]
  split at h
  ·rw [rC] at h; exact sI ht hs h (fun _ h => h) (fun v hv => mc ht hs (JU hv)) hn
  ·rw [rC] at h; exact sI ht hs h (fun _ h => h) (fun v hv => mc ht (hs.dm _) hv) hn
  ·obtain ⟨hh, h⟩ := h
   rw [ga] at hh
   split at h
   ·rename_i B v hb
    refine dk ht hs (key := base + p.key) (.inl hh) ?_ hn
    unfold ej at hb
    unfold bH
    split at hb
    ·rename_i T heq
     rw [heq]
     dsimp only
     split at hb
     ·rename_i i hi; cases hb; rw [hi]; dsimp only; rw [oL hh]; exact h
     ·cases hb
    ·rename_i heq
     rw [heq]
     dsimp only
     split at hb
     ·rename_i i hi; cases hb; rw [hi]; dsimp only; rw [oL hh]; exact h
     ·cases hb
    ·rename_i heq
     rw [heq]
     dsimp only
     split at hb
     ·rename_i i hi; cases hb; rw [hi]; dsimp only; rw [oL hh]; exact h
     ·cases hb
    ·rename_i heq
     rw [heq]
     dsimp only
     cases hb; rw [oL hh]; exact h
    ·rename_i heq
     rw [heq]
     dsimp only
     split at hb
     ·rename_i i hi; cases hb; rw [hi]; dsimp only; rw [oL hh]; exact h
     ·cases hb
    ·cases hb
   ·rw [uQ] at h
    unfold kV at h
    split at h
    ·rename_i f xs ts heq
     split at h
     ·rename_i g vs hg
      obtain ⟨vs', e, rs, h1, h2, h3⟩ := h
      refine dk ht hs (key := base + p.key) (.inl hh) ?_ hn
      unfold bH
      rw [heq]
      dsimp only
      split
      ·rename_i k hk; rw [hk] at hg; simp [bn] at hg
      ·rw [hg]
       exact .inr (.inl ⟨_, _, h2.hole h1 hh, h3⟩)
     ·exact h.elim
    ·exact h.elim
  ·obtain ⟨hh, h⟩ := h
   rw [ga] at hh
   split at h
   ·rename_i m v hb
    refine dk ht hs (key := base + p.key) (.inl hh) ?_ hn
    unfold oF at hb
    unfold bH
    split at hb
    ·rename_i heq
     rw [heq]
     dsimp only
     split at hb
     ·rename_i i hi; cases hb; rw [hi]; exact h
     ·cases hb
    ·rename_i xs ts heq
     rw [heq]
     dsimp only
     split at hb
     ·rename_i s x JH
      rw [JH]
      dsimp only
      split at hb
      ·rename_i size ob rows ha
       rw [ha]
       simp only [Option.some.injEq] at hb
       dsimp only
       rw [hb]; exact h
      ·cases hb
     ·cases hb
    ·rename_i heq
     rw [heq]
     dsimp only
     split at hb
     ·rename_i i hi; cases hb; rw [hi]; exact h
     ·cases hb
    ·rename_i heq
     rw [heq]
     dsimp only
     split at hb
     ·rename_i i hi; cases hb; rw [hi]; exact h
     ·cases hb
    ·cases hb
   ·exact h.elim
  ·split at h
   ·rename_i m hb
    refine dk ht hs (key := st.mem.length) (.inr rfl) ?_ hn
    unfold ri at hb
    unfold bH
    split at hb
    ·rename_i heq
     rw [heq]
     dsimp only
     split at hb
     ·rename_i b off hp
      split at hb
      ·rename_i hk
       subst hk
       rw [hp, hb]; exact h
      ·cases hb
     ·cases hb
    ·cases hb
   ·exact h.elim
  ·split at h
   ·rename_i v hb
    refine dk ht hs (key := st.mem.length) (.inr rfl) ?_ hn
    have ho := D6 (P := P) hb
    unfold kW at hb
    unfold bH
    split at hb
    ·rename_i heq
     rw [heq]
     dsimp only
     rw [ho]; exact h
    ·cases hb
   ·exact h.elim
  ·refine dk ht hs (key := st.mem.length) (.inr rfl) ?_ hn
   unfold lD at h
   unfold bH
   split at h
   ·rename_i f xs ts heq
    split at h
    ·rename_i g vs hg
     obtain ⟨vs', r, h1, h2, h3⟩ := h
     rw [heq]
     dsimp only
     split
     ·rename_i k hk; rw [hk] at hg; simp [bn] at hg
     ·rw [hg]
      exact .inl ⟨vs', r, h1, h2, h3⟩
    ·exact h.elim
   ·exact h.elim
  ·refine dk ht hs (key := st.mem.length) (.inr rfl) ?_ hn
   unfold uR at h
   unfold bH
   split at h
   ·rename_i f xs ts heq
    split at h
    ·rename_i g vs hg
     obtain ⟨v, B0, B, -, -, h1, h2, h3⟩ := h
     rw [heq]
     dsimp only
     split
     ·rename_i k hk; rw [hk] at hg; simp [bn] at hg
     ·rw [hg]
      exact .inr (.inl ⟨_, _, h2 _ h1, h3⟩)
    ·exact h.elim
   ·exact h.elim
 ·rename_i hw
  rw [if_neg (by rw [gC hs hw]; simp)]
  exact ⟨fun _ _ => trivial, hn _ _ ⟨E, _, hs.put o.dst (.sc _ _), dt.refl E w, h⟩⟩
 ·exact h.elim
end
end Go.Eng
end

section
namespace Go.Eng
variable [aG]

def Up : Pl := ⟨.n, 0, [], [], []⟩
def iF (o : Oper) (k : Nat) : Bool := o.after.any fun e => Region.binds .any e && e.on == k
def lF (all : Array Oper) (y : Oper) (py : Pl) : Nat → List Oper → List Pl → Bool
 | _, [], _ => true
 | k, x :: r, px => (iF y k || py.Mw.contains k || pH all x (px.headD Up) y py) && lF all y py (k + 1) r px.tail
def AJ (o : Oper) (i : Nat) : Bool := o.after.all fun e => !Region.binds .any e || decide (e.on < i)
def lG (plan : List Pl) (i : Nat) : Pl := (plan[i]?).getD Up
def Gr (plan : List Pl) (y : Oper) (py : Pl) : Bool := py.Mw.all fun k => iF y k || y.after.any fun e => Region.binds .any e && (lG plan e.on).Mw.contains k
def rD (all : Array Oper) (plan : List Pl) : Nat → List Oper → List Pl → Bool
 | _, [], _ => true
 | i, y :: r, py => AJ y i && Gr plan y (py.headD Up) && lF all y (py.headD Up) 0 (all.toList.take i) plan && rD all plan (i + 1) r py.tail
def sJ (all : Array Oper) (plan : List Pl) : Bool := rD all plan 0 all.toList plan

theorem nB {α : Type} (l : List α) (i : Nat) (d : α) : (l.drop i).headD d = (l[i]?).getD d := by
 rw [List.headD_eq_head?_getD, List.head?_drop]

theorem oM {all : Array Oper} {y : Oper} {py : Pl} {plan : List Pl} : ∀ {l : List Oper} {n : Nat}, lF all y py n l (plan.drop n) = true → ∀ k x, l[k]? = some x → (iF y (n + k) = true ∨ (n + k) ∈ py.Mw) ∨ pH all x (lG plan (n + k)) y py = true
 | [], n, _, k, x, h => by simp at h
 | z :: r, n, h, k, x, hk => by
  simp only [lF,Bool.and_eq_true,Bool.or_eq_true,nB] at h
  cases k with
  | zero => simp at hk; subst hk; simpa [lG] using h.1
  | succ k =>
   have h2 := h.2
   rw [List.tail_drop] at h2
   have := oM h2 k x (by simpa using hk)
   rw [Nat.add_assoc, Nat.add_comm 1 k] at this
   exact this
theorem qI {all : Array Oper} {plan : List Pl} : ∀ {l : List Oper} {n : Nat}, rD all plan n l (plan.drop n) = true → ∀ k y, l[k]? = some y → (AJ y (n + k) = true ∧ Gr plan y (lG plan (n + k)) = true) ∧ lF all y (lG plan (n + k)) 0 (all.toList.take (n + k)) plan = true
 | [], n, _, k, x, h => by simp at h
 | z :: r, n, h, k, x, hk => by
  simp only [rD,Bool.and_eq_true,nB] at h
  cases k with
  | zero => simp at hk; subst hk; exact h.1
  | succ k =>
   have h2 := h.2
   rw [List.tail_drop] at h2
   have := qI h2 k x (by simpa using hk)
   rw [Nat.add_assoc, Nat.add_comm 1 k] at this
   exact this
theorem jK {all : Array Oper} {plan : List Pl} (h : sJ all plan = true) {i : Nat} {y : Oper} (hi : all[i]? = some y) :
  (∀ e ∈ y.after, Region.binds .any e = true → e.on < i) ∧ (∀ k ∈ (lG plan i).Mw, iF y k = true ∨ ∃ e ∈ y.after, Region.binds .any e = true ∧ k ∈ (lG plan e.on).Mw) ∧ ∀ k x, k < i → all[k]? = some x → (iF y k = true ∨ k ∈ (lG plan i).Mw) ∨ pH all x (lG plan k) y (lG plan i) = true := by
 have := qI (n := 0) h i y (by simpa using hi)
 rw [Nat.zero_add] at this
 obtain ⟨⟨h1, h3⟩, h2⟩ := this
 refine ⟨fun e he hb => ?_, fun k hk => ?_, fun k x hk hx => ?_⟩
 ·unfold AJ at h1
  have := Array.all_eq_true_iff_forall_mem.1 h1 e he
  simpa [hb] using this
 ·unfold Gr at h3
  have := List.all_eq_true.1 h3 k hk
  rw [Bool.or_eq_true] at this
  refine this.imp id fun h => ?_
  rw [Array.any_eq_true'] at h
  obtain ⟨e, he, h⟩ := h
  rw [Bool.and_eq_true] at h
  exact ⟨e, he, h.1, by simpa using h.2⟩
 ·have := oM (n := 0) h2 k x (by rw [List.getElem?_take_of_lt hk]; simpa using hx)
  rwa [Nat.zero_add] at this

section
variable {P : Program} {tt : Table} {all : Array Oper} {plan : List Pl} {base : Nat}
def yn (P : Program) (tt : Table) (all : Array Oper) (plan : List Pl) (base : Nat) : List Nat → St → (St → Prop) → Prop
 | [], st, K => K st
 | i :: r, st, K => match all[i]? with
  | some o => dM P tt all base o (lG plan i) st fun st' => yn P tt all plan base r st' K
  | none => False
theorem sK {o : Oper} {p : Pl} {st : St} {K K' : St → Prop} (h : ∀ s, K s → K' s) (hh : dM P tt all base o p st K) : dM P tt all base o p st K' := by
 by_cases hz : p.cls = .z
 ·unfold dM at hh ⊢
  split at hh
  ·rw [hz] at hh ⊢
   exact sE hh h
  ·exact h _ hh
  ·exact hh.elim
 ·obtain ⟨v, m, h1, h2⟩ := (ee hz).1 hh
  exact (ee hz).2 ⟨v, m, h1, h _ h2⟩
theorem sL {i : Nat} {o : Oper} (hi : all[i]? = some o) {K : St → Prop} {σ2 : List Nat} : ∀ {σ1 : List Nat} {st : St}, (∀ k ∈ σ1, ∀ x, all[k]? = some x → pH all x (lG plan k) o (lG plan i) = true) →
  yn P tt all plan base (σ1 ++ i :: σ2) st K → dM P tt all base o (lG plan i) st fun st' => yn P tt all plan base (σ1 ++ σ2) st' K
 | [], st, _, h => by simpa [yn, hi] using h
 | k :: r, st, hp, h => by
  simp only [List.cons_append,yn] at h ⊢
  cases hk : all[k]? with
  | none => rw [hk] at h; exact h.elim
  | some x =>
   rw [hk] at h
   dsimp only at h ⊢
   exact AE (hp k (by simp) x hk) (sK (fun s hs => sL hi (fun k' eQ => hp k' (by simp [eQ])) hs) h)

theorem oN {y : Oper} {k : Nat} {listed : Array Bool} (h : iF y k = true) (hl : ∀ e ∈ y.after, Region.binds .any e = true → listed.getD e.on false = true) : listed.getD k false = true := by
 unfold iF at h
 rw [Array.any_eq_true'] at h
 obtain ⟨e, he, h⟩ := h
 rw [Bool.and_eq_true, beq_iff_eq] at h
 rw [← h.2]; exact hl e he h.1

def Gs (all : Array Oper) (listed : Array Bool) : Prop := ∀ (i : Nat) (o : Oper), listed.getD i false = true → all[i]? = some o → ∀ e ∈ o.after, Region.binds .any e = true → listed.getD e.on false = true
theorem AK (bM : sJ all plan = true) {listed : Array Bool} (hc : Gs all listed) (ka : listed.size = all.size) : ∀ (i : Nat) (y : Oper), all[i]? = some y → (∀ e ∈ y.after, Region.binds .any e = true → listed.getD e.on false = true) → ∀ k ∈ (lG plan i).Mw, listed.getD k false = true := by
 intro i
 induction i using Nat.strongRecOn with
 | _ i ih =>
  intro y hy hl k hk
  rcases (jK bM hy).2.1 k hk with h | ⟨e, he, hb, h⟩
  ·exact oN h hl
  ·have h1 := hl e he hb
   have aB : e.on < all.size := by
    have : e.on < i := (jK bM hy).1 e he hb
    have := (Array.getElem?_eq_some_iff.1 hy).1
    omega
   have hz := Array.getElem?_eq_getElem aB
   exact ih e.on ((jK bM hy).1 e he hb) _ hz (hc e.on _ h1 hz) k h

theorem yp (ht : TT P tt) (bM : sJ all plan = true) {ρ : Option Nat} {n : Nat} {K : St → Prop} {Q' : Exit → Act → World → Prop} : ∀ (fuel : Nat) (listed : Array Bool) (σ : List Nat), listed.size = all.size → Gs all listed → σ.length ≤ fuel → σ.Pairwise (· < ·) → (∀ i, i ∈ σ ↔ listed[i]? = some false) →
  ∀ {E : Env} {w : World} {a : Act} {st : St}, bd E w a st → yn P tt all plan base σ st K → (∀ a' w', a'.defers = a.defers → (∃ E' st', bd E' w' a' st' ∧ dt E w E' w' ∧ K st') → Q' .normal a' w') → wpAnyIn (WF ρ) n P .any all Q' fuel listed a w := by
 intro fuel
 have done : ∀ (listed : Array Bool) (σ : List Nat), listed.size = all.size → σ.Pairwise (· < ·) → (∀ i, i ∈ σ ↔ listed[i]? = some false) → Region.ready .any all listed = [] → σ = [] := by
  intro listed σ ka uU wo hr
  cases σ with
  | nil => rfl
  | cons i r =>
   exfalso
   have Uq := (wo i).1 (by simp)
   have aB : i < all.size := by rw [← ka]; exact (Array.getElem?_eq_some_iff.1 Uq).1
   have : i ∈ Region.ready .any all listed := by
    refine mem_ready.2 ⟨by simp [Array.getD_eq_getD_getElem?, Uq], all[i], Array.getElem?_eq_getElem aB, fun e he hb => ?_⟩
    have Ns := (jK bM (Array.getElem?_eq_getElem aB)).1 e he hb
    have hs : e.on < listed.size := by omega
    cases hv : listed[e.on] with
    | true => simp [Array.getD_eq_getD_getElem?, Array.getElem?_eq_getElem hs, hv]
    | false =>
     have : e.on ∈ i :: r := (wo e.on).2 (by rw [Array.getElem?_eq_getElem hs, hv])
     rcases List.mem_cons.1 this with h | h
     ·omega
     ·have := List.rel_of_pairwise_cons uU h; omega
   rw [hr] at this; cases this
 induction fuel with
 | zero =>
  intro listed σ ka jD hlen uU wo E w a st hs h hq
  have hσ : σ = [] := List.length_eq_zero_iff.1 (by omega)
  subst hσ
  refine ⟨?_, hq _ _ rfl ⟨E, st, hs, dt.refl E w, h⟩⟩
  cases hr : Region.ready .any all listed with
  | nil => rfl
  | cons j l =>
   have hj : j ∈ Region.ready .any all listed := by rw [hr]; simp
   obtain ⟨h0, o, ho, -⟩ := mem_ready.1 hj
   have aB : j < listed.size := by rw [ka]; exact (Array.getElem?_eq_some_iff.1 ho).1
   have : j ∈ ([] : List Nat) := (wo j).2 (by
    rw [Array.getElem?_eq_getElem aB]; congr 1
    simpa [Array.getD_eq_getD_getElem?, Array.getElem?_eq_getElem aB] using h0)
   cases this
 | succ fuel ih =>
  intro listed σ ka jD hlen uU wo E w a st hs h hq
  refine ⟨fun hr => ?_, fun i hi => ?_⟩
  ·have := done listed σ ka uU wo hr
   subst this
   exact hq _ _ rfl ⟨E, st, hs, dt.refl E w, h⟩
  ·obtain ⟨h0, o, ho, N1⟩ := mem_ready.1 hi
   have aB : i < listed.size := by rw [ka]; exact (Array.getElem?_eq_some_iff.1 ho).1
   have Uq : listed[i]? = some false := by
    rw [Array.getElem?_eq_getElem aB]; congr 1
    simpa [Array.getD_eq_getD_getElem?, Array.getElem?_eq_getElem aB] using h0
   obtain ⟨σ1, σ2, rfl⟩ := List.append_of_mem ((wo i).2 Uq)
   rw [List.pairwise_append] at uU
   obtain ⟨jC, gQ, N2⟩ := uU
   rw [List.pairwise_cons] at gQ
   have kY := sL ho (σ1 := σ1) (fun k hk x hx => by
    have Vs : k < i := N2 k hk i (by simp)
    rcases (jK bM ho).2.2 k x Vs hx with hw | hw
    ·exfalso
     have h1 := hw.elim (fun hw => oN hw N1) fun hw => AK bM jD ka i o ho N1 k hw
     have h2 := (wo k).1 (by simp [hk])
     rw [Array.getD_eq_getD_getElem?, h2] at h1
     cases h1
    ·exact hw) h
   refine ym ht hs ho kY ?_
   rintro v w' ⟨E', st', h1, h2, h3⟩
   refine ih (listed.setIfInBounds i true) (σ1 ++ σ2) (by simpa using ka) ?_ ?_ ?_ ?_ h1 h3 fun a' XF hd ⟨xu, NI, h4, h5, h6⟩ => hq _ _ (hd.trans (put_defers _ _ _)) ⟨xu, NI, h4, h2.trans h5, h6⟩
   ·intro j z hj hz e he hb
    by_cases QH : j = i
    ·subst QH
     rw [ho] at hz; cases hz
     exact getD_set_true (N1 e he hb)
    ·rw [getD_set_ne false (fun e => QH e.symm)] at hj
     exact getD_set_true (jD j z hj hz e he hb)
   ·simp at hlen ⊢; omega
   ·rw [List.pairwise_append]
    exact ⟨jC, gQ.2, fun x hx y hy => N2 x hx y (by simp [hy])⟩
   ·intro j
    rw [Array.getElem?_setIfInBounds]
    by_cases QH : i = j
    ·subst QH
     rw [if_pos rfl]
     constructor
     ·intro hj
      rcases List.mem_append.1 hj with h | h
      ·have := N2 i h i (by simp); omega
      ·have := gQ.1 i h; omega
     ·split
      ·intro h; cases h
      ·intro h; cases h
    ·rw [if_neg QH, ← wo j]
     simp only [List.mem_append,List.mem_cons]
     constructor
     ·rintro (h | h)
      ·exact .inl h
      ·exact .inr (.inr h)
     ·rintro (h | h | h)
      ·exact .inl h
      ·exact absurd h.symm QH
      ·exact .inr h

def runM (P : Program) (tt : Table) (all : Array Oper) (base : Nat) : List Oper → List Pl → St → (St → Prop) → Prop
 | [], _, st, K => K st
 | o :: r, p :: ps, st, K => dM P tt all base o p st fun st' => runM P tt all base r ps st' K
 | _ :: _, [], _, _ => False
theorem Gt {K : St → Prop} : ∀ {l : List Oper} {n : Nat} {st : St}, (∀ k x, l[k]? = some x → all[n + k]? = some x) → runM P tt all base l (plan.drop n) st K → yn P tt all plan base (List.range' n l.length) st K
 | [], n, st, _, h => h
 | o :: r, n, st, aS, h => by
  have ho : all[n]? = some o := aS 0 o rfl
  rw [List.length_cons, List.range'_succ, yn, ho]
  dsimp only
  cases hd : plan.drop n with
  | nil => rw [hd] at h; exact h.elim
  | cons p ps =>
   rw [hd] at h
   have hp : lG plan n = p := by rw [lG, ← nB, hd]; rfl
   have JW : ps = plan.drop (n + 1) := by rw [← List.tail_drop, hd]; rfl
   rw [hp]
   subst JW
   exact sK (fun s hs => Gt (fun k x hk => by have := aS (k + 1) x (by simpa using hk); rwa [show n + (k + 1) = n + 1 + k by omega] at this) hs) h

theorem bd.RX {E : Env} {w : World} {a : Act} {st : St} (hs : bd E w a st) (m : Nat) : bd E w a { st with mem := st.mem ++ List.replicate m .hole } := by
 have get : ∀ {k : Nat} {B : ay}, (st.mem ++ List.replicate m .hole)[k]? = some B → st.mem[k]? = some B ∨ (B = ay.hole ∧ st.mem.length ≤ k) := fun {k B} h => by
  rcases Nat.lt_or_ge k st.mem.length with hk | hk
  ·rw [List.getElem?_append_left hk] at h; exact .inl h
  ·rw [List.getElem?_append_right hk, List.getElem?_replicate] at h
   split at h
   ·cases h; exact .inr ⟨rfl, hk⟩
   ·cases h
 refine ⟨hs.F, hs.lt, fun k B hk => ?_, fun k hk => hs.top k (by simp at hk; omega), fun k B hk v hv => ?_, hs.apart, hs.fr⟩
 ·rcases get hk with h | ⟨rfl, bR⟩
  ·exact hs.mem k B h
  ·exact fun v => hs.top k bR v
 ·rcases get hk with h | ⟨rfl, bR⟩
  ·exact hs.aC k B h v hv
  ·exact hs.top k bR v

theorem pK (ht : TT P tt) (hm : P.follows .mixedOrders = true) {ρ : Option Nat} {n0 : Nat} {st : St} {Q : Exit → St → Prop} (plan : List Pl) (m : Nat) {id : Nat} {ops : Array Oper} (bM : sJ ops plan = true)
  (h : runM P tt ops st.mem.length ops.toList plan { st with mem := st.mem ++ List.replicate m .hole } (Q .normal)) : gD P ρ n0 (.region id ops true) st Q := fun E0 w0 h0 E w a he hs fQ => by
 refine wpIn_region_any hm ?_
 have hd : bd E { w with drawn := w.drawn + 1 } a { st with mem := st.mem ++ List.replicate m .hole } := (hs.drew (w := w)).RX m
 have hI := Gt (all := ops) (plan := plan) (n := 0) (l := ops.toList) (fun k x hk => by rw [Nat.zero_add]; simpa using hk) h
 rw [← List.range_eq_range'] at hI
 refine yp (P := P) (tt := tt) ht bM ops.size _ (List.range ops.toList.length) (by simp) (fun j z hj => by simp [Array.getD_eq_getD_getElem?, Array.getElem?_replicate] at hj; split at hj <;> simp at hj) (by simp) (List.pairwise_lt_range) (fun i => ?_) hd hI fun a' w' RY ⟨E', st', h1, h2, h3⟩ => ⟨E', st', h1, (he.trans (dt.drew E w)).trans h2, ?_, h3⟩
 ·simp only [List.mem_range,Array.getElem?_replicate]
  simp
 ·rw [RY]; exact (fQ.FB (dt.drew E w)).FB h2
end
end Go.Eng
end

section
namespace Go.Eng
variable [aG]
open Go.RowKit (Below)

def kx : ay → Bool
 | .rows _ _ _ => true
 | .mJ _ _ _ => true
 | .dead => true
 | .hole => true
 | _ => false

theorem aU.live {P : Program} {f : FuncId} {vs vs' : List V} {b v s l : Nat} {aF : List ay} (hp : cD [] vs = some vs') (h : aU P f vs' [] (.ms b v s l) aF) (hm : aF.all kx = true) (mem : List ay) :
  aU P f vs mem (.ms (mem.length + b) v s l) (mem ++ aF) := by
 refine ⟨h.1, fun E w xs hs hx => ?_⟩
 obtain ⟨Mo, hk⟩ := oI (mem := mem) hp
 have h1 := fZ hs (keys := []) hx Mo (by rw [hk]; simp)
 have hE : (E.kc w []).pure = ⟨E.F, fun _ _ => none, E.gl⟩ := by
  refine Env.DO (funext fun ad => ?_) rfl
  simp only [Env.pure,Env.kc]
  cases hh : E.F ad <;> simp
 rw [hE] at h1
 have jC : bd ⟨E.F, fun _ _ => none, E.gl⟩ w { tmps := #[], defers := [] } { fr := [], mem := [] } :=
  ⟨hs.F, (fun k v g e c h => by cases h), (fun k B h => by simp at h), (fun k _ v => rfl), (fun k B h => by simp at h), (fun k k' v v' g e c e' c' h => by cases h), .nil _⟩
 refine (h.2 _ w xs jC h1).mono ?_
 rintro en w' ⟨E', x, rfl, du, la, hr⟩
 have iz : ∀ k v g e c, E'.aK k v = some (g, e, c) → w.heap.size ≤ g := fun k v g e c hb => by
  rcases du.aK _ _ _ _ _ hb with ⟨_, _, _, _, h⟩ | h
  ·cases h
  ·exact h
 have hold : ∀ b, b < w.heap.size → w'.heap[b]? = w.heap[b]? := fun b hb => du.heap b hb fun _ _ _ _ h => by cases h
 have RV : ∀ ad y, E'.F ad = some y → E.F ad = some y ∨ w.heap.size ≤ ad.block := fun ad y hy => by
  rcases du.F _ _ hy with h | h | ⟨_, _, _, _, h⟩
  ·exact .inl h
  ·exact .inr h
  ·cases h
 have kQ : ∀ k v, k < mem.length → (⟨E'.F, fun k v => if k < mem.length then E.aK k v else E'.aK (k - mem.length) v, E'.gl⟩ : Env).aK k v = E.aK k v := fun k v hk => if_pos hk
 have og : ∀ k v, mem.length ≤ k → (⟨E'.F, fun k v => if k < mem.length then E.aK k v else E'.aK (k - mem.length) v, E'.gl⟩ : Env).aK k v = E'.aK (k - mem.length) v := fun k v hk => if_neg (by omega)
 generalize RW : (⟨E'.F, fun k v => if k < mem.length then E.aK k v else E'.aK (k - mem.length) v, E'.gl⟩ : Env) = E2 at kQ og
 have ei : E2.F = E'.F := by rw [← RW]
 have uF : E2.pure = E'.pure := Env.DO ei rfl
 have hle : E.le E2 := ⟨fun ad y hy => by rw [ei]; exact du.le.F _ _ hy, fun k v t hk => by
  rcases Nat.lt_or_ge k mem.length with bR | bR
  ·rw [kQ k v bR]; exact hk
  ·rw [hs.top k bR v] at hk; cases hk⟩
 have get : ∀ {k : Nat} {B : ay}, (mem ++ aF)[k]? = some B → (k < mem.length ∧ mem[k]? = some B) ∨ (mem.length ≤ k ∧ aF[k - mem.length]? = some B) := fun {k B} h => by
  rcases Nat.lt_or_ge k mem.length with hk | hk
  ·rw [List.getElem?_append_left hk] at h; exact .inl ⟨hk, h⟩
  ·rw [List.getElem?_append_right hk] at h; exact .inr ⟨hk, h⟩
 refine ⟨E2, x, rfl, ⟨hle, fun k v g e c hk => ?_, fun ad y hy => ?_, du.os, du.tape, du.output, du.size, fun b hb _ => hold b hb⟩, ⟨fun ad y hy => la.F _ _ (by rw [← ei]; exact hy), fun k v g e c hk => ?_, fun k B hk => ?_, fun k hk v => ?_, fun k B hk v hv => ?_, fun k k' v v' g e1 c1 e2 c2 h5 h6 => ?_, .nil _⟩, ?_⟩
 ·rcases Nat.lt_or_ge k mem.length with bR | bR
  ·rw [kQ k v bR] at hk; exact .inl ⟨k, v, e, c, hk⟩
  ·rw [og k v bR] at hk; exact .inr (iz _ _ _ _ _ hk)
 ·rw [ei] at hy
  rcases RV ad y hy with h | h
  ·exact .inl h
  ·exact .inr (.inl h)
 ·rcases Nat.lt_or_ge k mem.length with bR | bR
  ·rw [kQ k v bR] at hk; have := hs.lt _ _ _ _ _ hk; have := du.size; omega
  ·rw [og k v bR] at hk; exact la.lt _ _ _ _ _ hk
 ·rcases get hk with ⟨bR, hB⟩ | ⟨bR, hB⟩
  ·refine (hs.mem k B hB).mono hle (fun v hv => by rw [kQ k v bR]; exact hv) (fun g e c hb => hold g (hs.lt _ _ _ _ _ hb)) fun g e c o hb hn => ?_
   rw [ei]
   cases hy : E'.F ⟨g, o, none⟩ with
   | none => rfl
   | some y =>
    rcases RV _ y hy with h | h
    ·rw [hn] at h; cases h
    ·have := hs.lt _ _ _ _ _ hb; simp at h; omega
  ·have hl := List.all_eq_true.1 hm B (List.mem_of_getElem? hB)
   have h0 := la.mem _ B hB
   cases B with
   | hole => exact fun v => by rw [og k v bR]; exact h0 v
   | dead => trivial
   | box cs => simp [kx] at hl
   | loop s p fr ps a b => simp [kx] at hl
   | map br clock => simp [kx] at hl
   | eo m since seen last => simp [kx] at hl
   | gX s pos => simp [kx] at hl
   | iv => simp [kx] at hl
   | rows v e rs =>
    rcases h0 with ⟨h1, h2⟩ | ⟨g, T, ys, c, h1, h2, h3, h4, h5, h6⟩
    ·exact .inl ⟨h1, by rw [og k v bR]; exact h2⟩
    ·exact .inr ⟨g, T, ys, c, by rw [og k v bR]; exact h1, h2, h3, h4, by rw [uF]; exact h5, fun o => by rw [ei]; exact h6 o⟩
   | mJ v e rs =>
    rcases h0 with ⟨h1, h2⟩ | ⟨g, c, h1, h2, h3⟩
    ·exact .inl ⟨h1, by rw [og k v bR]; exact h2⟩
    ·exact .inr ⟨g, c, by rw [og k v bR]; exact h1, h2, by rw [uF, ei]; exact h3⟩
 ·dsimp only at hk
  simp only [List.length_append] at hk
  rw [og k v (by omega)]; exact la.top _ (by dsimp only; omega) v
 ·rcases get hk with ⟨bR, hB⟩ | ⟨bR, hB⟩
  ·rw [kQ k v bR]; exact hs.aC k B hB v hv
  ·rw [og k v bR]; exact la.aC _ B hB v hv
 ·rcases Nat.lt_or_ge k mem.length with fJ | fJ <;> rcases Nat.lt_or_ge k' mem.length with jA | jA
  ·rw [kQ k _ fJ] at h5; rw [kQ k' _ jA] at h6
   exact hs.apart _ _ _ _ _ _ _ _ _ h5 h6
  ·rw [kQ k _ fJ] at h5; rw [og k' _ jA] at h6
   have := hs.lt _ _ _ _ _ h5; have := iz _ _ _ _ _ h6; omega
  ·rw [og k _ fJ] at h5; rw [kQ k' _ jA] at h6
   have := hs.lt _ _ _ _ _ h6; have := iz _ _ _ _ _ h5; omega
  ·rw [og k _ fJ] at h5; rw [og k' _ jA] at h6
   have := la.apart _ _ _ _ _ _ _ _ _ h5 h6
   omega
 ·cases hr with
  | ms _ b v s l g e c a cap hb hl h0 hc => exact .ms _ _ _ _ _ g e c _ _ (by rw [og _ v (by omega), Nat.add_sub_cancel_left]; exact hb) hl h0 hc
  | df => exact .df _ _ _ _

theorem bd.lH {E : Env} {w : World} {a : Act} {st : St} (hs : bd E w a st) (v e : Nat) : bd E w a { st with mem := st.mem ++ [.rows v e []] } := by
 have get : ∀ {k : Nat} {B : ay}, (st.mem ++ [ay.rows v e []])[k]? = some B → st.mem[k]? = some B ∨ (B = ay.rows v e [] ∧ st.mem.length ≤ k) := fun {k B} h => by
  rcases Nat.lt_or_ge k st.mem.length with hk | hk
  ·rw [List.getElem?_append_left hk] at h; exact .inl h
  ·rw [List.getElem?_append_right hk] at h
   cases bR : k - st.mem.length with
   | zero => rw [bR] at h; cases h; exact .inr ⟨rfl, hk⟩
   | succ j => rw [bR] at h; cases h
 refine ⟨hs.F, hs.lt, fun k B hk => ?_, fun k hk => hs.top k (by simp at hk; omega), fun k B hk v hv => ?_, hs.apart, hs.fr⟩
 ·rcases get hk with h | ⟨rfl, bR⟩
  ·exact hs.mem k B h
  ·exact .inl ⟨rfl, hs.top k bR v⟩
 ·rcases get hk with h | ⟨rfl, bR⟩
  ·exact hs.aC k B h v hv
  ·exact hs.top k bR v
theorem bd.yq {E : Env} {w : World} {a : Act} {st : St} (hs : bd E w a st) {i : Nat} (b v : Nat) (h : st.fr[i]? = some (.sc (.slice none 0 0))) : bd E w a { st with fr := st.fr.set i (.ms b v 0 0) } := hs.JI h
theorem Ed {P : Program} {ρ : Option Nat} {n0 : Nat} {c : Code} {st : St} {Q : Exit → St → Prop} (i v e : Nat) (h0 : st.fr[i]? = some (.sc (.slice none 0 0))) (h : gD P ρ n0 c { fr := st.fr.set i (.ms st.mem.length v 0 0), mem := st.mem ++ [.rows v e []] } Q) : gD P ρ n0 c st Q :=
 sx (fun E w a hs => (hs.yq (i := i) st.mem.length v h0).lH v e) h
end Go.Eng
end

section
namespace Go.Eng
variable [aG]
open Go.RowKit (Below)

theorem sM {E E' : Env} {w w' : World} {mem aF l : List ay} (hs : bd E w { tmps := #[], defers := [] } { fr := [], mem := mem ++ l }) (Vt : dt (E.cut mem.length) w E' w') (FD : bd E' w' { tmps := #[], defers := [] } { fr := [], mem := aF })
  (hlen : aF.length = mem.length) (hb : aF.all (aA mem.length) = true) : ∃ E2, dt E w E2 w' ∧ bd E2 w' { tmps := #[], defers := [] } { fr := [], mem := aF ++ l } ∧ (E'.cut mem.length).le E2 := by
 have jC := FD.cut (n := mem.length) rfl (by rw [List.take_of_length_le (by dsimp only; omega)]; exact hb)
 rw [List.take_of_length_le (by dsimp only; omega)] at jC
 dsimp only at jC
 have yr : ∀ k, mem.length ≤ k → ∀ v, (E.cut mem.length).aK k v = none := fun k hk v => if_neg (by omega)
 have du : dt (E.cut mem.length) w (E'.cut mem.length) w' := Vt.cut yr
 have fF : ∀ k v t, (E.cut mem.length).aK k v = some t → k < mem.length ∧ E.aK k v = some t := fun k v t h => by
  rcases Nat.lt_or_ge k mem.length with hk | hk
  ·exact ⟨hk, (if_pos hk).symm.trans h⟩
  ·rw [yr k hk] at h; cases h
 have RZ : ∀ k v t, (E'.cut mem.length).aK k v = some t → k < mem.length := fun k v t h => by
  rcases Nat.lt_or_ge k mem.length with hk | hk
  ·exact hk
  ·have h0 : (E'.cut mem.length).aK k v = none := if_neg (by omega)
   rw [h0] at h; cases h
 generalize Y4 : E'.cut mem.length = xu at jC du RZ
 have kQ : ∀ k v, k < mem.length → (⟨xu.F, fun k v => if k < mem.length then xu.aK k v else E.aK k v, xu.gl⟩ : Env).aK k v = xu.aK k v := fun k v hk => if_pos hk
 have og : ∀ k v, mem.length ≤ k → (⟨xu.F, fun k v => if k < mem.length then xu.aK k v else E.aK k v, xu.gl⟩ : Env).aK k v = E.aK k v := fun k v hk => if_neg (by omega)
 generalize RW : (⟨xu.F, fun k v => if k < mem.length then xu.aK k v else E.aK k v, xu.gl⟩ : Env) = E2 at kQ og
 have ei : E2.F = xu.F := by rw [← RW]
 have jD : ∀ k v t, k < mem.length → E.aK k v = some t → (E.cut mem.length).aK k v = some t := fun k v t hk h => (if_pos hk).trans h
 have hle : E.le E2 := ⟨fun ad y hy => by rw [ei]; exact du.le.F _ _ hy, fun k v t hk => by
  rcases Nat.lt_or_ge k mem.length with bR | bR
  ·rw [kQ k v bR]; exact du.le.aK _ _ _ (jD _ _ _ bR hk)
  ·rw [og k v bR]; exact hk⟩
 have R0 : xu.le E2 := ⟨fun ad y hy => by rw [ei]; exact hy, fun k v t hk => by rw [kQ k v (RZ _ _ _ hk)]; exact hk⟩
 have sn : ∀ k v g e c, mem.length ≤ k → E.aK k v = some (g, e, c) → ∀ k0 v0 e0 c0, (E.cut mem.length).aK k0 v0 ≠ some (g, e0, c0) := fun k v g e c hk hb k0 v0 e0 c0 h => by
  obtain ⟨h1, h2⟩ := fF _ _ _ h
  have := hs.apart _ _ _ _ _ _ _ _ _ h2 hb
  omega
 have get : ∀ {k : Nat} {B : ay}, (aF ++ l)[k]? = some B → (k < mem.length ∧ aF[k]? = some B) ∨ (mem.length ≤ k ∧ (mem ++ l)[k]? = some B) := fun {k B} h => by
  rcases Nat.lt_or_ge k mem.length with hk | hk
  ·rw [List.getElem?_append_left (by omega)] at h; exact .inl ⟨hk, h⟩
  ·rw [List.getElem?_append_right (by omega), hlen] at h
   exact .inr ⟨hk, by rw [List.getElem?_append_right hk]; exact h⟩
 refine ⟨E2, ⟨hle, fun k v g e c hk => ?_, fun ad y hy => ?_, du.os, du.tape, du.output, du.size, fun b hb bO => du.heap b hb fun k v e c h => bO _ _ _ _ (fF _ _ _ h).2⟩, ⟨fun ad y hy => jC.F _ _ (by rw [← ei]; exact hy), fun k v g e c hk => ?_, fun k B hk => ?_, fun k hk v => ?_, fun k B hk v hv => ?_, fun k k' v v' g e1 c1 e2 c2 h5 h6 => ?_, .nil _⟩, R0⟩
 ·rcases Nat.lt_or_ge k mem.length with bR | bR
  ·rw [kQ k v bR] at hk
   rcases du.aK _ _ _ _ _ hk with ⟨k0, v0, e0, c0, h⟩ | h
   ·exact .inl ⟨_, _, _, _, (fF _ _ _ h).2⟩
   ·exact .inr h
  ·rw [og k v bR] at hk; exact .inl ⟨_, _, _, _, hk⟩
 ·rw [ei] at hy
  rcases du.F _ _ hy with h | h | ⟨k0, v0, e0, c0, h⟩
  ·exact .inl h
  ·exact .inr (.inl h)
  ·exact .inr (.inr ⟨_, _, _, _, (fF _ _ _ h).2⟩)
 ·rcases Nat.lt_or_ge k mem.length with bR | bR
  ·rw [kQ k v bR] at hk; exact jC.lt _ _ _ _ _ hk
  ·rw [og k v bR] at hk; exact Nat.lt_of_lt_of_le (hs.lt _ _ _ _ _ hk) du.size
 ·rcases get hk with ⟨bR, hB⟩ | ⟨bR, hB⟩
  ·exact (jC.mem k B hB).mono R0 (fun v hv => by rw [kQ k v bR]; exact hv) (fun _ _ _ _ => rfl) fun g e c o _ hn => by rw [ei]; exact hn
  ·refine (hs.mem k B hB).mono hle (fun v hv => by rw [og k v bR]; exact hv) (fun g e c hb => du.heap g (hs.lt _ _ _ _ _ hb) fun k0 v0 e0 c0 h => sn _ _ _ _ _ bR hb _ _ _ _ h) fun g e c o hb hn => ?_
   rw [ei]
   cases hy : xu.F ⟨g, o, none⟩ with
   | none => rfl
   | some y =>
    rcases du.F _ _ hy with h | h | ⟨k0, v0, e0, c0, h⟩
    ·have h' : E.F ⟨g, o, none⟩ = some y := h
     rw [hn] at h'; cases h'
    ·have := hs.lt _ _ _ _ _ hb; simp at h; omega
    ·exact absurd h (sn _ _ _ _ _ bR hb _ _ _ _)
 ·dsimp only at hk
  simp only [List.length_append] at hk
  rw [og k v (by omega)]; exact hs.top k (by simp; omega) v
 ·rcases get hk with ⟨bR, hB⟩ | ⟨bR, hB⟩
  ·rw [kQ k v bR]; exact jC.aC k B hB v hv
  ·rw [og k v bR]; exact hs.aC k B hB v hv
 ·have mixed : ∀ k k' v v' g e1 c1 e2 c2, k < mem.length → mem.length ≤ k' → xu.aK k v = some (g, e1, c1) → E.aK k' v' = some (g, e2, c2) → k = k' := fun k k' v v' g e1 c1 e2 c2 hk eQ h h' => by
   rcases du.aK _ _ _ _ _ h with ⟨k0, v0, e0, c0, h0⟩ | h0
   ·exact absurd h0 (sn _ _ _ _ _ eQ h' _ _ _ _)
   ·have := hs.lt _ _ _ _ _ h'; omega
  rcases Nat.lt_or_ge k mem.length with fJ | fJ <;> rcases Nat.lt_or_ge k' mem.length with jA | jA
  ·rw [kQ k _ fJ] at h5; rw [kQ k' _ jA] at h6
   exact jC.apart _ _ _ _ _ _ _ _ _ h5 h6
  ·rw [kQ k _ fJ] at h5; rw [og k' _ jA] at h6
   exact mixed _ _ _ _ _ _ _ _ _ fJ jA h5 h6
  ·rw [og k _ fJ] at h5; rw [kQ k' _ jA] at h6
   exact (mixed _ _ _ _ _ _ _ _ _ jA fJ h6 h5).symm
  ·rw [og k _ fJ] at h5; rw [og k' _ jA] at h6
   exact hs.apart _ _ _ _ _ _ _ _ _ h5 h6

theorem yu {E : Env} {w : World} {mem l : List ay} (hs : bd E w { tmps := #[], defers := [] } { fr := [], mem := mem ++ l }) (hb : mem.all (aA mem.length) = true) : bd (E.cut mem.length) w { tmps := #[], defers := [] } { fr := [], mem := mem } := by
 have h := hs.cut (n := mem.length) rfl (by rw [List.take_left]; exact hb)
 rwa [List.take_left] at h
theorem aQ.below {E : Env} {n : Nat} {vs : List V} {xs : List Value} (h : aQ E vs xs) (hb : vs.all (ai n) = true) : aQ (E.cut n) vs xs :=
 ⟨h.1, fun i v x hv hx => fh (h.2 i v x hv hx) (List.all_eq_true.1 hb v (List.mem_of_getElem? hv))⟩

theorem aU.frame {P : Program} {f : FuncId} {vs : List V} {r : V} {mem aF : List ay} (h : aU P f vs mem r aF) (hv : vs.all (ai mem.length) = true) (hm : mem.all (aA mem.length) = true) (hr : ai mem.length r = true) (hlen : aF.length = mem.length) (Gu : aF.all (aA mem.length) = true) (l : List ay) :
  aU P f vs (mem ++ l) r (aF ++ l) := by
 refine ⟨h.1, fun E w xs hs hx => ?_⟩
 refine (h.2 _ w xs (yu hs hm) (hx.below hv)).mono ?_
 rintro en w' ⟨E', x, rfl, du, la, ow⟩
 obtain ⟨E2, h1, h2, h3⟩ := sM hs du la hlen Gu
 exact ⟨E2, x, rfl, h1, h2, (fh ow hr).mono h3⟩
theorem QB.frame {P : Program} {k : Nat} {vs : List V} {mem aF : List ay} {b : Bool} (h : QB P k vs mem b aF) (hk : k < mem.length) (hv : vs.all (ai mem.length) = true) (hm : mem.all (aA mem.length) = true) (hlen : aF.length = mem.length) (Gu : aF.all (aA mem.length) = true) (l : List ay) :
  QB P k vs (mem ++ l) b (aF ++ l) := by
 intro E w xs lp e c hs hx hb
 obtain ⟨fn, tmps, assign, body, h1, h2⟩ := h _ w xs lp e c (yu hs hm) (hx.below hv) ((if_pos hk).trans hb)
 refine ⟨fn, tmps, assign, body, h1, h2.mono ?_⟩
 rintro en w' ⟨E', rfl, du, la⟩
 obtain ⟨E2, h3, h4, -⟩ := sM hs du la hlen Gu
 exact ⟨E2, rfl, h3, h4⟩
theorem R1 : (false == true) = false := rfl
theorem R2 : (true == false) = false := rfl
theorem JX (mem : List ay) (ts : Array TypeId) (P : Program) (r : List V) : oi mem ts P [.slice r] = none := rfl
theorem JY (mem : List ay) (ts : Array TypeId) (P : Program) (b v s l : Nat) : oi mem ts P [.ms b v s l] = none := rfl
theorem JZ (mem : List ay) (ts : Array TypeId) (P : Program) (x : Value) : oi mem ts P [.sc x] = none := rfl
end Go.Eng
end
