/-
  THE ENGINE, L: the steps are sound; code; functions.
  THE ENGINE, M: a table of types, checked by the kernel.
  THE ENGINE, N: rules and facts for carrying it out by simp.
  THE ENGINE, O: closures' contracts; a range over a function.
  THE ENGINE, P: regions that draw their order.
  THE ENGINE, Q: regions that draw their order are sound.
  THE ENGINE, R: a region that draws its order comes to what it comes to in the order of its text.
  THE ENGINE, S: functions that hand back rows that their caller may write.
  THE ENGINE, U: what a contract does not speak of stays.
-/
import Derived.Test.YtnfeacnbgbggfaaGreatDoorE2
import Derived.RangeFuncRecord
import Derived.OrdersIn
set_option linter.all false
section
namespace Go.Eng
variable [aH]
open Go.RowKit (Below)

theorem dH {P : Program} {s : Sem Value} {w w' : World} {x : Value} (h : s.run P w = .ok x w') : (do pure (Next.value (← s)) : Sem Next).run P w = .ok (.value x) w' := by
 simp [h]

def yB (E : Env) (w : World) (a : Act) (dst : Option Tmp) (Q : St → Prop) (v : Value) (w' : World) : Prop := ∃ E' st', bc E' w' (a.put dst v) st' ∧ dt E w E' w' ∧ Q st'

def WF (ρ : Option Nat) : Fence := { fn := fun _ => True, depth := none, alive := false, round := ρ }
theorem sK {ρ : Option Nat} {n : Nat} {P : Program} {f : FuncId} {xs : Array Value} {w : World} {R : Ending → World → Prop} (h : Calls P f xs w R) : CallsIn (WF ρ) n P f xs w R := by
 have h1 : CallsIn Fence.wide n P f xs w R := callsIn_wide.2 h
 cases ρ with
 | none => exact h1
 | some l => exact h1.inRound l
theorem yC {n : Nat} {P : Program} {f : FuncId} {xs : Array Value} {w : World} {R : Ending → World → Prop} (h : CallsIn (WF none) n P f xs w R) : Calls P f xs w R := callsIn_wide.1 h
theorem A9 {ρ : Option Nat} {n : Nat} {P : Program} {l : Nat} {f : FuncId} {tmps : Array Value} {assign body : Code} {w : World} {R : Ending → World → Prop} (h : RoundIn Fence.wide 0 P l f tmps assign body w R) : RoundIn (WF ρ) n P l f tmps assign body w R := by
 refine ⟨trivial, fun c cs _ => ?_⟩
 exact h.2 c cs (room_wide _)
section
variable {P : Program} {ρ : Option Nat} {n : Nat} {o : Oper} {a : Act} {w w' : World} {next : Act → World → Prop} {Q : Exit → Act → World → Prop} (jM : ∀ c, o.op ≠ .defer c)
include jM
theorem bg {v : Value} (h : (execOp a.eval o).run P w = .ok (.value v) w') (hn : next (a.put o.dst v) w') : o.wpIn (WF ρ) n P a w next Q := by
 refine ⟨fun _ _ => trivial, ?_⟩
 rw [Oper.semAt_eq _ _ _ jM, h]; exact hn
theorem iI (h : (execOp a.eval o).run P w = .ok .skip w') (hn : next (a.put o.dst undef) w') : o.wpIn (WF ρ) n P a w next Q := by
 refine ⟨fun _ _ => trivial, ?_⟩
 rw [Oper.semAt_eq _ _ _ jM, h]; exact hn
theorem qO {f : FuncId} {xs : Array Value} {R : Ending → World → Prop} (h : (execOp a.eval o).run P w = .ok (.enter f xs) w) (hc : Calls P f xs w R) (hR : ∀ e w', R e w' → ∃ v, e = .returned v ∧ next (a.put o.dst v) w') :
  o.wpIn (WF ρ) n P a w next Q := by
 refine ⟨fun _ _ => trivial, ?_⟩
 rw [Oper.semAt_eq _ _ _ jM, h]
 refine ⟨fun h => by simp [WF] at h, (sK hc).mono fun e w' he => ?_⟩
 obtain ⟨v, rfl, hn⟩ := hR e w' he
 exact hn
theorem qP {l : Nat} {f : FuncId} {tmps : Array Value} {assign body : Code} {R : Ending → World → Prop} (h : (execOp a.eval o).run P w = .ok (.round l f tmps assign body) w) (hc : RoundIn Fence.wide 0 P l f tmps assign body w R)
  (hR : ∀ e w', R e w' → ∃ v, e = .returned v ∧ next (a.put o.dst v) w') : o.wpIn (WF ρ) n P a w next Q := by
 refine ⟨fun _ _ => trivial, ?_⟩
 rw [Oper.semAt_eq _ _ _ jM, h]
 refine ⟨fun h => by simp [WF] at h, (A9 hc).mono fun e w' he => ?_⟩
 obtain ⟨v, rfl, hn⟩ := hR e w' he
 exact hn
end

theorem qQ {P : Program} {E : Env} {w : World} {a : Act} {st : St} (hs : bc E w a st) {f : FuncId} {vs : List V} {dst : Option Tmp} {Q : St → Prop} (h : ve P f vs st dst Q) {xs : Array Value} (hx : aP E vs xs.toList) :
  ((callFunc f xs).run P w = .ok (.enter f xs) w ∧ Calls P f xs w fun e w' => ∃ v, e = .returned v ∧ yB E w a dst Q v w') ∨ ∃ v, (callFunc f xs).run P w = .ok (.value v) w ∧ yB E w a dst Q v w := by
 rcases h with ⟨vs', r, hp, hf, hQ⟩ | ⟨r, aE, hf, hQ⟩ | ⟨R, hf, hQ⟩ | ⟨r, hf, hQ⟩
 ·refine .inl ⟨hf.1 xs w, (EB hs hx hp hf).mono ?_⟩
  rintro e w' ⟨E', x, rfl, du, lr, hr⟩
  exact ⟨x, rfl, E', _, lr.put dst hr, du, hQ⟩
 ·refine .inl ⟨hf.1 xs w, (hf.2 E w xs hs.bare hx).mono ?_⟩
  rintro e w' ⟨E', x, rfl, du, lr, hr⟩
  exact ⟨x, rfl, E', _, (hs.yz lr du.le).put dst hr, du, hQ⟩
 ·refine .inl ⟨hf.1 xs w, (hf.2 E w xs hs.bare hx).mono ?_⟩
  rintro e w' ⟨E', x, r, aE, rfl, hR, du, lr, hr⟩
  exact ⟨x, rfl, E', _, (hs.yz lr du.le).put dst hr, du, hQ _ _ hR⟩
 ·obtain ⟨x, h1, h2⟩ := hf E w xs hs.F hx
  exact .inr ⟨x, h1, E, _, hs.put dst h2, dt.refl E w, hQ⟩

theorem dh {P : Program} {tt : Table} (ht : TT P tt) {E : Env} {w : World} {a : Act} {st : St} (hs : bc E w a st) {key : Nat} (hk : dM st.mem key) {o : Oper} {Q : St → Prop} (h : aS P tt key o st Q)
  {ρ : Option Nat} {n : Nat} {next : Act → World → Prop} {Q' : Exit → Act → World → Prop} (hn : ∀ v w', yB E w a o.dst Q v w' → next (a.put o.dst v) w') : o.wpIn (WF ρ) n P a w next Q' := by
 obtain ⟨dst, op, type, pos, after, guard⟩ := o
 have jM : ∀ c, op ≠ .defer c := by
  rintro c rfl
  simp [aS, fO] at h
 unfold aS at h
 dsimp only at h
 split at h
 ·-- alloc
  rename_i T
  split at h
  ·rename_i i hi
   obtain ⟨info, nr, -, -, z, hz, Et⟩ := ht.size T i hi
   have hr : aP E (i.zero.map V.sc) z.cells.toList := by
    rw [Et]; exact ⟨by simp, fun k c x hc hx => by
     simp only [List.getElem?_map,hx,Option.map_some,Option.some.injEq] at hc; subst hc; exact .sc _ _⟩
   obtain ⟨E', h1, h2, h3⟩ := hs.Gq hk hr T
   refine bg jM (v := .pointer (some ⟨w.heap.size, 0, none⟩)) (w' := w.alloc (.cells z.cells T (0, 0))) ?_ (hn _ _ ⟨E', _, h1.put dst h3, h2, h⟩)
   have RX : (zeroValue T).run P w = .ok z w := by simp [zeroValue, cE nr, hz]
   simp [execOp, Instr.alloc, RX, newVar, newRow]
  ·exact h.elim
 ·-- box
  rename_i T x
  split at h
  ·rename_i cs rA
   obtain ⟨hr, -⟩ := kr (hs.eval x) rA
   obtain ⟨E', h1, h2, h3⟩ := hs.Gq hk hr T
   refine bg jM (v := .pointer (some ⟨w.heap.size, 0, none⟩)) (w' := w.alloc (.cells (a.eval x).cells T (0, 0))) ?_ (hn _ _ ⟨E', _, h1.put dst h3, h2, h⟩)
   simp [execOp, Instr.box, newVar, newRow]
  ·exact h.elim
 ·-- build
  split at h
  ·rename_i v hv
   obtain ⟨x, h1, h2⟩ := oJ ht hs hv
   exact bg jM (bf h1) (hn _ _ ⟨E, _, hs.put dst h2, dt.refl E w, h⟩)
  ·exact h.elim
 ·-- buildSlice
  rename_i T len parts
  split at h
  ·rename_i size rs hl
   obtain ⟨Z, e, h1, h2, h3, h4⟩ := wD ht (fun p _ => hs.eval p.2) hl
   obtain ⟨E', h5, h6, h7⟩ := hs.oy hk (xs := Z) (rs := rs) (c := len) e h2 (by omega) h4
   rw [h3] at h7
   exact bg jM (dH h1) (hn _ _ ⟨E', _, h5.put dst h7, h6, h⟩)
  ·split at h
   ·rename_i size rs hl
    unfold nL at hl
    split at hl
    ·rename_i vs' UG
     obtain ⟨E1, jd, Ka, GG⟩ := hs.freeze UG
     have Zq : ∀ (l : List (Nat × Operand)) (us GD : List V), us = l.map (fun p => st.eval p.2) → cy st.mem us = some GD → aP E1 GD (l.map fun p => a.eval p.2) → ∀ p ∈ l, aW E1 (C8 st.mem st.eval p.2) (a.eval p.2) := by
      intro l
      induction l with
      | nil => intro us GD _ _ _ p hp; simp at hp
      | cons q r ih =>
       intro us GD hu hp hr p Og
       subst hu
       simp only [List.map_cons,cy] at hp
       split at hp
       ·rename_i c' hc
        split at hp
        ·rename_i r' uu
         cases hp
         obtain ⟨y, ys, hy, g1, g2⟩ := hr.of_cons
         simp only [List.map_cons,List.cons.injEq] at hy
         obtain ⟨rfl, rfl⟩ := hy
         rcases List.mem_cons.1 Og with rfl | Og
         ·unfold C8; rw [hc]; exact g1
         ·exact ih _ _ rfl uu g2 p Og
        ·cases hp
       ·cases hp
     have mq : aP E (parts.toList.map fun p => st.eval p.2) (parts.toList.map fun p => a.eval p.2) := by
      refine ⟨by simp, fun i v x hv hx => ?_⟩
      simp only [List.getElem?_map,Option.map_eq_some_iff] at hv hx
      obtain ⟨q, hq, rfl⟩ := hv
      obtain ⟨q', JJ, rfl⟩ := hx
      rw [hq] at JJ; cases JJ
      exact hs.eval q.2
     have VL := Zq parts.toList _ _ rfl UG (GG _ mq)
     have fH : dM ({ st with mem := bS st.mem (ff st.eval parts.toList) } : St).mem key := by
      unfold dM
      dsimp only
      rw [kz, nx]
      rcases hk with hk | hk
      ·rw [hk]; exact .inl rfl
      ·exact .inr hk
     obtain ⟨Z, e, h1, h2, h3, h4⟩ := wD ht (w := w) VL hl
     obtain ⟨E', h5, h6, h7⟩ := jd.oy fH (xs := Z) (rs := rs) (c := len) e h2 (by omega) h4
     rw [h3] at h7
     exact bg jM (dH h1) (hn _ _ ⟨E', _, h5.put dst h7, Ka.trans h6, h⟩)
    ·cases hl
   ·exact h.elim
 ·-- store
  rename_i T p x
  split at h
  ·rename_i aE hm
   obtain ⟨w', h1, h2, h3⟩ := oA ht hs (hs.eval _) (hs.eval _) hm
   refine iI jM (w' := w') ?_ (hn _ _ ⟨E, _, h2.put dst (.sc _ _), h3, h⟩)
   simp [execOp, h1]
  ·split at h
   ·rename_i aE hm
    unfold wL at hm
    split at hm
    ·rename_i v' rz
     obtain ⟨E1, jd, Ka, GG⟩ := hs.freeze (vs := [st.eval x]) (vs' := [v']) (by simp [cy, rz])
     simp only [List.flatMap_cons,List.flatMap_nil,List.append_nil] at jd
     obtain ⟨z, r, hz, h4, -⟩ := (GG [a.eval x] (.cons (hs.eval x) (.nil _))).of_cons
     simp only [List.cons.injEq] at hz
     obtain ⟨rfl, -⟩ := hz
     obtain ⟨w', h1, h2, h3⟩ := oA ht jd ((hs.eval p).mono Ka.le) h4 hm
     refine iI jM (w' := w') ?_ (hn _ _ ⟨E1, _, h2.put dst (.sc _ _), Ka.trans h3, h⟩)
     simp [execOp, h1]
    ·cases hm
   ·exact h.elim
 ·-- append
  rename_i xs ts
  split at h
  ·rename_i s x Da
   split at h
   ·rename_i size nt rows ha
    have he := hs.jK xs
    rw [Da] at he
    obtain ⟨y, r1, hy, A1, he⟩ := he.of_cons
    obtain ⟨z, r2, hz, Ew, he⟩ := he.of_cons
    have := he.of_nil
    subst this; subst hz
    have mq : xs.map a.eval = #[y, z] := by rw [← Array.toArray_toList (xs := xs.map a.eval), hy]
    obtain ⟨v, w', E', h1, h2, h3, h4⟩ := uF ht hs (ty := type) hk A1 Ew ha
    refine bg jM (v := v) (w' := w') ?_ (hn _ _ ⟨E', _, h2.put dst h4, h3, h⟩)
    simp only [execOp,resolve,Sem.run_bind,Sem.run_pure,Result.andThen_ok,invoke,builtin,mq,h1]
   ·unfold oI at h
    split at h
    ·rename_i size b v l rs news ha
     have he := hs.jK xs
     rw [Da] at he
     obtain ⟨y, r1, hy, A1, he⟩ := he.of_cons
     obtain ⟨z, r2, hz, Ew, he⟩ := he.of_cons
     have := he.of_nil
     subst this; subst hz
     have mq : xs.map a.eval = #[y, z] := by rw [← Array.toArray_toList (xs := xs.map a.eval), hy]
     obtain ⟨u, w', E', o', rs', h1, Oh, ED, h2, h3, h4⟩ := uJ ht hs (ty := type) A1 Ew ha
     refine bg jM (v := u) (w' := w') ?_ (hn _ _ ⟨E', _, h2.put dst h4, h3, h o' rs' Oh ED⟩)
     simp only [execOp,resolve,Sem.run_bind,Sem.run_pure,Result.andThen_ok,invoke,builtin,mq,h1]
    ·exact h.elim
  ·exact h.elim
 ·-- a call
  rename_i f xs ts
  split at h
  ·-- yield
   rename_i k Q6
   have hf := hs.eval f
   rw [Q6] at hf
   generalize Yb : a.eval f = fx at hf
   cases hf with
   | im _ _ l e c hb =>
    rcases h with ⟨b, aE, hy, hQ⟩ | ⟨R, hy, hQ⟩
    rotate_left
    ·obtain ⟨fn, tmps, assign, body, h1, h2⟩ := hy E w (xs.map a.eval) l e c hs.bare (hs.jK xs) hb
     refine qP jM (l := l) (f := fn) (tmps := tmps) (assign := assign) (body := body) ?_ h2 fun e w' ⟨E', b, aE, he, hR, du, lr⟩ => ⟨_, he, hn _ _ ⟨E', _, (hs.yz lr du.le).put dst (.sc _ _), du, hQ _ _ hR⟩⟩
     rw [← h1]
     simp [execOp, resolve, Yb, Deferred.ofValue, invoke]
    obtain ⟨fn, tmps, assign, body, h1, h2⟩ := hy E w (xs.map a.eval) l e c hs.bare (hs.jK xs) hb
    refine qP jM (l := l) (f := fn) (tmps := tmps) (assign := assign) (body := body) ?_ h2 fun e w' ⟨E', he, du, lr⟩ => ⟨_, he, hn _ _ ⟨E', _, (hs.yz lr du.le).put dst (.sc _ _), du, hQ⟩⟩
    rw [← h1]
    simp [execOp, resolve, Yb, Deferred.ofValue, invoke]
  ·rename_i Q6
   split at h
   ·rename_i g vs hg
    obtain ⟨ys, h1, h2⟩ := lJ (P := P) (w := w) (hs.eval f) (hs.jK xs) hg
    rcases qQ hs h h1 with ⟨h3, h4⟩ | ⟨v, h3, h4⟩
    ·refine qO jM (f := g) (xs := ys) ?_ h4 fun e w' ⟨v, hv, ha⟩ => ⟨v, hv, hn _ _ ha⟩
     rw [← h3, ← h2]
     simp only [execOp,resolve]
    ·refine bg jM (v := v) ?_ (hn _ _ h4)
     rw [← h3, ← h2]
     simp only [execOp,resolve]
   ·exact h.elim
 ·split at h
  ·rename_i size rs cap hm
   obtain ⟨E', w', h1, h2, h3, h4⟩ := yr (P := P) ht hs hk (hs.eval _) (hs.eval _) hm
   exact bg jM (dH h1) (hn _ _ ⟨E', _, h2.put dst h4, h3, h⟩)
  ·exact h.elim
 ·-- a map
  obtain ⟨E', w', h1, h2, h3, h4⟩ := uH (P := P) hs hk _
  exact bg jM (dH h1) (hn _ _ ⟨E', _, h2.put dst h4, h3, h⟩)
 ·split at h
  ·rename_i aE hm
   obtain ⟨w', h1, h2, h3⟩ := nu (P := P) hs (hs.eval _) (hs.eval _) (hs.eval _) hm
   refine iI jM (w' := w') ?_ (hn _ _ ⟨E, _, h2.put dst (.sc _ _), h3, h⟩)
   simp [execOp, h1]
  ·exact h.elim
 ·split at h
  ·rename_i aE hm
   obtain ⟨w', h1, h2, h3⟩ := nu (P := P) hs (hs.eval _) (hs.eval _) (hs.eval _) hm
   refine iI jM (w' := w') ?_ (hn _ _ ⟨E, _, h2.put dst (.sc _ _), h3, h⟩)
   simp [execOp, h1]
  ·exact h.elim
 ·split at h
  ·rename_i aE v hm
   obtain ⟨z, w', h1, h2, h3, h4⟩ := wG (P := P) hs (hs.eval _) (hs.eval _) hm
   exact bg jM (dH h1) (hn _ _ ⟨E, _, h2.put dst h4, h3, h⟩)
  ·exact h.elim
 ·rename_i T m s x
  split at h
  ·rename_i aE hm
   obtain ⟨w', h1, h2, h3⟩ := wH (P := P) (T := T) hs (hs.eval _) (hs.eval _) (hs.eval _) hm
   refine iI jM (w' := w') ?_ (hn _ _ ⟨E, _, h2.put dst (.sc _ _), h3, h⟩)
   simp [execOp, h1]
  ·exact h.elim
 ·rename_i xs ts
  split at h
  ·rename_i aE hm
   obtain ⟨w', h1, h2, h3⟩ := uG (ty := type) hs (hs.jK xs) hm
   refine bg jM (v := .tuple #[]) (w' := w') ?_ (hn _ _ ⟨E, _, h2.put dst (.sc _ _), h3, h⟩)
   simp only [execOp,resolve,Sem.run_bind,Sem.run_pure,Result.andThen_ok,invoke,builtin,h1]
  ·exact h.elim
 ·split at h
  ·rename_i B hB
   obtain ⟨E', w', h1, h2, h3, h4⟩ := sC (P := P) hs hk (hs.eval _) hB
   exact bg jM (dH h1) (hn _ _ ⟨E', _, h2.put dst h4, h3, h⟩)
  ·exact h.elim
 ·obtain ⟨z, w', st', h1, h2, h3, h4⟩ := yq (P := P) (ty := type) hs (hs.eval _) h
  exact bg jM (dH h1) (hn _ _ ⟨E, st', h2, h3, h4⟩)
 ·-- a Oi
  rename_i op T x y yT
  split at h
  ·rename_i m hm
   obtain ⟨b, hb, cJ⟩ := wK (P := P) (w := w) ht x y (hs.eval x) (hs.eval y) hm
   exact bg jM (bf cJ) (hn _ _ ⟨E, _, hs.put dst (.sc _ _), dt.refl E w, h b hb⟩)
  ·split at h
   ·rename_i v hv
    obtain ⟨x, h1, h2⟩ := mo ht hs hv
    exact bg jM h1 (hn _ _ ⟨E, _, hs.put dst h2, dt.refl E w, h⟩)
   ·exact h.elim
 ·split at h
  ·rename_i v hv
   obtain ⟨x, h1, h2⟩ := mo ht hs hv
   exact bg jM h1 (hn _ _ ⟨E, _, hs.put dst h2, dt.refl E w, h⟩)
  ·exact h.elim

def cj (all : Array Oper) (fr : List V) (o : Oper) : Option Bool :=
 match o.guard with
 | none => some true
 | some (j, want) => match (all[j]?).bind (·.dst) with
  | none => some false
  | some d => match fr[d]? with
   | some (.sc (.bool b)) => some (b == want)
   | some (.sc _) => some false
   | some _ => none
   | none => some false

theorem gE {E : Env} {w : World} {a : Act} {st : St} (hs : bc E w a st) {all : Array Oper} {o : Oper} {b : Bool} (h : cj all st.fr o = some b) : Region.wanted o (yielded all a.tmps) = b := by
 unfold cj at h
 unfold Region.wanted
 split at h
 ·rename_i hg; rw [hg]; simpa using h
 ·rename_i j want hg
  rw [hg]
  dsimp only
  unfold yielded
  split at h
  ·rename_i hd; rw [hd]; simp at h; subst h; rfl
  ·rename_i d hd
   rw [hd]
   split at h
   ·rename_i bb hf
    obtain ⟨x, hx, hr⟩ := hs.fr.get hf
    obtain rfl := bR hr
    simp only [Option.some.injEq] at h; subst h
    have : a.tmps[d]? = some (.bool bb) := by simpa using hx
    simp [this]
   ·rename_i v bH hf
    obtain ⟨x, hx, hr⟩ := hs.fr.get hf
    obtain rfl := bR hr
    simp only [Option.some.injEq] at h; subst h
    have : a.tmps[d]? = some x := by simpa using hx
    simp only [Option.bind_some,this]
    cases x <;> first | rfl | exact absurd rfl (bH _)
   ·cases h
   ·rename_i hf
    simp only [Option.some.injEq] at h; subst h
    have hl : st.fr.length = a.tmps.size := by have := hs.fr.1; simpa using this
    have : a.tmps[d]? = none := by
     rw [List.getElem?_eq_none_iff] at hf
     exact Array.getElem?_eq_none (by omega)
    simp [this]

def cL (P : Program) (tt : Table) (all : Array Oper) : List Oper → St → (St → Prop) → Prop
 | [], st, Q => Q st
 | o :: r, st, Q => match cj all st.fr o with
  | some true => aS P tt st.mem.length o st fun st' => cL P tt all r st' Q
  | some false => cL P tt all r (st.put o.dst (.sc undef)) Q
  | none => False

@[congr] theorem Kb {P : Program} {tt : Table} {key GH : Nat} {o : Oper} {st st' : St} {Q : St → Prop} (hk : key = GH) (h : st = st') : aS P tt key o st Q = aS P tt GH o st' Q := by rw [hk, h]
theorem put_defers (a : Act) (dst : Option Tmp) (v : Value) : (a.put dst v).defers = a.defers := by cases dst <;> rfl
theorem wM {P : Program} {tt : Table} (ht : TT P tt) {ρ : Option Nat} {n : Nat} {all : Array Oper} {Q : St → Prop} {Q' : Exit → Act → World → Prop} : ∀ (R2 pre : List Oper), all.toList = pre ++ R2 →
  ∀ {E : Env} {w : World} {a : Act} {st : St}, bc E w a st → cL P tt all R2 st Q → (∀ a' w', a'.defers = a.defers → (∃ E' st', bc E' w' a' st' ∧ dt E w E' w' ∧ Q st') → Q' .normal a' w') → wpOpsIn (WF ρ) n P all Q' (List.range' pre.length R2.length) a w := by
 intro R2
 induction R2 with
 | nil => intro pre _ E w a st hs h hq; exact hq _ _ rfl ⟨E, st, hs, dt.refl E w, h⟩
 | cons o r ih =>
  intro pre bh E w a st hs h hq
  have eW : all[pre.length]? = some o := by
   rw [← Array.getElem?_toList, bh, List.getElem?_append_right (Nat.le_refl _)]; simp
  have R3 : all.toList = (pre ++ [o]) ++ r := by rw [bh]; simp
  have VM := @ih (pre ++ [o]) R3
  simp only [List.length_append,List.length_cons,List.length_nil,Nat.zero_add] at VM
  rw [List.length_cons, List.range'_succ, wpOpsIn, eW]
  dsimp only
  simp only [cL] at h
  split at h
  ·rename_i hw
   rw [if_pos (gE hs hw)]
   refine dh ht hs (.inr rfl) h ?_
   rintro v w' ⟨E', st', h1, h2, h3⟩
   exact VM h1 h3 fun Zr Yc hd ⟨xR, Oj, h4, h5, h6⟩ => hq _ _ (hd.trans (put_defers _ _ _)) ⟨xR, Oj, h4, h2.trans h5, h6⟩
  ·rename_i hw
   rw [if_neg (by rw [gE hs hw]; simp)]
   exact ⟨fun _ _ => trivial, VM (hs.put o.dst (.sc _ _)) h fun Zr Yc hd h => hq _ _ (hd.trans (put_defers _ _ _)) h⟩
  ·exact h.elim

def Marks (E : Env) (w : World) (base : Nat) (ds : List Deferred) : Prop :=
 ∃ rs : List Nat, ds = rs.map (fun r => { target := .collected r, args := #[] }) ∧ rs.Nodup ∧ ∀ r ∈ rs, base ≤ r ∧ w.heap[r]? = some (.deferred (some [])) ∧ ∀ k v e c, E.aI k v ≠ some (r, e, c)
theorem Marks.Gb {E E' : Env} {w w' : World} {base : Nat} {ds : List Deferred} (h : Marks E w base ds) (he : dt E w E' w') : Marks E' w' base ds := by
 obtain ⟨rs, h1, h2, h3⟩ := h
 refine ⟨rs, h1, h2, fun r hr => ?_⟩
 obtain ⟨h6, h4, h5⟩ := h3 r hr
 have aD : r < w.heap.size := by
  rcases Nat.lt_or_ge r w.heap.size with h | h
  ·exact h
  ·rw [Array.getElem?_eq_none h] at h4; cases h4
 refine ⟨h6, (he.heap r aD h5).trans h4, fun k v e c hk => ?_⟩
 rcases he.aI _ _ _ _ _ hk with ⟨k0, v0, e0, c0, h⟩ | h
 ·exact h5 _ _ _ _ h
 ·omega
theorem Marks.nil (E : Env) (w : World) (base : Nat) : Marks E w base [] := ⟨[], rfl, .nil, fun r h => by simp at h⟩

def Ol (E0 : Env) (w0 : World) (Q : Exit → St → Prop) : Exit → Act → World → Prop := fun ex a' w' => ∃ E' st', bc E' w' a' st' ∧ dt E0 w0 E' w' ∧ Marks E' w' w0.heap.size a'.defers ∧ Q ex st'

def eL (P : Program) (ρ : Option Nat) (n0 : Nat) (c : Code) (st : St) (Q : Exit → St → Prop) : Prop :=
 ∀ (E0 : Env) (w0 : World), (∀ k, n0 ≤ k → ∀ v, E0.aI k v = none) → ∀ (E : Env) (w : World) (a : Act), dt E0 w0 E w → bc E w a st → Marks E w w0.heap.size a.defers → c.wpIn (WF ρ) 0 P (Ol E0 w0 Q) a w

def dI (next : St → Prop) (Q : Exit → St → Prop) : Exit → St → Prop
 | .normal, st => next st
 | e, st => Q e st
def eC (id : Nat) (Q : Exit → St → Prop) : Exit → St → Prop
 | .exit j, st => if j = id then Q .normal st else Q (.exit j) st
 | e, st => Q e st

section
variable {P : Program} {tt : Table} {ρ : Option Nat} {n0 : Nat} {st : St} {Q : Exit → St → Prop}
theorem eL.mono {c : Code} {Q' : Exit → St → Prop} (h : eL P ρ n0 c st Q) (hq : ∀ e st', Q e st' → Q' e st') : eL P ρ n0 c st Q' :=
 fun E0 w0 h0 E w a he hs hm => wpIn_mono (h E0 w0 h0 E w a he hs hm) fun _ _ _ ⟨E', st', h1, h2, h4, h3⟩ => ⟨E', st', h1, h2, h4, hq _ _ h3⟩
theorem iJ (h : Q .normal st) : eL P ρ n0 .skip st Q := fun E0 w0 h0 E w a he hs hm => wpIn_skip ⟨E, st, hs, he, hm, h⟩
theorem jo (h : Q .ret st) : eL P ρ n0 .ret st Q := fun E0 w0 h0 E w a he hs hm => wpIn_ret ⟨E, st, hs, he, hm, h⟩
theorem oK {id : Nat} (h : Q (.exit id) st) : eL P ρ n0 (.exit id) st Q := fun E0 w0 h0 E w a he hs hm => wpIn_exit ⟨E, st, hs, he, hm, h⟩
theorem fI {x y : Code} (h : eL P ρ n0 x st (dI (fun st' => eL P ρ n0 y st' Q) Q)) : eL P ρ n0 (.seq x y) st Q := fun E0 w0 h0 E w a he hs hm => by
 refine wpIn_seq (wpIn_mono (h E0 w0 h0 E w a he hs hm) ?_)
 rintro e a' w' ⟨E', st', h1, h2, h4, h3⟩
 cases e with
 | normal => exact h3 E0 w0 h0 E' w' a' h2 h1 h4
 | _ => exact ⟨E', st', h1, h2, h4, h3⟩
theorem fJ {c : Operand} {x y : Code} {b : Bool} (hc : st.eval c = .sc (.bool b)) (h : eL P ρ n0 (if b = true then x else y) st Q) : eL P ρ n0 (.cond c x y) st Q := fun E0 w0 h0 E w a he hs hm => by
 have := hs.eval c
 rw [hc] at this
 exact wpIn_cond (t := b) (bR this) (h E0 w0 h0 E w a he hs hm)
theorem gf {id : Nat} {c : Code} (h : eL P ρ n0 c st (eC id Q)) : eL P ρ n0 (.block id c) st Q := fun E0 w0 h0 E w a he hs hm => by
 refine wpIn_block (wpIn_mono (h E0 w0 h0 E w a he hs hm) ?_)
 rintro e a' w' ⟨E', st', h1, h2, h4, h3⟩
 cases e with
 | exit j =>
  simp only [Exit.inBlock,eC] at h3 ⊢
  split
  ·rename_i hj; rw [if_pos hj] at h3; exact ⟨E', st', h1, h2, h4, h3⟩
  ·rename_i hj; rw [if_neg hj] at h3; exact ⟨E', st', h1, h2, h4, h3⟩
 | _ => exact ⟨E', st', h1, h2, h4, h3⟩
theorem iK (ht : TT P tt) {id : Nat} {ops : Array Oper} (h : cL P tt ops ops.toList st (Q .normal)) : eL P ρ n0 (.region id ops false) st Q := fun E0 w0 h0 E w a he hs hm => by
 refine wpIn_region ?_
 have := wM ht (ρ := ρ) (n := 0) (Q' := Ol E0 w0 Q) ops.toList [] (by simp) hs h (fun a' w' hd ⟨E', st', h1, h2, h3⟩ => ⟨E', st', h1, he.trans h2, by rw [hd]; exact hm.Gb h2, h3⟩)
 rw [List.range_eq_range']
 simpa using this

def jq (P : Program) (ρ : Option Nat) (n0 : Nat) (c : Code) : Nat → St → (Exit → St → Prop) → Prop
 | 0, _, _ => False
 | n + 1, st, Q => eL P ρ n0 c st (dI (fun st' => jq P ρ n0 c n st' Q) Q)
theorem oL {c : Code} (n : Nat) (h : jq P ρ n0 c n st Q) : eL P ρ n0 (.loop c) st Q := fun E0 w0 h0 E w a he hs hm => by
 refine wpIn_loop_rounds n ?_
 have key : ∀ (n : Nat) (E1 : Env) (w1 : World) (a1 : Act) (st1 : St), bc E1 w1 a1 st1 → dt E0 w0 E1 w1 → Marks E1 w1 w0.heap.size a1.defers → jq P ρ n0 c n st1 Q → Code.roundsIn (WF ρ) 0 P c (Ol E0 w0 Q) n a1 w1 := by
  intro n
  induction n with
  | zero => intro E1 w1 a1 st1 _ _ _ h; exact h.elim
  | succ n ih =>
   intro E1 w1 a1 st1 h1 h2 h5 h3
   refine wpIn_mono (h3 E0 w0 h0 E1 w1 a1 h2 h1 h5) ?_
   rintro e a' w' ⟨E', st', h4, h5, h7, h6⟩
   cases e with
   | normal => exact ih E' w' a' st' h4 h5 h7 h6
   | _ => exact ⟨E', st', h4, h5, h7, h6⟩
 exact key n E w a st hs he hm h

theorem lK {c : Code} {st' : St} (hw : ∀ E w a, bc E w a st → bc E w a st') (h : eL P ρ n0 c st' Q) : eL P ρ n0 c st Q :=
 fun E0 w0 h0 E w a he hs hm => h E0 w0 h0 E w a he (hw E w a hs) hm


mutual
def ai (n : Nat) : V → Bool
 | .ms b _ _ _ => decide (b < n)
 | .ptr b _ => decide (b < n)
 | .im b => decide (b < n)
 | .mp b => decide (b < n)
 | .dd b _ _ _ => decide (b < n)
 | .undef => true
 | .sc _ => true
 | .slice _ => true
 | .cg _ => true
 | .gn => true
 | .full _ => true
 | .agg cs => dp n cs
 | .bN cs => dp n cs
 | .fQ _ first cap => dp n first && dp n cap
def dp (n : Nat) : List V → Bool
 | [] => true
 | c :: r => ai n c && dp n r
end
theorem cw (n : Nat) (l : List V) : dp n l = l.all (ai n) := by
 induction l with
 | nil => rfl
 | cons c r ih => simp [dp, ih]
def az (n : Nat) : aw → Bool
 | .box cs => cs.all (ai n)
 | .loop _ _ fr _ _ _ => fr.all (ai n)
 | .map aY _ => aY.all (fun k => ai n k.2.2)
 | .dF m _ _ _ => decide (m < n)
 | _ => true
def Env.cut (E : Env) (n : Nat) : Env := { F := E.F, aI := fun k v => if k < n then E.aI k v else none, gl := E.gl }

theorem fg {E : Env} {n : Nat} {v : V} {x : Value} (h : aW E v x) (hb : ai n v = true) : aW (E.cut n) v x := by
 induction h with
 | undef => exact .undef _ _
 | sc => exact .sc _ _
 | slice E rows a cap nE ad xf ha ij hz hF h1 hR ih => exact .slice _ _ _ _ nE ad xf ha ij hz hF h1 hR
 | ms E b v s l g e c a cap eX hl h0 CX => exact .ms _ _ _ _ _ g e c _ _ ((if_pos (by simpa [ai] using hb)).trans eX) hl h0 CX
 | cZ => exact .cZ _ _ _ _
 | ptr E b o g e c eX => exact .ptr _ _ _ g e c ((if_pos (by simpa [ai] using hb)).trans eX)
 | im E b l e c eX => exact .im _ _ l e c ((if_pos (by simpa [ai] using hb)).trans eX)
 | mp E b l e c eX => exact .mp _ _ l e c ((if_pos (by simpa [ai] using hb)).trans eX)
 | dd E b v i o g e c eX => exact .dd _ _ _ _ _ g e c ((if_pos (by simpa [ai] using hb)).trans eX)
 | cg E cs ad xf hF hR ih => exact .cg _ _ _ xf hF hR
 | gn => exact .gn _
 | full E rows a h ih => exact .full _ _ _ (ih rfl)
 | agg E cs xs hl hh ih =>
  rw [ai, cw] at hb
  exact .agg _ _ _ hl fun i c x hc hx => ih i c x hc hx (List.all_eq_true.1 hb c (List.mem_of_getElem? hc))
 | bN E cs xs hl hh ih =>
  rw [ai, cw] at hb
  exact .bN _ _ _ hl fun i c x hc hx => ih i c x hc hx (List.all_eq_true.1 hb c (List.mem_of_getElem? hc))
 | fQ E f first cap xs ys hx hy h1 h2 NV NW =>
  rw [ai, cw, cw, Bool.and_eq_true] at hb
  exact .fQ _ _ _ _ _ _ hx hy (fun i c x hc hx => NV i c x hc hx (List.all_eq_true.1 hb.1 c (List.mem_of_getElem? hc))) fun i c x hc hx => NW i c x hc hx (List.all_eq_true.1 hb.2 c (List.mem_of_getElem? hc))

theorem bc.cut {E : Env} {w : World} {a : Act} {st : St} (hs : bc E w a st) {n : Nat} (hf : st.fr.all (ai n) = true) (hm : (st.mem.take n).all (az n) = true) : bc (E.cut n) w a { st with mem := st.mem.take n } := by
 have hblk : ∀ k v, k < n → (E.cut n).aI k v = E.aI k v := fun k v h => if_pos h
 have c5 : ∀ k v, n ≤ k → (E.cut n).aI k v = none := fun k v h => if_neg (by omega)
 have aD : ∀ {k v t}, (E.cut n).aI k v = some t → k < n ∧ E.aI k v = some t := fun {k v t} h => by
  by_cases hk : k < n
  ·rw [hblk k v hk] at h; exact ⟨hk, h⟩
  ·rw [c5 k v (by omega)] at h; cases h
 have eW : ∀ {k : Nat} {B : aw}, (st.mem.take n)[k]? = some B → k < n ∧ st.mem[k]? = some B := fun {k B} h => by
  rw [List.getElem?_take] at h
  split at h
  ·exact ⟨by assumption, h⟩
  ·cases h
 refine ⟨hs.F, fun k v g e c h => hs.lt _ _ _ _ _ (aD h).2, fun k B hk => ?_, fun k hk v => ?_, fun k B hk v hv => ?_, fun k k' v v' g e1 c1 e2 c2 h5 h6 => hs.apart _ _ _ _ _ _ _ _ _ (aD h5).2 (aD h6).2, ⟨hs.fr.1, fun i v x hv hx => fg (hs.fr.2 i v x hv hx) (List.all_eq_true.1 hf v (List.mem_of_getElem? hv))⟩⟩
 ·obtain ⟨eV, eS⟩ := eW hk
  have bh := List.all_eq_true.1 hm B (List.mem_of_getElem? hk)
  have h := hs.mem k B eS
  cases B with
  | hole => exact fun v => by rw [hblk k v eV]; exact h v
  | dead => trivial
  | box cs =>
   obtain ⟨g, T, xs, h1, h2, h3, h4⟩ := h
   exact ⟨g, T, xs, (hblk k 0 eV).trans h1, h2, ⟨h3.1, fun i v x hv hx => fg (h3.2 i v x hv hx) (List.all_eq_true.1 bh v (List.mem_of_getElem? hv))⟩, h4⟩
  | loop s jx fr params assign body =>
   obtain ⟨l, fn, tmps, db, h1, h2, h3, h4⟩ := h
   exact ⟨l, fn, tmps, db, (hblk k 0 eV).trans h1, h2, ⟨h3.1, fun i v x hv hx => fg (h3.2 i v x hv hx) (List.all_eq_true.1 bh v (List.mem_of_getElem? hv))⟩, h4⟩
  | map aY clock =>
   obtain ⟨g, es, h1, h2, h3, h4⟩ := h
   exact ⟨g, es, (hblk k 0 eV).trans h1, h2, ⟨h3.1, fun i kb e hk he => let ⟨p1, p2, p3⟩ := h3.2 i kb e hk he; ⟨p1, p2, fg p3 (List.all_eq_true.1 bh kb (List.mem_of_getElem? hk))⟩⟩, h4⟩
  | dF m since seen last =>
   obtain ⟨g, gm, e, c, h1, h2, h3, h4⟩ := h
   have rG : m < n := by simpa [az] using bh
   exact ⟨g, gm, e, c, (hblk k 0 eV).trans h1, (hblk m 0 rG).trans h2, h3, h4⟩
  | ia s pos =>
   obtain ⟨g, h1, h2, h3⟩ := h
   exact ⟨g, (hblk k 0 eV).trans h1, h2, h3⟩
  | iA =>
   obtain ⟨g, h1, h2, h3⟩ := h
   exact ⟨g, (hblk k 0 eV).trans h1, h2, h3⟩
  | rows v e rs =>
   rcases h with ⟨h1, h2⟩ | ⟨g, T, xs, c, h1, h2⟩
   ·exact .inl ⟨h1, (hblk k v eV).trans h2⟩
   ·exact .inr ⟨g, T, xs, c, (hblk k v eV).trans h1, h2⟩
  | mX v e rs =>
   rcases h with ⟨h1, h2⟩ | ⟨g, c, h1, h2⟩
   ·exact .inl ⟨h1, (hblk k v eV).trans h2⟩
   ·exact .inr ⟨g, c, (hblk k v eV).trans h1, h2⟩
 ·by_cases eV : k < n
  ·rw [hblk k v eV]
   refine hs.top k ?_ v
   dsimp only at hk
   rw [List.length_take] at hk; omega
  ·exact c5 k v (by omega)
 ·obtain ⟨eV, eS⟩ := eW hk
  rw [hblk k v eV]; exact hs.aC k B eS v hv

def forget (qR : List Nat) (fr : List V) : List V := qR.foldl (fun fr i => fr.set i .undef) fr
theorem bc.forget {E : Env} {w : World} {a : Act} (qR : List Nat) : ∀ {st : St}, bc E w a st → bc E w a { st with fr := Eng.forget qR st.fr } := by
 induction qR with
 | nil => intro st hs; exact hs
 | cons i r ih =>
  intro st hs
  have : bc E w a { st with fr := st.fr.set i .undef } := by
   refine ⟨hs.F, hs.lt, hs.mem, hs.top, hs.aC, hs.apart, ⟨by simpa using hs.fr.1, fun j v x hv hx => ?_⟩⟩
   dsimp only at hv
   rw [List.getElem?_set] at hv
   split at hv
   ·split at hv
    ·cases hv; exact .undef _ _
    ·cases hv
   ·exact hs.fr.2 j v x hv hx
  exact ih this

theorem sL {c : Code} (n : Nat) (qR : List Nat) (hn : n0 ≤ n) (hf : (forget qR st.fr).all (ai n) = true) (hm : (st.mem.take n).all (az n) = true)
  (h : eL P ρ n0 c { fr := forget qR st.fr, mem := st.mem.take n } Q) : eL P ρ n0 c st Q := fun E0 w0 h0 E w a he hs uK => by
 have h1 := (hs.forget qR).cut (n := n) hf hm
 refine h E0 w0 h0 (E.cut n) w a ⟨⟨he.le.F, fun k v t hk => ?_⟩, fun k v g e c hk => ?_, he.F, he.os, he.tape, he.output, he.size, he.heap⟩ h1 ?_
 rotate_left 2
 ·obtain ⟨rs, m1, m2, m3⟩ := uK
  refine ⟨rs, m1, m2, fun r hr => ⟨(m3 r hr).1, (m3 r hr).2.1, fun k v e c hk => ?_⟩⟩
  have : E.aI k v = some (r, e, c) := by
   by_cases eV : k < n
   ·exact ((if_pos eV).symm.trans hk : E.aI k v = _)
   ·have h2 : (E.cut n).aI k v = none := if_neg eV
    rw [h2] at hk; cases hk
  exact (m3 r hr).2.2 _ _ _ _ this
 ·have : k < n := by
   rcases Nat.lt_or_ge k n with aD | c5
   ·exact aD
   ·rw [h0 k (by omega) v] at hk; cases hk
  exact (if_pos this).trans (he.le.aI _ _ _ hk)
 ·have : E.aI k v = some (g, e, c) := by
   by_cases eV : k < n
   ·exact ((if_pos eV).symm.trans hk : E.aI k v = _)
   ·have h2 : (E.cut n).aI k v = none := if_neg eV
    rw [h2] at hk; cases hk
  exact he.aI _ _ _ _ _ this

theorem bc.Kc {E : Env} {w : World} {a : Act} {st : St} (hs : bc E w a st) {i b v : Nat} (h : st.fr[i]? = some (.sc (.slice none 0 0))) : bc E w a { st with fr := st.fr.set i (.ms b v 0 0) } := by
 refine ⟨hs.F, hs.lt, hs.mem, hs.top, hs.aC, hs.apart, ⟨by simpa using hs.fr.1, fun j u x hu hx => ?_⟩⟩
 dsimp only at hu
 rw [List.getElem?_set] at hu
 split at hu
 ·rename_i pO
  subst pO
  split at hu
  ·cases hu
   have := hs.fr.2 _ _ _ h hx
   rw [bR this]
   exact .cZ _ _ _ _
  ·cases hu
 ·exact hs.fr.2 j u x hu hx
end

def lL (tt : Table) (st : St) : ResultVar → Option V
 | .tmp t => some (st.fr.getD t .undef)
 | .cell a T => kW tt st.mem T (st.fr.getD a .undef)
def jN (tt : Table) (st : St) : List ResultVar → Option (List V)
 | [] => some []
 | r :: rs => match lL tt st r with
  | some v => match jN tt st rs with | some l => some (v :: l) | none => none
  | none => none
def jO (tt : Table) (rs : Array ResultVar) (st : St) : Option V :=
 match jN tt st rs.toList with
 | some [v] => yv st.mem v
 | some vs => yv st.mem (.bN vs)
 | none => none

theorem iL {P : Program} {tt : Table} (ht : TT P tt) {E : Env} {w : World} {a : Act} {st : St} (hs : bc E w a st) : ∀ (rs : List ResultVar) (vs : List V), jN tt st rs = some vs →
  ∃ xs : List Value, (rs.mapM (fun | .tmp t => pure (a.tmps.getD t undef) | .cell p t => do loadVar t (← asAddr (a.tmps.getD p undef))) : Sem (List Value)).run P w = .ok xs w ∧ aP E vs xs
 | [], vs, h => by simp [jN] at h; subst h; exact ⟨[], rfl, .nil _⟩
 | r :: rs, vs, h => by
  simp only [jN] at h
  split at h
  ·rename_i v hv
   split at h
   ·rename_i l hl
    simp only [Option.some.injEq] at h; subst h
    obtain ⟨xs, h1, h2⟩ := iL ht hs rs l hl
    have hx : ∃ x, ((match r with | .tmp t => pure (a.tmps.getD t undef) | .cell p t => do loadVar t (← asAddr (a.tmps.getD p undef))) : Sem Value).run P w = .ok x w ∧ aW E v x := by
     cases r with
     | tmp t =>
      simp only [lL,Option.some.injEq] at hv; subst hv
      exact ⟨_, rfl, hs.eval (.tmp t)⟩
     | cell p t =>
      simp only [lL] at hv
      have hp := hs.eval (.tmp p)
      obtain ⟨y, h3, h4⟩ := qE ht hs hp hv
      refine ⟨y, ?_, h4⟩
      have MR : ∃ ad, a.tmps.getD p undef = .pointer (some ad) := by
       have oq : aW E (st.fr.getD p .undef) (a.tmps.getD p undef) := hp
       revert oq hv
       generalize st.fr.getD p .undef = q
       generalize a.tmps.getD p undef = z
       intro hv oq
       cases oq with
       | ptr => exact ⟨_, rfl⟩
       | dd => exact ⟨_, rfl⟩
       | cg => exact ⟨_, rfl⟩
       | _ => simp [kW] at hv
      obtain ⟨ad, Zs⟩ := MR
      have Q7 : (Instr.loadAt t (a.tmps.getD p undef)).run P w = .ok y w := h3
      show ((do loadVar t (← asAddr (a.tmps.getD p undef))) : Sem Value).run P w = _
      rw [Zs] at Q7 ⊢
      simpa [Instr.loadAt, Instr.sureAddr, asAddr] using Q7
    obtain ⟨x, h3, h4⟩ := hx
    refine ⟨x :: xs, ?_, .cons h4 h2⟩
    simp only [List.mapM_cons,Sem.run_bind]
    rw [h3]
    simp only [Result.andThen_ok]
    rw [h1]
    rfl
   ·cases h
  ·cases h

theorem Ba {P : Program} {tt : Table} (ht : TT P tt) {E : Env} {w : World} {a : Act} {st : St} (hs : bc E w a st) {fn : Func} {r : V} (h : jO tt fn.results st = some r) :
  ∃ keys x, (results fn a.tmps).run P w = .ok x w ∧ aW (E.kj w keys).pure r x := by
 unfold jO at h
 have run : ∀ xs : List Value, (fn.results.toList.mapM (fun | .tmp t => pure (a.tmps.getD t undef) | .cell p t => do loadVar t (← asAddr (a.tmps.getD p undef))) : Sem (List Value)).run P w = .ok xs w →
   (results fn a.tmps).run P w = .ok (if h : xs.toArray.size = 1 then xs.toArray[0] else .tuple xs.toArray) w := fun xs hx => by
  unfold results
  rw [Array.mapM_eq_mapM_toList]
  simp only [Sem.run_bind,Sem.run_map]
  erw [hx]
  rfl
 split at h
 ·rename_i v hv
  obtain ⟨xs, h1, h2⟩ := iL ht hs _ _ hv
  obtain ⟨x, ys, rfl, h3, h4⟩ := h2.of_cons
  have := h4.of_nil; subst this
  exact ⟨refs v, x, run _ h1, va hs h3 h fun k hk => hk⟩
 ·rename_i vs bH hv
  obtain ⟨xs, h1, h2⟩ := iL ht hs _ _ hv
  have hl : xs.toArray.size ≠ 1 := by
   have := h2.1
   intro he
   match vs, xs, this, he with
   | [v], _, _, _ => exact bH v rfl
   | [], [], _, he => simp at he
   | [], _ :: _, h, _ => simp at h
   | _ :: _ :: _, [], h, _ => simp at h
   | _ :: _ :: _, _ :: [], h, _ => simp at h
   | _ :: _ :: _, _ :: _ :: _, _, he => simp at he
  have h3 := run _ h1
  rw [dif_neg hl] at h3
  exact ⟨refs (.bN vs), _, h3, va hs (.bN _ _ _ (by simpa using h2.1) fun i c x hc hx => h2.2 i c x hc (by simpa using hx)) h fun k hk => hk⟩
 ·cases h

def di (fn : Func) (args : List V) (mem : List aw) : St := { fr := args ++ List.replicate (fn.ntmps - args.length) (.sc undef), mem := mem }
theorem qS {E : Env} (fn : Func) {args : List V} {mem : List aw} {xs : Array Value} (hx : aP E args xs.toList) : aP E (di fn args mem).fr (xs ++ Array.replicate (fn.ntmps - xs.size) undef).toList := by
 have hl : args.length = xs.size := by have := hx.1; simpa using this
 simp only [di,Array.toList_append,Array.toList_replicate,hl]
 refine hx.append ⟨by simp, fun i v x hv hx => ?_⟩
 rw [List.getElem?_replicate] at hv hx
 split at hv
 ·rename_i hi; rw [if_pos hi] at hx; cases hv; cases hx; exact .sc _ _
 ·cases hv

theorem wN {P : Program} {w : World} {r : Nat} (h : w.heap[r]? = some (.deferred (some []))) : (Instr.takeDeferred r).run P w = .ok [] { w with heap := w.heap.setIfInBounds r (.deferred none) } := by
 simp [Instr.takeDeferred, getObj, setObj, Sem.run, h, bind, Sem.bind, pure]

theorem kB {P : Program} {fn : Func} {tmps : Array Value} {R : Ending → World → Prop} : ∀ (rs : List Nat) (w : World), rs.Nodup → (∀ r ∈ rs, w.heap[r]? = some (.deferred (some []))) →
  (∀ w', w'.os = w.os → w'.tape = w.tape → w'.output = w.output → w'.heap.size = w.heap.size → (∀ b, b ∉ rs → w'.heap[b]? = w.heap[b]?) → ∃ v, (results fn tmps).run P w' = .ok v w' ∧ R (.returned v) w') →
  LeavesInM (WF none) 0 P fn tmps R (rs.map (fun r => { target := .collected r, args := #[] })) .returning w
 | [], w, _, _, h => by
  obtain ⟨v, h1, h2⟩ := h w rfl rfl rfl rfl fun _ _ => rfl
  exact ⟨v, h1, h2⟩
 | r :: rs, w, hn, hr, h => by
  refine ⟨by simp, .inl ⟨r, _, rfl, wN (hr r (List.mem_cons_self ..)), ?_⟩⟩
  rw [List.nodup_cons] at hn
  have yD : ∀ b, b ≠ r → (w.heap.setIfInBounds r (.deferred none))[b]? = w.heap[b]? := fun b hb => Array.getElem?_setIfInBounds_ne (fun e => hb e.symm)
  refine kB rs _ hn.2 (fun r' uu => ?_) fun w' h1 h2 h3 h4 h5 => ?_
  ·rw [yD r' (fun e => hn.1 (e ▸ uu))]; exact hr r' (List.mem_cons_of_mem _ uu)
  ·exact h w' h1 h2 h3 (by rw [h4]; simp) fun b hb => by
    simp only [List.mem_cons,not_or] at hb
    rw [h5 b hb.2, yD b hb.1]

theorem bc.GI {E : Env} {w w' : World} {a : Act} {st : St} (hs : bc E w a st) {rs : List Nat} (hr : ∀ r ∈ rs, w.heap[r]? = some (.deferred (some [])) ∧ ∀ k v e c, E.aI k v ≠ some (r, e, c)) (jH : w'.heap.size = w.heap.size)
  (hh : ∀ b, b ∉ rs → w'.heap[b]? = w.heap[b]?) : bc E w' a st := by
 refine ⟨fun ad x hx => ?_, fun k v g e c h => by rw [jH]; exact hs.lt _ _ _ _ _ h, fun k B hk => ?_, hs.top, hs.aC, hs.apart, hs.fr⟩
 ·have hc := hs.F ad x hx
  have : ad.block ∉ rs := fun gJ => by
   have := (hr _ gJ).1
   simp [World.cell?, this] at hc
  rw [← hc]; simp [World.cell?, hh _ this]
 ·exact (hs.mem k B hk).mono E.le_refl (fun _ h => h) (fun g e c h => hh g fun gJ => (hr g gJ).2 _ _ _ _ h) fun _ _ _ _ _ h => h

theorem yE {P : Program} {tt : Table} (ht : TT P tt) {f : FuncId} {fn : Func} {body : Code} {args : List V} {r : V} (hf : P.funcs[f]? = some fn) (hb : fn.body = some body)
  (dj : ∀ (xs : Array Value) (w : World), (callFunc f xs).run P w = .ok (.enter f xs) w)
  (h : eL P none 0 body (di fn args []) fun ex st' => (ex = .ret ∨ ex = .normal) ∧ jO tt fn.results st' = some r) : aO P f args r := by
 refine ⟨dj, fun F hg w xs hF hx => yC (n := 0) (callsIn_of_wp_marks hf hb trivial ?_)⟩
 have hs : bc ⟨F, fun _ _ => none, hg⟩ w { tmps := xs ++ Array.replicate (fn.ntmps - xs.size) undef, defers := [] } (di fn args []) := by
  refine ⟨hF, (fun k v g e c h => by cases h), (fun k B h => by simp [di] at h), (fun k _ v => rfl), (fun k B h => by simp [di] at h), (fun k k' v v' g e c e' c' h => by cases h), qS fn hx⟩
 refine wpIn_mono (h _ w (fun k _ v => rfl) _ w _ (dt.refl _ w) hs (.nil _ _ _)) ?_
 rintro e a' w' ⟨E', st', h1, h2, ⟨rs, hd, jM, Gt⟩, he, hr⟩
 have post : LeavesInM (WF none) 0 P fn a'.tmps (fun e w' => ∃ F' x, e = .returned x ∧ (∀ ad y, F ad = some y → F' ad = some y) ∧ (∀ ad y, F' ad = some y → w'.cell? ad = some y) ∧ (∀ ad y, F' ad = some y → F ad = some y ∨ w.heap.size ≤ ad.block) ∧
   (∃ J7, aW ⟨F', fun _ _ => none, J7⟩ r x) ∧ Below w.heap.size w w') a'.defers .returning w' := by
  rw [hd]
  refine kB rs w' jM (fun r hr => (Gt r hr).2.1) fun w2 k1 k2 k3 k4 k5 => ?_
  have fR := h1.GI (fun r hr => (Gt r hr).2) k4 k5
  obtain ⟨keys, x, h3, h4⟩ := Ba ht fR hr
  have hold : ∀ r ∈ rs, w.heap.size ≤ r := fun r hr => (Gt r hr).1
  refine ⟨x, h3, (E'.kj w2 keys).F, x, rfl, fun ad y hy => (Env.pR E' w2 keys).F _ _ (h2.le.F _ _ hy), fun ad y hy => Env.C7 fR.F hy, fun ad y hy => ?_, ⟨_, h4⟩, ⟨k1.trans h2.os, k2.trans h2.tape, k3.trans h2.output, by rw [k4]; exact h2.size, fun b hb => (k5 b fun gJ => by have := hold b gJ; omega).trans (h2.heap b hb (by simp))⟩⟩
  rcases Env.wJ hy with h | ⟨k, -, e, c, h⟩
  ·rcases h2.F _ _ h with h | h | ⟨k0, v0, e0, c0, h⟩
   ·exact .inl h
   ·exact .inr h
   ·cases h
  ·rcases h2.aI _ _ _ _ _ h with ⟨k0, v0, e0, c0, h⟩ | h
   ·cases h
   ·exact .inr h
 rcases he with rfl | rfl <;> exact post
end Go.Eng
end

section
namespace Go.Eng
variable [aH]

def mv : List (Nat × Ti) → Table
 | [], _ => none
 | (k, i) :: r, t => if t = k then some i else mv r t

def wO : Value → Value → Bool
 | .bool a, .bool b => a == b
 | .int k n, .int k' n' => k == k' && n == n'
 | .string a, .string b => a.data == b.data
 | .pointer none, .pointer none => true
 | .slice none a b, .slice none c d => a == c && b == d
 | .map none, .map none => true
 | .nilFunc, .nilFunc => true
 | .nilIface, .nilIface => true
 | _, _ => false
def jr : List Value → List Value → Bool
 | [], [] => true
 | a :: r, b :: s => wO a b && jr r s
 | _, _ => false
theorem vf {a b : Value} (h : wO a b = true) : a = b := by
 unfold wO at h
 split at h
 ·simp at h; rw [h]
 ·simp at h; rw [h.1, h.2]
 ·rename_i a b
  have : a.data = b.data := by simpa using h
  congr 1
  cases a; cases b; simp_all
 ·rfl
 ·simp at h; rw [h.1, h.2]
 ·rfl
 ·rfl
 ·rfl
 ·cases h
theorem kC : ∀ {a b : List Value}, jr a b = true → a = b
 | [], [], _ => rfl
 | x :: r, y :: s, h => by
  simp only [jr,Bool.and_eq_true] at h
  rw [vf h.1, kC h.2]
 | [], _ :: _, h => by simp [jr] at h
 | _ :: _, [], h => by simp [jr] at h

def pT (P : Program) : List Field → List (Nat × Nat) → Bool
 | [], [] => true
 | f :: r, p :: s => f.offset == p.1 && p.2 != 0 && (match P.info? f.type with | some i => i.size == p.2 | none => false) && pT P r s
 | _, _ => false

def Kd (P : Program) (t : TypeId) (i : Ti) : Bool :=
 match P.info? t with
 | none => false
 | some info => info.size == i.size && info.bytes == i.bytes && (match info.zero with | some z => jr z.cells.toList i.zero | none => false) &&
  match P.underlying t with
  | none => false
  | some d => (i.agg == (match d with | .struct _ => true | .array _ _ => true | _ => false)) &&
   (match i.elem with | none => true | some e => (match d with | .slice e' => e' == e | _ => false)) &&
   (match i.bx with | [] => true | fl => (match d with | .struct fs => pT P fs.toList fl | _ => false))

def Db (P : Program) : List (Nat × Ti) → Bool
 | [] => true
 | (t, i) :: r => Kd P t i && Db P r

theorem sM {P : Program} : ∀ {fs : List Field} {fl : List (Nat × Nat)}, pT P fs fl = true → fs.length = fl.length ∧ ∀ (k off sz : Nat), fl[k]? = some (off, sz) → ∃ f inf, fs[k]? = some f ∧ f.offset = off ∧ P.info? f.type = some inf ∧ inf.size = sz ∧ sz ≠ 0
 | [], [], _ => ⟨rfl, fun k off sz h => by simp at h⟩
 | f :: r, p :: s, h => by
  simp only [pT,Bool.and_eq_true,beq_iff_eq,bne_iff_ne] at h
  obtain ⟨⟨⟨h1, h2⟩, h3⟩, h4⟩ := h
  obtain ⟨h5, h6⟩ := sM h4
  refine ⟨by simp [h5], fun k off sz hk => ?_⟩
  cases k with
  | zero =>
   simp only [List.getElem?_cons_zero,Option.some.injEq] at hk; subst hk
   split at h3
   ·rename_i inf hi
    exact ⟨f, inf, rfl, h1, hi, by simpa using h3, h2⟩
   ·cases h3
  | succ k => exact h6 k off sz (by simpa using hk)
 | [], _ :: _, h => by simp [pT] at h
 | _ :: _, [], h => by simp [pT] at h

theorem Dc {P : Program} {t : TypeId} {i : Ti} (h : Kd P t i = true) :
  (∃ info, P.info? t = some info ∧ info.size = i.size ∧ info.bytes = i.bytes ∧ ∃ z, info.zero = some z ∧ z.cells.toList = i.zero) ∧
  (∃ d, P.underlying t = some d ∧ (i.agg = true ↔ ((∃ fs, d = .struct fs) ∨ ∃ n e, d = .array n e)) ∧ (∀ e, i.elem = some e → d = .slice e) ∧
   (∀ (f off sz : Nat), i.bx[f]? = some (off, sz) → ∃ fs fd inf, d = .struct fs ∧ fs.size = i.bx.length ∧ fs[f]? = some fd ∧ fd.offset = off ∧ P.info? fd.type = some inf ∧ inf.size = sz ∧ sz ≠ 0)) := by
 unfold Kd at h
 split at h
 ·cases h
 ·rename_i info R4
  simp only [Bool.and_eq_true,beq_iff_eq] at h
  obtain ⟨⟨⟨h1, h2⟩, h3⟩, h4⟩ := h
  split at h3
  ·rename_i z hz
   refine ⟨⟨info, R4, h1, h2, z, hz, kC h3⟩, ?_⟩
   split at h4
   ·cases h4
   ·rename_i d hd
    simp only [Bool.and_eq_true,beq_iff_eq] at h4
    obtain ⟨⟨h5, h6⟩, h7⟩ := h4
    refine ⟨d, hd, ?_, ?_, ?_⟩
    ·rw [h5]
     cases d <;> simp
    ·intro e he
     rw [he] at h6
     dsimp only at h6
     split at h6
     ·simp at h6; rw [h6]
     ·cases h6
    ·intro f off sz hf
     split at h7
     ·rename_i UE; rw [UE] at hf; simp at hf
     ·split at h7
      ·rename_i fs
       obtain ⟨h8, h9⟩ := sM h7
       obtain ⟨fd, inf, UH, VN⟩ := h9 f off sz hf
       exact ⟨fs, fd, inf, rfl, by simpa using h8, by simpa using UH, VN⟩
      ·cases h7
  ·cases h3

theorem pU {P : Program} : ∀ {l : List (Nat × Ti)}, Db P l = true → ∀ t i, mv l t = some i → Kd P t i = true
 | [], _, t, i, h => by simp [mv] at h
 | (k, j) :: r, h, t, i, ht => by
  simp only [Db,Bool.and_eq_true] at h
  simp only [mv] at ht
  split at ht
  ·rename_i hk; subst hk; cases ht; exact h.1
  ·exact pU h.2 t i ht
theorem tt_of {P : Program} {l : List (Nat × Ti)} (h : Db P l = true) : TT P (mv l) :=
 ⟨fun t i ht => (Dc (pU h t i ht)).1, fun t i ht => (Dc (pU h t i ht)).2⟩
end Go.Eng
end

section
namespace Go.Eng
variable [aH]

section
variable {P : Program} {tt : Table} {ρ : Option Nat} {n0 : Nat} {st : St} {Q : Exit → St → Prop}
theorem bz (ht : TT P tt) {id : Nat} {ops : Array Oper} {y : Code} (h : ∀ K : St → Prop, (∀ st', eL P ρ n0 y st' Q → K st') → cL P tt ops ops.toList st K) : eL P ρ n0 (.seq (.region id ops false) y) st Q :=
 fI (iK ht (h (fun st' => eL P ρ n0 y st' Q) fun _ h => h))
theorem rH (ht : TT P tt) {id : Nat} {ops : Array Oper} (h : ∀ K : St → Prop, (∀ st', Q .normal st' → K st') → cL P tt ops ops.toList st K) : eL P ρ n0 (.region id ops false) st Q :=
 iK ht (h (Q .normal) fun _ h => h)
def gg : List Bool → List V → List V
 | _, [] => []
 | [], _ :: r => .undef :: gg [] r
 | b :: m, v :: r => (if b = true then v else .undef) :: gg m r
theorem nM {E : Env} : ∀ (m : List Bool) {vs : List V} {xs : List Value}, aP E vs xs → aP E (gg m vs) xs
 | m, [], xs, h => by rw [h.of_nil]; cases m <;> exact .nil _
 | [], v :: r, xs, h => by
  obtain ⟨x, ys, rfl, h1, h2⟩ := h.of_cons
  exact .cons (.undef _ _) (nM [] h2)
 | b :: m, v :: r, xs, h => by
  obtain ⟨x, ys, rfl, h1, h2⟩ := h.of_cons
  refine .cons ?_ (nM m h2)
  cases b
  ·exact .undef _ _
  ·exact h1
theorem bc.mask {E : Env} {w : World} {a : Act} {st : St} (hs : bc E w a st) (m : List Bool) : bc E w a { st with fr := gg m st.fr } :=
 ⟨hs.F, hs.lt, hs.mem, hs.top, hs.aC, hs.apart, nM m hs.fr⟩
theorem yF {c : Code} (n : Nat) (m : List Bool) (hn : n0 ≤ n) (hf : (gg m st.fr).all (ai n) = true) (hm : (st.mem.take n).all (az n) = true)
  (h : eL P ρ n0 c { fr := gg m st.fr, mem := st.mem.take n } Q) : eL P ρ n0 c st Q :=
 lK (st' := { st with fr := gg m st.fr }) (fun E w a hs => hs.mask m) (sL n [] hn hf hm h)
def MT (n0 : Nat) (st : St) (I : St → Prop) : Prop :=
 ∃ (n : Nat) (m : List Bool), n0 ≤ n ∧ (gg m st.fr).all (ai n) = true ∧ (st.mem.take n).all (az n) = true ∧ I { fr := gg m st.fr, mem := st.mem.take n }
theorem nN {c : Code} : ∀ {n n' : Nat} {st : St}, n ≤ n' → jq P ρ n0 c n st Q → jq P ρ n0 c n' st Q
 | 0, _, _, _, h => h.elim
 | n + 1, 0, _, hn, _ => by omega
 | n + 1, n' + 1, st, hn, h => eL.mono h fun e st' hq => by
  cases e with
  | normal => exact nN (by omega) hq
  | _ => exact hq
theorem wP {c : Code} (I : Nat → St → Prop) (N : Nat) (h0 : MT n0 st (I N))
  (step : ∀ n st, I n st → eL P ρ n0 c st (dI (fun st' => ∃ k, k < n ∧ MT n0 st' (I k)) Q)) : eL P ρ n0 (.loop c) st Q := by
 have key : ∀ (n : Nat) (st : St), I n st → jq P ρ n0 c (n + 1) st Q := by
  intro n
  induction n using Nat.strongRecOn with
  | _ n ih =>
   intro st hi
   refine eL.mono (step n st hi) fun e st' hq => ?_
   cases e with
   | normal =>
    obtain ⟨k, hk, n1, m, h1, h2, h3, h4⟩ := hq
    have := ih k hk _ h4
    have : jq P ρ n0 c n { fr := gg m st'.fr, mem := st'.mem.take n1 } Q := nN (by omega) this
    cases n with
    | zero => omega
    | succ n => exact yF n1 m h1 h2 h3 this
   | _ => exact hq
 obtain ⟨n1, m, h1, h2, h3, h4⟩ := h0
 exact yF n1 m h1 h2 h3 (oL (N + 1) (key N _ h4))
end

theorem aL {α β : Type} (P : Program) (s : Sem α) (f : α → Sem β) : aG P (s >>= f) = (aG P s).bind fun a => aG P (f a) := by
 show aG P (s.bind f) = _
 induction s with
 | pure a => rfl
 | program k ih => exact ih P
 | mark m k ih => exact ih
 | _ => rfl
theorem cr {P : Program} {T : TypeId} {d : TypeDesc} (h : P.underlying T = some d) : aG P (underlying T) = some d := by
 simp [underlying, aL, program, aG, h, pure]
theorem yG {P : Program} {T : TypeId} (hT : P.underlying T = some .bool) (p q : Bool) : aG P (Op.equal T (.bool p) (.bool q)) = some (p == q) := by
 show aG P (Op.equalIn (9999 + 1) T (.bool p) (.bool q)) = _
 rw [Op.equalIn, aL, cr hT]
 rfl

section ints
variable (P : Program) (T : TypeId) (x y : Operand) (k : IntKind) (a b : Int)
theorem Om : aQ P (fC .add T x y) (.sc (.int k a)) (.sc (.int k b)) = some (.sc (.int k (k.wrap (a + b)))) := by
 simp [aQ, bA, fC, binOp, Op.intArith, eqGuard, aG, dx, bind, pure, Sem.bind]
theorem On : aQ P (fC .sub T x y) (.sc (.int k a)) (.sc (.int k b)) = some (.sc (.int k (k.wrap (a - b)))) := by
 simp [aQ, bA, fC, binOp, Op.intArith, eqGuard, aG, dx, bind, pure, Sem.bind]
theorem Oo : aQ P (fC .mul T x y) (.sc (.int k a)) (.sc (.int k b)) = some (.sc (.int k (k.wrap (a * b)))) := by
 simp [aQ, bA, fC, binOp, Op.intArith, eqGuard, aG, dx, bind, pure, Sem.bind]
theorem Oq : aQ P (fC .lss T x y) (.sc (.int k a)) (.sc (.int k b)) = some (.sc (.bool (decide (a < b)))) := by
 simp [aQ, bA, fC, binOp, Op.intCmp, eqGuard, aG, dx, bind, pure, Sem.bind]
theorem Ot : aQ P (fC .leq T x y) (.sc (.int k a)) (.sc (.int k b)) = some (.sc (.bool (decide (a ≤ b)))) := by
 simp [aQ, bA, fC, binOp, Op.intCmp, eqGuard, aG, dx, bind, pure, Sem.bind]
theorem Ou : aQ P (fC .gtr T x y) (.sc (.int k a)) (.sc (.int k b)) = some (.sc (.bool (decide (b < a)))) := by
 simp [aQ, bA, fC, binOp, Op.intCmp, eqGuard, aG, dx, bind, pure, Sem.bind]
theorem Ov : aQ P (fC .geq T x y) (.sc (.int k a)) (.sc (.int k b)) = some (.sc (.bool (decide (b ≤ a)))) := by
 simp [aQ, bA, fC, binOp, Op.intCmp, eqGuard, aG, dx, bind, pure, Sem.bind]
theorem Ow : aQ P (fC .eql T x y) (.sc (.int k a)) (.sc (.int k b)) = some (.sc (.bool (decide (a = b)))) := by
 simp [aQ, bA, fC, binOp, Op.intCmp, eqGuard, aG, dx, bind, pure, Sem.bind]
 rfl
theorem Ox : aQ P (fC .neq T x y) (.sc (.int k a)) (.sc (.int k b)) = some (.sc (.bool (!decide (a = b)))) := by
 simp [aQ, bA, fC, binOp, Op.intCmp, eqGuard, aG, dx, bind, pure, Sem.bind]
 rfl
theorem Oy (ts : Array TypeId) (ty : TypeId) : cH P (Builtin.max_ ts ty) [.sc (.int k a), .sc (.int k b)] = some (.sc (.int k (if a < b then b else a))) := by
 simp [cH, jy, bA, Builtin.max_, Builtin.max2, aG, dx, bind, pure, Sem.bind]
theorem Oz (ts : Array TypeId) (ty : TypeId) : cH P (Builtin.min_ ts ty) [.sc (.int k a), .sc (.int k b)] = some (.sc (.int k (if b < a then b else a))) := by
 simp [cH, jy, bA, Builtin.min_, Builtin.min2, aG, dx, bind, pure, Sem.bind]
theorem OA (t : Bool) : nj P (Op.unary .not) (.sc (.bool t)) = some (.sc (.bool (!t))) := by
 simp [nj, bA, Op.unary, aG, dx, pure]
end ints

section strings
variable (P : Program) (T : TypeId) (x y : Operand) (a b : ByteArray)
theorem Ke : aQ P (fC .eql T x y) (.sc (.string a)) (.sc (.string b)) = some (.sc (.bool (a.toList == b.toList))) := by
 simp [aQ, bA, fC, binOp, Op.stringOp, eqGuard, aG, dx, bind, pure, Sem.bind]
theorem Kf : aQ P (fC .neq T x y) (.sc (.string a)) (.sc (.string b)) = some (.sc (.bool (!(a.toList == b.toList)))) := by
 simp [aQ, bA, fC, binOp, Op.stringOp, eqGuard, aG, dx, bind, pure, Sem.bind]
theorem Kg : aQ P (fC .lss T x y) (.sc (.string a)) (.sc (.string b)) = some (.sc (.bool (Op.bytesLess a.toList b.toList))) := by
 simp [aQ, bA, fC, binOp, Op.stringOp, eqGuard, aG, dx, bind, pure, Sem.bind]
theorem Kh : aQ P (fC .gtr T x y) (.sc (.string a)) (.sc (.string b)) = some (.sc (.bool (!(Op.bytesLess a.toList b.toList || a.toList == b.toList)))) := by
 simp [aQ, bA, fC, binOp, Op.stringOp, eqGuard, aG, dx, bind, pure, Sem.bind]
theorem oM (h : ((a.size + b.size : Nat) : Int) ≤ IntKind.i64.max) : aQ P (fC .add T x y) (.sc (.string a)) (.sc (.string b)) = some (.sc (.string (a ++ b))) := by
 have h' : ¬ ((a.size + b.size : Nat) : Int) > IntKind.i64.max := by omega
 simp only [aQ,bA,fC,binOp,Op.stringOp,if_neg h']
 simp [eqGuard, aG, dx, bind, pure, Sem.bind]
theorem cM {P : Program} {T : TypeId} (hT : P.underlying T = some .string) (k : IntKind) (n : Int) (h0 : 0 ≤ n) {c : UInt8} (hc : a[n.toNat]? = some c) : aQ P (Instr.index T) (.sc (.string a)) (.sc (.int k n)) = some (.sc (.int .u8 c.toNat)) := by
 simp [aQ, bA, Instr.index, asIntOf, underlying, hT, h0, hc, aG, dx, bind, pure, Sem.bind, program]
theorem ck {P : Program} {tt : Table} {T : TypeId} (hT : P.underlying T = some .string) (ty : TypeId) : rC P tt #[T] ty [.sc (.string a)] = some (.sc (.int .i64 a.size)) := by
 simp [rC, cH, jy, bA, Builtin.len_, underlying, hT, aG, dx, bind, pure, Sem.bind, program, goInt]
theorem yH {P : Program} {tt : Table} {mem : List aw} {T : TypeId} (hT : P.underlying T = some .string) (k : IntKind) (n : Int) (h0 : 0 ≤ n) (hn : n ≤ a.size) :
  sk P tt mem T (.sc (.string a)) none (some (.sc (.int k n))) = some (.sc (.string (a.extract 0 n.toNat))) := by
 simp [sk, aQ, bA, Instr.sliceAt, Instr.slice, Instr.sliceBounds, Instr.sliceBound, asIntOf, underlying, hT, h0, hn, aG, dx, bind, pure, Sem.bind, program]
theorem EE {P : Program} {tt : Table} {mem : List aw} {T : TypeId} (hT : P.underlying T = some .string) (k k' : IntKind) (l h : Int) (h0 : 0 ≤ l) (h1 : l ≤ h) (hn : h ≤ a.size) :
  sk P tt mem T (.sc (.string a)) (some (.sc (.int k l))) (some (.sc (.int k' h))) = some (.sc (.string (a.extract l.toNat h.toNat))) := by
 have h2 : 0 ≤ h := by omega
 have h3 : l ≤ max h 0 := by omega
 simp [sk, aQ, bA, Instr.sliceAt, Instr.slice, Instr.sliceBounds, Instr.sliceBound, asIntOf, underlying, hT, h0, h2, hn, h3, h1, aG, dx, bind, pure, Sem.bind, program]
theorem Ki {P : Program} {T : TypeId} (hT : P.underlying T = some .bool) (p q : Bool) : aQ P (fC .eql T x y) (.sc (.bool p)) (.sc (.bool q)) = some (.sc (.bool (p == q))) := by
 have : aG P (do eqGuard .eql T x y (.bool p) (.bool q); binOp .eql T (.bool p) (.bool q)) = some (.bool (p == q)) := by
  show aG P ((Op.equal T (.bool p) (.bool q)) >>= fun r => Pure.pure (Value.bool r)) = _
  rw [aL, yG hT]; rfl
 simp only [aQ,bA,fC,this]; rfl
theorem ek {P : Program} {src dst : TypeId} {d : TypeDesc} {k' : IntKind} (hs : P.underlying src = some d) (hd : P.underlying dst = some (.int k')) (k : IntKind) (n : Int) : nj P (convert src dst) (.sc (.int k n)) = some (.sc (.int k' (k'.wrap n))) := by
 simp [nj, bA, convert, underlying, hs, hd, Conv.intToInt, aG, dx, bind, pure, Sem.bind, program]
end strings
end Go.Eng
end

section
namespace Go.Eng
variable [aH]
open Go.RowKit (Below)

theorem dt.cut {E E' : Env} {w w' : World} (h : dt E w E' w') {n : Nat} (hn : ∀ k, n ≤ k → ∀ v, E.aI k v = none) : dt E w (E'.cut n) w' := by
 refine ⟨⟨h.le.F, fun k v t hk => ?_⟩, fun k v g e c hk => ?_, h.F, h.os, h.tape, h.output, h.size, h.heap⟩
 ·have : k < n := by
   rcases Nat.lt_or_ge k n with aD | c5
   ·exact aD
   ·rw [hn k c5 v] at hk; cases hk
  exact (if_pos this).trans (h.le.aI _ _ _ hk)
 ·have : E'.aI k v = some (g, e, c) := by
   by_cases eV : k < n
   ·exact ((if_pos eV).symm.trans hk : E'.aI k v = _)
   ·have h2 : (E'.cut n).aI k v = none := if_neg eV
    rw [h2] at hk; cases hk
  exact h.aI _ _ _ _ _ this

def gh (tt : Table) (rs : Array ResultVar) (st : St) : Option V :=
 match jN tt st rs.toList with
 | some [v] => some v
 | some vs => some (.bN vs)
 | none => none

theorem wQ {P : Program} {tt : Table} (ht : TT P tt) {E : Env} {w : World} {a : Act} {st : St} (hs : bc E w a st) {fn : Func} {r : V} (h : gh tt fn.results st = some r) : ∃ x, (results fn a.tmps).run P w = .ok x w ∧ aW E r x := by
 unfold gh at h
 have run : ∀ xs : List Value, (fn.results.toList.mapM (fun | .tmp t => pure (a.tmps.getD t undef) | .cell p t => do loadVar t (← asAddr (a.tmps.getD p undef))) : Sem (List Value)).run P w = .ok xs w →
   (results fn a.tmps).run P w = .ok (if h : xs.toArray.size = 1 then xs.toArray[0] else .tuple xs.toArray) w := fun xs hx => by
  unfold results
  rw [Array.mapM_eq_mapM_toList]
  simp only [Sem.run_bind,Sem.run_map]
  erw [hx]
  rfl
 split at h
 ·rename_i v hv
  simp only [Option.some.injEq] at h; subst h
  obtain ⟨xs, h1, h2⟩ := iL ht hs _ _ hv
  obtain ⟨x, ys, rfl, h3, h4⟩ := h2.of_cons
  have := h4.of_nil; subst this
  exact ⟨x, run _ h1, h3⟩
 ·rename_i vs bH hv
  simp only [Option.some.injEq] at h; subst h
  obtain ⟨xs, h1, h2⟩ := iL ht hs _ _ hv
  have hl : xs.toArray.size ≠ 1 := by
   have := h2.1
   intro he
   match vs, xs, this, he with
   | [v], _, _, _ => exact bH v rfl
   | [], [], _, he => simp at he
   | [], _ :: _, h, _ => simp at h
   | _ :: _ :: _, [], h, _ => simp at h
   | _ :: _ :: _, _ :: [], h, _ => simp at h
   | _ :: _ :: _, _ :: _ :: _, _, he => simp at he
  have h3 := run _ h1
  rw [dif_neg hl] at h3
  exact ⟨_, h3, .bN _ _ _ (by simpa using h2.1) fun i c x hc hx => h2.2 i c x hc (by simpa using hx)⟩
 ·cases h

theorem GJ {P : Program} {tt : Table} (ht : TT P tt) {f : FuncId} {fn : Func} {body : Code} {args : List V} {mem : List aw} {R : V → List aw → Prop} (hf : P.funcs[f]? = some fn) (hb : fn.body = some body)
  (dj : ∀ (xs : Array Value) (w : World), (callFunc f xs).run P w = .ok (.enter f xs) w)
  (h : eL P none mem.length body (di fn args mem) fun ex st' => (ex = .ret ∨ ex = .normal) ∧ ∃ r n, mem.length ≤ n ∧ gh tt fn.results st' = some r ∧ ai n r = true ∧ (st'.mem.take n).all (az n) = true ∧ R r (st'.mem.take n)) : fi P f args mem R := by
 refine ⟨dj, fun E w xs Gc hx => yC (n := 0) (callsIn_of_wp_marks hf hb trivial ?_)⟩
 have hs : bc E w { tmps := xs ++ Array.replicate (fn.ntmps - xs.size) undef, defers := [] } (di fn args mem) := ⟨Gc.F, Gc.lt, Gc.mem, Gc.top, Gc.aC, Gc.apart, qS fn hx⟩
 refine wpIn_mono (h E w Gc.top E w _ (dt.refl _ w) hs (.nil _ _ _)) ?_
 rintro e a' w' ⟨E', st', h1, h2, ⟨rs, hd, jM, Gt⟩, he, r, n, hn, hr, Zt, JF, hR⟩
 have post : LeavesInM (WF none) 0 P fn a'.tmps (fun e w' => ∃ E' x r aE, e = .returned x ∧ R r aE ∧ dt E w E' w' ∧ bc E' w' { tmps := #[], defers := [] } { fr := [], mem := aE } ∧ aW E' r x) a'.defers .returning w' := by
  rw [hd]
  refine kB rs w' jM (fun r hr => (Gt r hr).2.1) fun w2 k1 k2 k3 k4 k5 => ?_
  have fR := h1.GI (fun r hr => (Gt r hr).2) k4 k5
  obtain ⟨x, h3, h4⟩ := wQ ht fR hr
  have du : dt E w E' w2 := ⟨h2.le, h2.aI, h2.F, k1.trans h2.os, k2.trans h2.tape, k3.trans h2.output, by rw [k4]; exact h2.size, fun b hb bH => (k5 b fun gJ => by have := (Gt b gJ).1; omega).trans (h2.heap b hb bH)⟩
  exact ⟨x, h3, E'.cut n, x, r, _, rfl, hR, du.cut fun k hk v => Gc.top k (by dsimp only; omega) v, fR.bare.cut (by rfl) JF, fg h4 Zt⟩
 rcases he with rfl | rfl <;> exact post

theorem GK {P : Program} {tt : Table} (ht : TT P tt) {f : FuncId} {fn : Func} {body : Code} {args : List V} {mem : List aw} {r : V} {aE : List aw} (n : Nat) (hn : mem.length ≤ n) (hf : P.funcs[f]? = some fn) (hb : fn.body = some body)
  (dj : ∀ (xs : Array Value) (w : World), (callFunc f xs).run P w = .ok (.enter f xs) w)
  (h : eL P none mem.length body (di fn args mem) fun ex st' => (ex = .ret ∨ ex = .normal) ∧ gh tt fn.results st' = some r ∧ ai n r = true ∧ (st'.mem.take n).all (az n) = true ∧ aE = st'.mem.take n) : aR P f args mem r aE :=
 (GJ ht hf hb dj (R := fun r' m' => r' = r ∧ m' = aE) (h.mono fun ex st' ⟨h1, h2, h3, h4, h5⟩ => ⟨h1, r, n, hn, h2, h3, h4, rfl, h5.symm⟩)).X8

def vg : List Tmp → List V → List V → List V
 | t :: ts, v :: vs, fr => vg ts vs (fr.set t v)
 | _, _, fr => fr
theorem vh {E : Env} : ∀ (ts : List Tmp) {vs : List V} {xs : List Value} {fr : List V} {tmps : Array Value}, aP E vs xs → aP E fr tmps.toList → aP E (vg ts vs fr) ((ts.zip xs).foldl (fun (tmps : Array Value) (p : Tmp × Value) => tmps.setIfInBounds p.1 p.2) tmps).toList
 | [], vs, xs, fr, tmps, _, h => by cases vs <;> exact h
 | t :: ts, [], xs, fr, tmps, hv, h => by rw [hv.of_nil]; exact h
 | t :: ts, v :: vs, xs, fr, tmps, hv, h => by
  obtain ⟨x, ys, rfl, h1, h2⟩ := hv.of_cons
  simp only [vg,List.zip_cons_cons,List.foldl_cons]
  exact vh ts h2 (by simpa using h.set t h1)

def Bb : Exit → Option (Option Code)
 | .normal => some none
 | .ret => some (some .ret)
 | .exit id => some (some (.exit id))
 | .goto l => some (some (.goto l))
 | _ => none

theorem wR {P : Program} {k : Nat} {fr vs : List V} {params : Array Tmp} {assign body : Code} {mem : List aw} {R : Bool → List aw → Prop} (hk : mem[k]? = some (.loop .ready none fr params assign body)) (hlen : vs.length = params.size)
  (h : ∀ l, eL P (some l) mem.length assign { fr := vg params.toList vs fr, mem := mem } fun ex st1 => ex = .normal ∧ ∃ MU p1 Kj Kk, st1.mem[k]? = some (.loop .ready none MU p1 Kj Kk) ∧
   eL P (some l) mem.length body { st1 with mem := st1.mem.set k (.loop .busy none MU p1 Kj Kk) } fun ex st2 => ∃ n jump s2 UI Kl p2 GL GM, mem.length ≤ n ∧ Bb ex = some jump ∧ st2.mem[k]? = some (.loop s2 UI Kl p2 GL GM) ∧
    ((st2.mem.set k (.loop (if jump.isNone then .ready else .done) jump Kl p2 GL GM)).take n).all (az n) = true ∧
    R jump.isNone ((st2.mem.set k (.loop (if jump.isNone then .ready else .done) jump Kl p2 GL GM)).take n)) :
  EC P k vs mem R := by
 intro E w xs l e c hs hx hb
 obtain ⟨l', fn, tmps, db, ey, hh, hr, hf⟩ := hs.mem k _ hk
 rw [hb] at ey; cases ey
 have eW : ∀ {W : World} {R : Loop}, W.heap[l]? = some (.loop R) → (Instr.getLoop l).run P W = .ok R W := fun {W R} hW => by
  simp [Instr.getLoop, getObj, Sem.run, hW, bind, Sem.bind, pure]
 have yD : ∀ {W : World} {R : Loop} {o : Obj}, W.heap[l]? = some (.loop R) → (setObj l o).run P W = .ok () { W with heap := W.heap.setIfInBounds l o } := fun {W R o} hW => by
  simp [setObj, Sem.run, hW]
 have ym : xs.size = params.size := by have := hx.1; simp at this; omega
 refine ⟨fn, (params.zip xs).foldl (fun tmps (p : Tmp × Value) => tmps.setIfInBounds p.1 p.2) tmps, assign, body, ?_, ?_⟩
 ·simp only [Instr.yield,Sem.run_bind,eW hh,Result.andThen_ok,ym,ne_eq,not_true_eq_false,if_false]
  rfl
 ·refine roundIn_of_wpIn trivial ?_
  have jd : bc E w { tmps := (params.zip xs).foldl (fun tmps (p : Tmp × Value) => tmps.setIfInBounds p.1 p.2) tmps, defers := [] } { fr := vg params.toList vs fr, mem := mem } := by
   refine ⟨hs.F, hs.lt, hs.mem, hs.top, hs.aC, hs.apart, ?_⟩
   have := vh (E := E) params.toList hx hr
   rw [← Array.foldl_toList, Array.toList_zip]
   exact this
  refine wpIn_mono (h l E w hs.top E w _ (dt.refl E w) jd (.nil _ _ _)) ?_
  rintro ex a1 w1 ⟨E1, st1, h1, h2, Zu, rfl, MU, p1, Kj, Kk, fH, h3⟩
  obtain ⟨l1, Yd, MV, Ye, rF, Q3, A1, RZ⟩ := h1.mem k _ fH
  have OB : E1.aI k 0 = some (l, 0, 0) := h2.le.aI _ _ _ hb
  rw [OB] at rF; cases rF
  have only : ∀ (W : World) (o : Obj), oz W { W with heap := W.heap.setIfInBounds l o } l := fun W o => ⟨rfl, rfl, rfl, by simp, fun b hb => Array.getElem?_setIfInBounds_ne (fun e => hb e.symm)⟩
  have aD : ∀ {W : World} {o : Obj}, W.heap[l]? = some o → l < W.heap.size := fun {W o} hW => (Array.getElem?_eq_some_iff.1 hW).1
  have t1 := h1.yh fH rfl (B' := .loop .busy none MU p1 Kj Kk) rfl OB RZ (only w1 (.loop { state := .busy, pending := none, fn := Yd, tmps := MV, params := p1, assign := Kj, body := Kk, defers := Ye }))
   ⟨l, Yd, MV, Ye, OB, by simp [aD Q3], A1, RZ⟩
  refine ⟨_, by simp [Instr.beginRound, eW Q3, yD Q3]; rfl, ?_⟩
  refine wpIn_mono (h3 E w hs.top E1 _ a1 (h2.trans t1.2) t1.1 ?_) ?_
  ·exact Zu.Gb t1.2
  ·rintro ex a2 w2 ⟨E2, st2, h4, h5, -, n, jump, s2, UI, Kl, p2, GL, GM, rG, hj, kD, JF, hR⟩
   obtain ⟨l2, VO, GN, VP, ur, MM, Ew, UF⟩ := h4.mem k _ kD
   have OC : E2.aI k 0 = some (l, 0, 0) := h5.le.aI _ _ _ hb
   rw [OC] at ur; cases ur
   have t2 := h4.yh kD rfl (B' := .loop (if jump.isNone then .ready else .done) jump Kl p2 GL GM) rfl OC UF
    (only w2 (.loop { state := if jump.isNone then .ready else .done, pending := jump, fn := VO, tmps := GN, params := p2, assign := GL, body := GM, defers := VP })) ⟨l, VO, GN, VP, OC, by simp [aD MM], Ew, UF⟩
   have run : (Instr.endRound l jump).run P w2 = .ok (.bool jump.isNone) { w2 with heap := w2.heap.setIfInBounds l (.loop { state := if jump.isNone then .ready else .done, pending := jump, fn := VO, tmps := GN, params := p2, assign := GL, body := GM, defers := VP }) } := by
    simp [Instr.endRound, eW MM, yD MM]
   have fin : ∃ v w', (Instr.endRound l jump).run P w2 = .ok v w' ∧ ∃ E' b aE, Ending.returned v = .returned (.bool b) ∧ R b aE ∧ dt E w E' w' ∧ bc E' w' { tmps := #[], defers := [] } { fr := [], mem := aE } :=
    ⟨_, _, run, E2.cut n, _, _, rfl, hR, (h5.trans t2.2).cut (fun k hk v => hs.top k (Nat.le_trans rG hk) v), t2.1.bare.cut (by rfl) JF⟩
   cases ex <;> simp only [Bb,Option.some.injEq,reduceCtorEq] at hj <;> subst hj <;> exact fin


theorem sN {P : Program} {n0 : Nat} {st : St} {Q : Exit → St → Prop} {f : Operand} {params : Array Tmp} {assign body : Code} {g : FuncId} {vs : List V} {R : V → List aw → Prop} (hc : aX (st.eval f) [.im st.mem.length] = some (g, vs))
  (JL : fi P g vs (st.mem ++ [.loop .ready none st.fr params assign body]) R)
  (hq : ∀ r Bc, R r Bc → ∃ s jx UJ MW MX MY, Bc[st.mem.length]? = some (.loop s jx UJ MW MX MY) ∧ s ≠ .busy ∧ (match jx with | none => Q .normal { st with mem := Bc.set st.mem.length .dead } | some c => eL P none n0 c { st with mem := Bc.set st.mem.length .dead } Q)) :
  eL P none n0 (.rangeFunc f params assign body) st Q := fun E0 w0 h0 E w a he hs uK => by
 refine wpIn_rangeFunc fun fn _ => ?_
 -- eg VQ block, eg VR record
 let w1 : World := w.alloc (.deferred (some []))
 let L : Loop := { state := .ready, pending := none, fn := fn, tmps := a.tmps, params := params, assign := assign, body := body, defers := w.heap.size }
 let w2 : World := w1.alloc (.loop L)
 have eV : ∀ v, E.aI st.mem.length v = none := hs.top _ (Nat.le_refl _)
 have hle : E.le (E.with st.mem.length 0 (w.heap.size + 1, 0, 0)) := Env.gC (eV 0) _
 have b9 : (E.with st.mem.length 0 (w.heap.size + 1, 0, 0)).aI st.mem.length 0 = some (w.heap.size + 1, 0, 0) := if_pos ⟨rfl, rfl⟩
 have hblk : ∀ k v, ¬ (k = st.mem.length ∧ v = 0) → (E.with st.mem.length 0 (w.heap.size + 1, 0, 0)).aI k v = E.aI k v := fun k v h => if_neg h
 have hold : ∀ b, b < w.heap.size → w2.heap[b]? = w.heap[b]? := fun b hb => (Go.RowKit.Below.heap_alloc w1 _ b (by simp [w1]; omega)).trans (Go.RowKit.Below.heap_alloc w _ b hb)
 have EF : w2.heap[w.heap.size + 1]? = some (.loop L) := by
  have : w1.heap.size = w.heap.size + 1 := by simp [w1]
  show (w1.alloc (.loop L)).heap[w.heap.size + 1]? = _
  rw [← this]; exact heap_alloc_new w1 _
 have du : dt E w (E.with st.mem.length 0 (w.heap.size + 1, 0, 0)) w2 := by
  refine ⟨hle, fun k v g e c hk => ?_, fun ad x hx => .inl hx, rfl, rfl, rfl, by simp [w2, w1]; omega, fun b hb _ => hold b hb⟩
  by_cases bX : k = st.mem.length ∧ v = 0
  ·obtain ⟨rfl, rfl⟩ := bX; rw [b9] at hk; cases hk; exact .inr (by omega)
  ·rw [hblk k v bX] at hk; exact .inl ⟨_, _, _, _, hk⟩
 have Zv : ∀ o, E.F ⟨w.heap.size + 1, o, none⟩ = none := fun o => by
  cases hx : E.F ⟨w.heap.size + 1, o, none⟩ with
  | none => rfl
  | some x => have := World.block_lt_of_cell? w _ (hs.F _ _ hx); simp at this; omega
 have fR : bc (E.with st.mem.length 0 (w.heap.size + 1, 0, 0)) w2 { tmps := #[], defers := [] } { fr := [], mem := st.mem ++ [.loop .ready none st.fr params assign body] } := by
  have eW : ∀ {k : Nat} {B : aw}, (st.mem ++ [aw.loop .ready none st.fr params assign body])[k]? = some B → (k < st.mem.length ∧ st.mem[k]? = some B) ∨ (k = st.mem.length ∧ B = .loop .ready none st.fr params assign body) := fun {k B} h => by
   rw [List.getElem?_append] at h
   split at h
   ·rename_i aD; exact .inl ⟨aD, h⟩
   ·have JM : k - st.mem.length = 0 := by
     rcases Nat.eq_zero_or_pos (k - st.mem.length) with h0 | h0
     ·exact h0
     ·rw [List.getElem?_eq_none (by simp; omega)] at h; cases h
    rw [JM] at h; simp at h
    exact .inr ⟨by omega, h.symm⟩
  refine ⟨fun ad x hx => ?_, fun k v g e c hk => ?_, fun k B hk => ?_, fun k hk v => ?_, fun k B hk v hv => ?_, fun k k' v v' g e1 c1 e2 c2 h5 h6 => ?_, .nil _⟩
  ·have hc := hs.F ad x hx
   rw [← hc]; simp [World.cell?, hold _ (World.block_lt_of_cell? w ad hc)]
  ·by_cases bX : k = st.mem.length ∧ v = 0
   ·obtain ⟨rfl, rfl⟩ := bX; rw [b9] at hk; cases hk; simp [w2, w1]
   ·rw [hblk k v bX] at hk; have := hs.lt _ _ _ _ _ hk; simp [w2, w1]; omega
  ·rcases eW hk with ⟨aD, eS⟩ | ⟨rfl, rfl⟩
   ·exact (hs.mem k B eS).mono hle (fun v h => by rw [hblk k v (by omega)]; exact h) (fun g e c h => hold g (hs.lt _ _ _ _ _ h)) fun _ _ _ _ _ h => h
   ·exact ⟨w.heap.size + 1, fn, a.tmps, w.heap.size, b9, EF, hs.fr.mono hle, Zv⟩
  ·dsimp only at hk
   simp at hk
   rw [hblk k v (by omega)]; exact hs.top k (by omega) v
  ·rcases eW hk with ⟨aD, eS⟩ | ⟨rfl, rfl⟩
   ·rw [hblk k v (by omega)]; exact hs.aC k B eS v hv
   ·rw [hblk _ v (by simp [aw.aC] at hv; omega)]; exact eV v
  ·by_cases bX : k = st.mem.length ∧ v = 0 <;> by_cases wx : k' = st.mem.length ∧ v' = 0
   ·rw [bX.1, wx.1]
   ·obtain ⟨rfl, rfl⟩ := bX; rw [b9] at h5; cases h5; rw [hblk k' _ wx] at h6; have := hs.lt _ _ _ _ _ h6; omega
   ·obtain ⟨rfl, rfl⟩ := wx; rw [b9] at h6; cases h6; rw [hblk k _ bX] at h5; have := hs.lt _ _ _ _ _ h5; omega
   ·rw [hblk k _ bX] at h5; rw [hblk k' _ wx] at h6
    exact hs.apart _ _ _ _ _ _ _ _ _ h5 h6
 have AV : aP (E.with st.mem.length 0 (w.heap.size + 1, 0, 0)) [.im st.mem.length] (#[Value.func (.yield (w.heap.size + 1)) #[] #[]] : Array Value).toList := .cons (.im _ _ _ 0 0 b9) (.nil _)
 obtain ⟨d, ys, hy, Oh, ED⟩ := sJ (P := P) (w := w2) ((hs.eval f).mono hle) AV hc
 have VT := uK.Gb du
 refine ⟨w.heap.size + 1, [{ target := .collected w.heap.size, args := #[] }], w2, d, w2, g, ys, w2, ?_, ?_, fun _ _ => trivial, ED.trans (JL.1 ys w2), fun h => by simp [WF] at h, ?_⟩
 ·exact run_enterLoop_outer _ _ _ _ _
 ·refine Eq.trans ?_ Oh
  simp only [rangeCall,resolve]
  simp [Act.eval]
 ·refine sK ((JL.2 _ w2 ys fR hy).mono ?_)
  rintro e w3 ⟨E3, x, r, Bc, rfl, Zw, GO, Q8, -⟩
  obtain ⟨s, jx, UJ, MW, MX, MY, OD, R5, MZ⟩ := hq r Bc Zw
  obtain ⟨l3, UK, Dd, UL, M0, VU, hr3, VK⟩ := Q8.mem _ _ OD
  have R6 : E3.aI st.mem.length 0 = some (w.heap.size + 1, 0, 0) := GO.le.aI _ _ _ b9
  rw [R6] at M0; cases M0
  have Zx : w.heap.size + 1 < w3.heap.size := (Array.getElem?_eq_some_iff.1 VU).1
  have Zy : (s == LoopState.busy) = false := by cases s <;> first | rfl | exact absurd rfl R5
  have VV := hs.yz Q8 (Env.le_trans hle GO.le)
  have t := VV.yh OD rfl (B' := .dead) rfl R6 VK (w' := { w3 with heap := w3.heap.setIfInBounds (w.heap.size + 1) (.loop { state := .exhausted, pending := jx, fn := UK, tmps := Dd, params := MW, assign := MX, body := MY, defers := UL }) })
   ⟨rfl, rfl, rfl, by simp, fun b hb => Array.getElem?_setIfInBounds_ne (fun e => hb e.symm)⟩ trivial
  have R7 : dt E0 w0 E3 _ := (he.trans (du.trans GO)).trans t.2
  have R8 : Marks E3 { w3 with heap := w3.heap.setIfInBounds (w.heap.size + 1) (.loop { state := .exhausted, pending := jx, fn := UK, tmps := Dd, params := MW, assign := MX, body := MY, defers := UL }) } w0.heap.size ({ target := .collected w.heap.size, args := #[] } :: a.defers) := by
   obtain ⟨rs, m1, m2, m3⟩ := (VT.Gb GO).Gb t.2
   have R9 : w2.heap[w.heap.size]? = some (.deferred (some [])) := (Go.RowKit.Below.heap_alloc w1 _ _ (by simp [w1])).trans (heap_alloc_new w _)
   have JG : ∀ k v e c, (E.with st.mem.length 0 (w.heap.size + 1, 0, 0)).aI k v ≠ some (w.heap.size, e, c) := fun k v e c hk => by
    by_cases bX : k = st.mem.length ∧ v = 0
    ·obtain ⟨rfl, rfl⟩ := bX; rw [b9] at hk; simp at hk
    ·rw [hblk k v bX] at hk; have := hs.lt _ _ _ _ _ hk; omega
   have one : Marks (E.with st.mem.length 0 (w.heap.size + 1, 0, 0)) w2 w0.heap.size [{ target := .collected w.heap.size, args := #[] }] := ⟨[w.heap.size], rfl, by simp, fun r hr => by
    simp at hr; subst hr; exact ⟨he.size, R9, JG⟩⟩
   obtain ⟨rs', n1, n2, n3⟩ := (one.Gb GO).Gb t.2
   have N2 : rs' = [w.heap.size] := by
    match rs', n1 with
    | [r], h => simp at h; rw [h]
    | [], h => simp at h
    | _ :: _ :: _, h => simp at h
   subst N2
   refine ⟨w.heap.size :: rs, by rw [m1]; rfl, ?_, fun r hr => ?_⟩
   ·rw [List.nodup_cons]
    refine ⟨fun gJ => ?_, m2⟩
    -- an elder mark bm below
    obtain ⟨UC, q1, q2, q3⟩ := uK
    have uq : rs = UC := by
     have := m1.symm.trans q1
     have inj : ∀ (xs ys : List Nat), xs.map (fun r => ({ target := .collected r, args := #[] } : Deferred)) = ys.map (fun r => { target := .collected r, args := #[] }) → xs = ys := by
      intro xs
      induction xs with
      | nil => intro ys h; cases ys with | nil => rfl | cons y ys => simp at h
      | cons x xs ih => intro ys h; cases ys with | nil => simp at h | cons y ys => simp at h; rw [h.1, ih ys (by simpa using h.2)]
     exact inj _ _ this
    subst uq
    have := (q3 _ gJ).2.1
    rw [Array.getElem?_eq_none (Nat.le_refl _)] at this; cases this
   ·rcases List.mem_cons.1 hr with rfl | hr
    ·exact n3 _ (by simp)
    ·exact m3 r hr
  refine ⟨jx, { w3 with heap := w3.heap.setIfInBounds (w.heap.size + 1) (.loop { state := .exhausted, pending := jx, fn := UK, tmps := Dd, params := MW, assign := MX, body := MY, defers := UL }) }, ?_, ?_⟩
  ·have hg : (Instr.getLoop (w.heap.size + 1)).run P w3 = .ok { state := s, pending := jx, fn := UK, tmps := Dd, params := MW, assign := MX, body := MY, defers := UL } w3 := by
    simp [Instr.getLoop, getObj, Sem.run, VU, bind, Sem.bind, pure]
   simp only [Instr.endLoop,Sem.run_bind,hg,Result.andThen_ok,Zy,Bool.false_eq_true,if_false]
   simp [setObj, Sem.run, VU]
  ·cases jx with
   | none => exact ⟨E3, _, ⟨t.1.F, t.1.lt, t.1.mem, t.1.top, t.1.aC, t.1.apart, t.1.fr⟩, R7, R8, MZ⟩
   | some c => exact MZ E0 w0 h0 E3 _ { a with defers := { target := .collected w.heap.size, args := #[] } :: a.defers } R7 ⟨t.1.F, t.1.lt, t.1.mem, t.1.top, t.1.aC, t.1.apart, t.1.fr⟩ R8
end Go.Eng
end

section
namespace Go.Eng
variable [aH]
open Go.RowKit (Below)

inductive Zz where
 | n | r | a | w | s | b | z | e
 deriving DecidableEq
structure Pl where
 cls : Zz
 key : Nat
 mask : List Nat
 M1 : List Nat := []
 abs : List Nat := []

def yI (m : List aw) (k : Nat) : List aw := match m[k]? with
 | some B => if B.aC = 0 then m.set k .dead else m
 | none => m
def dk : List Nat → List aw → List aw
 | [], m => m
 | k :: r, m => dk r (yI m k)
def hX (b : Bool) (B : aw) : aw := if b = true ∧ B.aC = 0 then .dead else B
theorem EG (m : List aw) (k q : Nat) : (yI m k)[q]? = (m[q]?).map (hX (q == k)) := by
 unfold yI
 by_cases hq : q = k
 ·subst hq
  cases h : m[q]? with
  | none => simp [h]
  | some B =>
   have aD : q < m.length := (List.getElem?_eq_some_iff.1 h).1
   simp only [beq_self_eq_true,Option.map_some,hX,true_and]
   split
   ·rename_i hv; simp [List.getElem?_set, aD]
   ·rename_i hv; exact h
 ·have hb : (q == k) = false := by simpa using hq
  have hid : (m[q]?).map (hX (q == k)) = m[q]? := by rw [hb]; cases m[q]? <;> simp [hX]
  rw [hid]
  cases h : m[k]? with
  | none => rfl
  | some B =>
   dsimp only
   split
   ·exact List.getElem?_set_ne (fun e => hq e.symm)
   ·rfl
theorem uL (b c : Bool) (B : aw) : hX b (hX c B) = hX (b || c) B := by
 have hd : aw.dead.aC = 0 := rfl
 unfold hX
 cases b <;> cases c <;> by_cases hv : B.aC = 0 <;> simp [hv, hd]
theorem mw : ∀ (ks : List Nat) (m : List aw) (q : Nat), (dk ks m)[q]? = (m[q]?).map (hX (ks.contains q))
 | [], m, q => by cases h : m[q]? <;> simp [dk, h, hX]
 | k :: r, m, q => by
  rw [dk, mw r, EG]
  cases m[q]? with
  | none => rfl
  | some B =>
   simp only [Option.map_some,uL,List.contains_cons]
   rw [Bool.or_comm]
theorem oN : ∀ (ks : List Nat) (m : List aw), (dk ks m).length = m.length
 | [], m => rfl
 | k :: r, m => by
  rw [dk, oN r]
  unfold yI
  split
  ·split <;> simp
  ·rfl
theorem my {ks : List Nat} {m : List aw} {k : Nat} {B0 B : aw} (hk : k ∈ ks) (hm : m[k]? = some B0) (h0 : B0.aC = 0) (hB : B.aC = 0) : dk ks (m.set k B) = dk ks m := by
 refine List.ext_getElem? fun q => ?_
 rw [mw, mw]
 by_cases hq : q = k
 ·subst hq
  have aD : q < m.length := (List.getElem?_eq_some_iff.1 hm).1
  have hc : ks.contains q = true := by simpa using hk
  rw [List.getElem?_set, if_pos rfl, if_pos aD, hm]
  simp [hX, hB, h0, hk]
 ·rw [List.getElem?_set_ne (fun e => hq e.symm)]

theorem bc.dk {E : Env} {w : World} {a : Act} {st : St} (hs : bc E w a st) (ks : List Nat) : bc E w a { st with mem := Eng.dk ks st.mem } := by
 have get : ∀ {k : Nat} {B : aw}, (Eng.dk ks st.mem)[k]? = some B → ∃ B0 : aw, st.mem[k]? = some B0 ∧ (B = B0 ∨ B = aw.dead ∧ B0.aC = 0) := fun {k B} h => by
  rw [mw] at h
  cases h0 : st.mem[k]? with
  | none => rw [h0] at h; cases h
  | some B0 =>
   rw [h0] at h
   simp only [Option.map_some,Option.some.injEq] at h
   refine ⟨B0, rfl, ?_⟩
   unfold hX at h
   split at h
   ·rename_i hc; exact .inr ⟨h.symm, hc.2⟩
   ·exact .inl h.symm
 refine ⟨hs.F, hs.lt, fun k B hk => ?_, fun k hk => hs.top k (by simpa [oN] using hk), fun k B hk v hv => ?_, hs.apart, hs.fr⟩
 ·obtain ⟨B0, h0, rfl | ⟨rfl, -⟩⟩ := get hk
  ·exact hs.mem k _ h0
  ·trivial
 ·obtain ⟨B0, h0, rfl | ⟨rfl, h1⟩⟩ := get hk
  ·exact hs.aC k _ h0 v hv
  ·exact hs.aC k _ h0 v (by rw [h1]; exact hv)

/-! ### what one operation makes -/

def wS (P : Program) (f : FuncId) (vs : List V) (r : V) : Prop := aO P f vs r ∨ sI P f vs r
def Sa (P : Program) (f : FuncId) (vs : List V) (Q : V → Prop) : Prop := ∃ vs' r, cy [] vs = some vs' ∧ wS P f vs' r ∧ Q r

def rI (P : Program) (tt : Table) (o : Oper) (st : St) : Option V :=
 match o.op with
 | .build T parts => gZ P tt T parts.toList st.eval
 | .buildSlice T len parts => match pM tt T len parts.toList st.eval with
  | some (_, rs) => some (.slice rs)
  | none => none
 | _ => fO P tt st o
def mY (P : Program) (tt : Table) (o : Oper) (st : St) (Q : V → Prop) : Prop :=
 match o.op with
 | .call { callee := .value f, args := xs, .. } => match aX (st.eval f) (xs.toList.map st.eval) with
  | some (g, vs) => Sa P g vs Q
  | none => False
 | _ => match rI P tt o st with
  | some v => Q v
  | none => False
def Sb (P : Program) (f : FuncId) (vs : List V) (st : St) (dst : Option Tmp) (Q : St → Prop) : Prop := ∃ vs' r, cy [] vs = some vs' ∧ wS P f vs' r ∧ Q (st.put dst r)
def uM (P : Program) (tt : Table) (o : Oper) (uN st : St) (Q : St → Prop) : Prop :=
 match o.op with
 | .call { callee := .value f, args := xs, .. } => match aX (uN.eval f) (xs.toList.map uN.eval) with
  | some (g, vs) => Sb P g vs st o.dst Q
  | none => False
 | _ => match rI P tt o uN with
  | some v => Q (st.put o.dst v)
  | none => False
theorem rV {P : Program} {tt : Table} {o : Oper} {uN st : St} {Q : St → Prop} : uM P tt o uN st Q = mY P tt o uN fun v => Q (st.put o.dst v) := by
 unfold uM mY
 split <;> rfl
def ee (tt : Table) (o : Oper) (key : Nat) (st : St) : Option (aw × V) :=
 match o.op with
 | .alloc T => match tt T with
  | some i => some (.box (i.zero.map V.sc), .ptr key 0)
  | none => none
 | .box _ x => match fF (st.eval x) with
  | some cs => some (.box cs, .ptr key 0)
  | none => none
 | .buildSlice T len parts => match pM tt T len parts.toList st.eval with
  | some (size, rs) => some (.rows 0 size rs, .ms key 0 0 len)
  | none => none
 | .makeMap _ none => some (.map [] 0, .mp key)
 | .makeSlice T l c => match qN tt T (st.eval l) (st.eval c) with
  | some (size, rs, _) => some (.rows 0 size rs, .ms key 0 0 rs.length)
  | none => none
 | _ => none
def oO (P : Program) (tt : Table) (key : Nat) (o : Oper) (st : St) : Option (List aw × V) :=
 match o.op with
 | .store T p x => match gY tt st.mem T (st.eval p) (st.eval x) with
  | some aE => some (aE, .sc undef)
  | none => none
 | .call { callee := .builtin .append, args := xs, argTypes := ts } => match xs.toList.map st.eval with
  | [s, x] => match dv tt st.mem ts.toList s x with
   | some (size, nt, rows) => some (cu st.mem key size rows nt)
   | none => none
  | _ => none
 | .mapUpdate T m k x => match ch P st.mem T (st.eval m) (st.eval k) (st.eval x) with
  | some aE => some (aE, .sc undef)
  | none => none
 | .insert T m k x => match ch P st.mem T (st.eval m) (st.eval k) (st.eval x) with
  | some aE => some (aE, .sc undef)
  | none => none
 | _ => none
def rJ (tt : Table) (key : Nat) (o : Oper) (st : St) : Option (List aw) :=
 match o.op with
 | .store T p x => match st.eval p with
  | .ptr b off => if b = key then gY tt st.mem T (.ptr key off) (st.eval x) else none
  | _ => none
 | _ => none
def isHole (mem : List aw) (k : Nat) : Bool := match mem[k]? with | some .hole => true | _ => false
theorem gi {mem : List aw} {k : Nat} : isHole mem k = true ↔ mem[k]? = some .hole := by
 unfold isHole
 split
 ·rename_i h; simp [h]
 ·rename_i h; simp; exact fun e => h e

def sO (P : Program) (f : FuncId) (vs : List V) (e : Nat) (rs : List V) : Prop := ∃ v, aR P f vs [] (.ms 0 v 0 rs.length) [.rows v e rs]
def k7 (P : Program) (o : Oper) (ev : Operand → V) (Q : Nat → List V → Prop) : Prop :=
 match o.op with
 | .call { callee := .value f, args := xs, .. } => match aX (ev f) (xs.toList.map ev) with
  | some (g, vs) => ∃ vs' e rs, cy [] vs = some vs' ∧ sO P g vs' e rs ∧ Q e rs
  | none => False
 | _ => False
theorem ir {P : Program} {o : Oper} {ev : Operand → V} {Q : Nat → List V → Prop} : k7 P o ev Q ↔ ∃ e rs, k7 P o ev (fun e' rs' => e' = e ∧ rs' = rs) ∧ Q e rs := by
 unfold k7
 split
 ·split
  ·constructor
   ·rintro ⟨vs', e, rs, h1, h2, h3⟩; exact ⟨e, rs, ⟨vs', e, rs, h1, h2, rfl, rfl⟩, h3⟩
   ·rintro ⟨e, rs, ⟨vs', e', rs', h1, h2, h3, h4⟩, h5⟩; subst h3; subst h4; exact ⟨vs', _, _, h1, h2, h5⟩
  ·exact ⟨fun h => h.elim, fun ⟨_, _, h, _⟩ => h⟩
 ·exact ⟨fun h => h.elim, fun ⟨_, _, h, _⟩ => h⟩
def sP (st : St) (key : Nat) (dst : Option Tmp) (e : Nat) (rs : List V) : St := { st with mem := st.mem.set key (.rows 0 e rs) }.put dst (.ms key 0 0 rs.length)
def Sc (P : Program) (f : FuncId) (vs : List V) (st : St) (key : Nat) (dst : Option Tmp) (Q : St → Prop) : Prop := ∃ vs' e rs, cy [] vs = some vs' ∧ sO P f vs' e rs ∧ Q (sP st key dst e rs)
def nO (P : Program) (o : Oper) (key : Nat) (st : St) (Q : St → Prop) : Prop :=
 match o.op with
 | .call { callee := .value f, args := xs, .. } => match aX (st.eval f) (xs.toList.map st.eval) with
  | some (g, vs) => Sc P g vs st key o.dst Q
  | none => False
 | _ => False
theorem vi {P : Program} {o : Oper} {key : Nat} {st : St} {Q : St → Prop} : nO P o key st Q = k7 P o st.eval fun e rs => Q (sP st key o.dst e rs) := by
 unfold nO k7
 split <;> rfl
def cV : aw → aw
 | .box cs => .box cs
 | _ => .dead
def k8 (tt : Table) (o : Oper) (st : St) : Option V :=
 match o.op with
 | .load T x => kW tt (st.mem.map cV) T (st.eval x)
 | _ => none
def isApp (o : Oper) : Bool := match o.op with | .call { callee := .builtin .append, .. } => true | _ => false
def De (o : Oper) : Bool := match o.op with | .alloc _ => false | .box _ _ => false | _ => true
theorem EH {P : Program} {tt : Table} {o : Oper} {st : St} {v : V} (h : k8 tt o st = some v) : fO P tt st o = some v := by
 unfold k8 at h
 split at h
 ·rename_i T x ho
  unfold fO
  rw [ho]
  dsimp only
  unfold kW at h ⊢
  split
  ·rename_i b off he
   rw [he] at h
   dsimp only at h
   rw [List.getElem?_map] at h
   cases hb : st.mem[b]? with
   | none => rw [hb] at h; simp at h
   | some B =>
    rw [hb] at h
    cases B <;> simp [cV] at h <;> exact h
  ·rename_i b aC i off he
   rw [he] at h
   dsimp only at h
   have : rowOf (st.mem.map cV) b aC i = none := by
    unfold rowOf
    rw [List.getElem?_map]
    cases hb : st.mem[b]? with
    | none => rfl
    | some B => cases B <;> rfl
   rw [this] at h; cases h
  ·rename_i cs he
   rw [he] at h; exact h
  ·rename_i h1 h2 h3
   split at h
   ·rename_i he; exact absurd he (h1 _ _)
   ·rename_i he; exact absurd he (h2 _ _ _ _)
   ·rename_i he; exact absurd he (h3 _)
   ·cases h
 ·cases h
theorem yJ {tt : Table} {mem : List aw} {ts : List TypeId} {s x : V} {size b aC : Nat} {rows : List V} (h : dv tt mem ts s x = some (size, some (b, aC), rows)) : ∃ e rs, mem[b]? = some (.rows aC e rs) := by
 have hl : ∀ {sz : Nat} {rs : List V}, lB mem sz s = some (some (b, aC), rs) → ∃ e rs, mem[b]? = some (.rows aC e rs) := fun {sz rs} h => by
  unfold lB at h
  split at h
  ·cases h
  ·split at h <;> cases h
  ·split at h
   ·rename_i v' e rs' hb
    split at h
    ·rename_i hc
     simp only [Option.some.injEq,Prod.mk.injEq] at h
     obtain ⟨⟨rfl, rfl⟩, rfl⟩ := h
     exact ⟨_, _, by rw [hb, hc.1]⟩
    ·cases h
   ·cases h
  ·cases h
 unfold dv at h
 split at h
 ·split at h
  ·split at h
   ·split at h
    ·split at h
     ·split at h
      ·split at h
       ·rename_i nt rs VW
        split at h
        ·split at h
         ·split at h
          case isFalse => cases h
          simp only [Option.some.injEq,Prod.mk.injEq] at h
          obtain ⟨-, rfl, -⟩ := h
          exact hl VW
         ·cases h
        ·cases h
       ·cases h
      ·cases h
     ·cases h
    ·cases h
   ·cases h
  ·cases h
 ·cases h
theorem GQ {P : Program} {tt : Table} {key : Nat} {o : Oper} {st : St} {m : List aw} {v : V} (ha : isApp o = true) (hh : st.mem[key]? = some .hole) (h : oO P tt key o st = some (m, v)) : m.map cV = st.mem.map cV := by
 have yD : ∀ (k : Nat) (B0 B : aw), st.mem[k]? = some B0 → cV B = cV B0 → (st.mem.set k B).map cV = st.mem.map cV := fun k B0 B h0 hB => by
  apply List.ext_getElem?
  intro q
  rw [List.getElem?_map, List.getElem?_map, List.getElem?_set]
  split
  ·rename_i hq; subst hq
   rw [if_pos (List.getElem?_eq_some_iff.1 h0).1, h0, Option.map_some, Option.map_some, hB]
  ·rfl
 unfold isApp at ha
 split at ha
 ·rename_i ho
  unfold oO at h
  rw [ho] at h
  dsimp only at h
  split at h
  ·split at h
   ·rename_i size nt rows VX
    simp only [Option.some.injEq] at h
    cases nt with
    | none =>
     simp only [cu,Prod.mk.injEq] at h
     obtain ⟨rfl, -⟩ := h
     unfold ba
     rw [if_pos (List.getElem?_eq_some_iff.1 hh).1]
     exact yD _ _ _ hh rfl
    | some p =>
     obtain ⟨b, aC⟩ := p
     simp only [cu,Prod.mk.injEq] at h
     obtain ⟨rfl, -⟩ := h
     have hb : ∃ e rs, st.mem[b]? = some (.rows aC e rs) := by
      exact yJ VX
     obtain ⟨e, rs, hb⟩ := hb
     exact yD _ _ _ hb rfl
   ·cases h
  ·cases h
 ·cases ha
def lM (P : Program) (o : Oper) (st : St) (Q : St → Prop) : Prop :=
 match o.op with
 | .call { callee := .value f, args := xs, .. } => match aX (st.eval f) (xs.toList.map st.eval) with
  | some (g, vs) => ∃ vs' r, cy st.mem vs = some vs' ∧ aO P g vs' r ∧ Q ({ st with mem := cp st.mem (vs.flatMap cn) r }.put o.dst r)
  | none => False
 | _ => False
theorem sQ {P : Program} {o : Oper} {st : St} {K K' : St → Prop} (h : lM P o st K) (hk : ∀ s, K s → K' s) : lM P o st K' := by
 unfold lM at h ⊢
 split at h
 ·split at h
  ·obtain ⟨vs', r, h1, h2, h3⟩ := h
   exact ⟨vs', r, h1, h2, hk _ h3⟩
  ·exact h.elim
 ·exact h.elim
def Bd (P : Program) (g : FuncId) (vs : List V) (k : Nat) (st : St) (dst : Option Tmp) (Q : St → Prop) : Prop :=
 ∃ v B0 B, B0.aC = 0 ∧ B.aC = 0 ∧ st.mem[k]? = some B0 ∧ (∀ mem : List aw, mem[k]? = some B0 → aR P g vs mem v (mem.set k B)) ∧ Q ({ st with mem := st.mem.set k B }.put dst v)
def vj (P : Program) (o : Oper) (k : Nat) (st : St) (Q : St → Prop) : Prop :=
 match o.op with
 | .call { callee := .value f, args := xs, .. } => match aX (st.eval f) (xs.toList.map st.eval) with
  | some (g, vs) => Bd P g vs k st o.dst Q
  | none => False
 | _ => False
def uO (P : Program) (o : Oper) (k : Nat) (st : St) (v : V) (m : List aw) : Prop :=
 match o.op with
 | .call { callee := .value f, args := xs, .. } => match aX (st.eval f) (xs.toList.map st.eval) with
  | some (g, vs) => ∃ B0 B, B0.aC = 0 ∧ B.aC = 0 ∧ st.mem[k]? = some B0 ∧ (∀ mem : List aw, mem[k]? = some B0 → aR P g vs mem v (mem.set k B)) ∧ m = st.mem.set k B
  | none => False
 | _ => False
theorem EI {P : Program} {o : Oper} {k : Nat} {st : St} {Q : St → Prop} : vj P o k st Q ↔ ∃ v m, uO P o k st v m ∧ Q ({ st with mem := m }.put o.dst v) := by
 unfold vj uO
 split
 ·split
  ·constructor
   ·rintro ⟨v, B0, B, h1, h2, h3, h4, h5⟩; exact ⟨v, _, ⟨B0, B, h1, h2, h3, h4, rfl⟩, h5⟩
   ·rintro ⟨v, m, ⟨B0, B, h1, h2, h3, h4, rfl⟩, h5⟩; exact ⟨v, B0, B, h1, h2, h3, h4, h5⟩
  ·exact ⟨fun h => h.elim, fun ⟨_, _, h, _⟩ => h.elim⟩
 ·exact ⟨fun h => h.elim, fun ⟨_, _, h, _⟩ => h.elim⟩
theorem Be {P : Program} {o : Oper} {k : Nat} {st st' : St} {v : V} {m : List aw} (h : ∀ x ∈ o.op.operands, st.eval x = st'.eval x) (hm : st.mem = st'.mem) : uO P o k st v m = uO P o k st' v m := by
 unfold uO
 split
 ·rename_i f xs ts heq
  rw [heq] at h
  have js : xs.toList.map st.eval = xs.toList.map st'.eval := List.map_congr_left fun x hx => h x (by simp [Op.operands, Call.operands]; exact .inr (by simpa using hx))
  have hf : st.eval f = st'.eval f := h f (by simp [Op.operands, Call.operands])
  rw [js, hf, hm]
 ·rfl
theorem GR {P : Program} {o : Oper} {k : Nat} {st : St} {v : V} {m : List aw} (h : uO P o k st v m) : ∃ B0 B : aw, B0.aC = 0 ∧ B.aC = 0 ∧ st.mem[k]? = some B0 ∧ m = st.mem.set k B ∧ ∀ mem : List aw, mem[k]? = some B0 → uO P o k { st with mem := mem } v (mem.set k B) := by
 have ev : ∀ (mem : List aw), St.eval { st with mem := mem } = st.eval := fun mem => funext fun x => by cases x <;> rfl
 unfold uO at h
 split at h
 ·rename_i f xs ts heq
  split at h
  ·rename_i g vs hg
   obtain ⟨B0, B, h1, h2, h3, h4, h5⟩ := h
   refine ⟨B0, B, h1, h2, h3, h5, fun mem hm => ?_⟩
   unfold uO
   simp only [heq,ev,hg]
   exact ⟨B0, B, h1, h2, hm, h4, rfl⟩
  ·exact h.elim
 ·exact h.elim
def dz (P : Program) (tt : Table) (all : Array Oper) (base : Nat) (o : Oper) (p : Pl) (st : St) (Q : St → Prop) : Prop :=
 match cj all st.fr o with
 | some true => match p.cls with
  | .n => uM P tt o { st with mem := [] } st Q
  | .r => uM P tt o { st with mem := dk (p.mask.map (base + ·) ++ p.abs) st.mem } st Q
  | .a => isHole st.mem (base + p.key) = true ∧ match ee tt o (base + p.key) st with
   | some (B, v) => Q ({ st with mem := st.mem.set (base + p.key) B }.put o.dst v)
   | none => nO P o (base + p.key) st Q
  | .w => isHole st.mem (base + p.key) = true ∧ match oO P tt (base + p.key) o st with
   | some (m, v) => Q ({ st with mem := m }.put o.dst v)
   | none => False
  | .s => match rJ tt (base + p.key) o st with
   | some m => Q ({ st with mem := m }.put o.dst (.sc undef))
   | none => False
  | .b => match k8 tt o st with
   | some v => Q (st.put o.dst v)
   | none => False
  | .z => lM P o st Q
  | .e => vj P o p.key st Q
 | some false => Q (st.put o.dst (.sc undef))
 | none => False

def lf (P : Program) (tt : Table) (all : Array Oper) (base : Nat) (o : Oper) (p : Pl) (st : St) (v : V) (m : List aw) : Prop :=
 match cj all st.fr o with
 | some true => match p.cls with
  | .n => mY P tt o { st with mem := [] } (fun u => u = v) ∧ m = st.mem
  | .r => mY P tt o { st with mem := dk (p.mask.map (base + ·) ++ p.abs) st.mem } (fun u => u = v) ∧ m = st.mem
  | .a => isHole st.mem (base + p.key) = true ∧ ∃ B, (ee tt o (base + p.key) st = some (B, v) ∨ ee tt o (base + p.key) st = none ∧ k7 P o st.eval (fun e rs => B = .rows 0 e rs ∧ v = .ms (base + p.key) 0 0 rs.length)) ∧ m = st.mem.set (base + p.key) B
  | .w => isHole st.mem (base + p.key) = true ∧ oO P tt (base + p.key) o st = some (m, v)
  | .s => v = .sc undef ∧ rJ tt (base + p.key) o st = some m
  | .b => k8 tt o st = some v ∧ m = st.mem
  | .z => False
  | .e => uO P o p.key st v m
 | some false => v = .sc undef ∧ m = st.mem
 | none => False

theorem yK {P : Program} {tt : Table} {o : Oper} {st : St} {Q : V → Prop} : mY P tt o st Q ↔ ∃ v, mY P tt o st (fun u => u = v) ∧ Q v := by
 unfold mY
 split
 ·split
  ·constructor
   ·rintro ⟨vs', r, h1, h2, h3⟩; exact ⟨r, ⟨vs', r, h1, h2, rfl⟩, h3⟩
   ·rintro ⟨v, ⟨vs', r, h1, h2, rfl⟩, h3⟩; exact ⟨vs', r, h1, h2, h3⟩
  ·exact ⟨fun h => h.elim, fun ⟨_, h, _⟩ => h⟩
 ·split
  ·exact ⟨fun h => ⟨_, rfl, h⟩, fun ⟨_, h, hq⟩ => by subst h; exact hq⟩
  ·exact ⟨fun h => h.elim, fun ⟨_, h, _⟩ => h⟩

theorem dY {P : Program} {tt : Table} {all : Array Oper} {base : Nat} {o : Oper} {p : Pl} {st : St} {Q : St → Prop} (hz : p.cls ≠ .z) :
  dz P tt all base o p st Q ↔ ∃ v m, lf P tt all base o p st v m ∧ Q ({ st with mem := m }.put o.dst v) := by
 unfold dz lf
 split
 ·split
  ·rw [rV, yK]; exact ⟨fun ⟨v, h1, h2⟩ => ⟨v, st.mem, ⟨h1, rfl⟩, h2⟩, fun ⟨v, m, ⟨h1, h2⟩, h3⟩ => ⟨v, h1, by subst h2; exact h3⟩⟩
  ·rw [rV, yK]; exact ⟨fun ⟨v, h1, h2⟩ => ⟨v, st.mem, ⟨h1, rfl⟩, h2⟩, fun ⟨v, m, ⟨h1, h2⟩, h3⟩ => ⟨v, h1, by subst h2; exact h3⟩⟩
  ·split
   ·rename_i B v hb
    refine ⟨fun ⟨h1, h2⟩ => ⟨v, _, ⟨h1, B, .inl hb, rfl⟩, h2⟩, fun ⟨u, m, ⟨h1, B', h2, h3⟩, h4⟩ => ?_⟩
    rcases h2 with h2 | ⟨h2, -⟩
    ·rw [hb] at h2; cases h2; subst h3; exact ⟨h1, h4⟩
    ·rw [hb] at h2; cases h2
   ·rename_i hb
    rw [vi]
    constructor
    ·rintro ⟨h1, h2⟩
     obtain ⟨e, rs, h3, h4⟩ := ir.1 h2
     exact ⟨_, _, ⟨h1, .rows 0 e rs, .inr ⟨hb, ir.2 ⟨e, rs, h3, rfl, rfl⟩⟩, rfl⟩, h4⟩
    ·rintro ⟨u, m, ⟨h1, B', h2, h3⟩, h4⟩
     rcases h2 with h2 | ⟨-, h2⟩
     ·rw [hb] at h2; cases h2
     ·obtain ⟨e, rs, h5, h6, h7⟩ := ir.1 h2
      subst h6; subst h7; subst h3
      exact ⟨h1, ir.2 ⟨e, rs, h5, h4⟩⟩
  ·split
   ·rename_i m v hb; exact ⟨fun ⟨h1, h2⟩ => ⟨v, m, ⟨h1, hb⟩, h2⟩, fun ⟨u, m', ⟨h1, h2⟩, h4⟩ => by rw [hb] at h2; cases h2; exact ⟨h1, h4⟩⟩
   ·rename_i hb; exact ⟨fun h => h.2.elim, fun ⟨_, _, ⟨_, h⟩, _⟩ => by rw [hb] at h; cases h⟩
  ·split
   ·rename_i m hb; exact ⟨fun h => ⟨_, m, ⟨rfl, hb⟩, h⟩, fun ⟨u, m', ⟨h1, h2⟩, h4⟩ => by rw [hb] at h2; cases h2; subst h1; exact h4⟩
   ·rename_i hb; exact ⟨fun h => h.elim, fun ⟨_, _, ⟨_, h⟩, _⟩ => by rw [hb] at h; cases h⟩
  ·split
   ·rename_i v hb; exact ⟨fun h => ⟨v, st.mem, ⟨hb, rfl⟩, h⟩, fun ⟨u, m', ⟨h1, h2⟩, h4⟩ => by rw [hb] at h1; cases h1; subst h2; exact h4⟩
   ·rename_i hb; exact ⟨fun h => h.elim, fun ⟨_, _, ⟨h, _⟩, _⟩ => by rw [hb] at h; cases h⟩
  ·rename_i hc; exact absurd hc hz
  ·exact EI
 ·exact ⟨fun h => ⟨_, _, ⟨rfl, rfl⟩, h⟩, fun ⟨v, m, ⟨h1, h2⟩, h3⟩ => by subst h1; subst h2; exact h3⟩
 ·exact ⟨fun h => h.elim, fun ⟨_, _, h, _⟩ => h⟩

/-! ### what an operation looks at -/

theorem dZ {ρ ρ' : Operand → V} {xs : Array Operand} (h : ∀ x ∈ xs, ρ x = ρ' x) : xs.toList.map ρ = xs.toList.map ρ' :=
 List.map_congr_left fun x hx => h x (by simpa using hx)
theorem qT {bx : List (Nat × Nat)} {ρ ρ' : Operand → V} : ∀ {ps : List (Nat × Operand)} {cs : List V}, (∀ p ∈ ps, ρ p.2 = ρ' p.2) → oH bx ρ ps cs = oH bx ρ' ps cs
 | [], cs, _ => rfl
 | (i, x) :: r, cs, h => by
  simp only [oH,h (i,x) (by simp)]
  split
  ·split
   ·split
    ·exact qT fun p hp => h p (by simp [hp])
    ·rfl
   ·rfl
  ·rfl
theorem lN {ρ ρ' : Operand → V} : ∀ {ps : List (Nat × Operand)}, (∀ p ∈ ps, ρ p.2 = ρ' p.2) → gO ρ ps = gO ρ' ps
 | [], _ => rfl
 | (i, x) :: r, h => by
  simp only [gO,h (i,x) (by simp)]
  rw [lN fun p hp => h p (by simp [hp])]
theorem wT {P : Program} {tt : Table} {T : TypeId} {ρ ρ' : Operand → V} {ps : List (Nat × Operand)} (h : ∀ p ∈ ps, ρ p.2 = ρ' p.2) : gZ P tt T ps ρ = gZ P tt T ps ρ' := by
 unfold gZ
 split
 ·rw [qT h, lN h]
 ·rfl
theorem sR {tt : Table} {T : TypeId} {len : Nat} {ρ ρ' : Operand → V} {ps : List (Nat × Operand)} (h : ∀ p ∈ ps, ρ p.2 = ρ' p.2) : pM tt T len ps ρ = pM tt T len ps ρ' := by
 unfold pM
 have : (ps.map fun p => ρ p.2) = ps.map fun p => ρ' p.2 := List.map_congr_left h
 rw [this]

theorem EJ {P : Program} {tt : Table} {o : Oper} {st st' : St} (h : ∀ x ∈ o.op.operands, st.eval x = st'.eval x) (hm : st.mem = st'.mem) : fO P tt st o = fO P tt st' o := by
 obtain ⟨dst, op, type, pos, after, guard⟩ := o
 cases op <;> simp only [Op.operands] at h <;> try rfl
 case slice T x lo hi mx =>
  cases mx <;> cases lo <;> cases hi <;> try rfl
  all_goals (simp only [fO]; simp_all)
 case makeFunc fn first captured =>
  simp only [fO]
  rw [dZ (xs := first) fun x hx => h x (by simp [hx]), dZ (xs := captured) fun x hx => h x (by simp [hx])]
 case call c =>
  obtain ⟨callee, args, ts⟩ := c
  have js : args.toList.map st.eval = args.toList.map st'.eval := dZ fun x hx => h x (by simp [Call.operands, hx])
  cases callee with
  | builtin b => cases b <;> simp only [fO,js,hm]
  | _ => rfl
 all_goals (simp only [fO]; simp_all)
theorem Bf {P : Program} {tt : Table} {o : Oper} {st st' : St} (h : ∀ x ∈ o.op.operands, st.eval x = st'.eval x) (hm : st.mem = st'.mem) : rI P tt o st = rI P tt o st' := by
 have h0 := EJ (P := P) (tt := tt) h hm
 obtain ⟨dst, op, type, pos, after, guard⟩ := o
 cases op <;> try exact h0
 case build T ps => exact wT fun p hp => h p.2 (by simp only [Op.operands]; simpa using ⟨p.1, by simpa using hp⟩)
 case buildSlice T len ps =>
  simp only [rI]
  rw [sR fun p hp => h p.2 (by simp only [Op.operands]; simpa using ⟨p.1, by simpa using hp⟩)]
theorem sS {P : Program} {tt : Table} {o : Oper} {st st' : St} {Q : V → Prop} (h : ∀ x ∈ o.op.operands, st.eval x = st'.eval x) (hm : st.mem = st'.mem) : mY P tt o st Q = mY P tt o st' Q := by
 have h0 := Bf (P := P) (tt := tt) h hm
 unfold mY
 rw [h0]
 split
 ·rename_i f xs ts heq
  rw [heq] at h
  have js : xs.toList.map st.eval = xs.toList.map st'.eval := dZ fun x hx => h x (by simp [Op.operands, Call.operands, hx])
  have hf : st.eval f = st'.eval f := h f (by simp [Op.operands, Call.operands])
  rw [js, hf]
 ·rfl
theorem oP {tt : Table} {o : Oper} {key : Nat} {st st' : St} (h : ∀ x ∈ o.op.operands, st.eval x = st'.eval x) : ee tt o key st = ee tt o key st' := by
 obtain ⟨dst, op, type, pos, after, guard⟩ := o
 cases op <;> try rfl
 case makeMap t r => cases r <;> rfl
 case makeSlice t l c => simp only [ee]; rw [h l (by simp [Op.operands]), h c (by simp [Op.operands])]
 case box T x => simp only [ee]; rw [h x (by simp [Op.operands])]
 case buildSlice T len ps =>
  simp only [ee]
  rw [sR fun p hp => h p.2 (by simp only [Op.operands]; simpa using ⟨p.1, by simpa using hp⟩)]
theorem qU {P : Program} {o : Oper} {ρ ρ' : Operand → V} {Q : Nat → List V → Prop} (h : ∀ x ∈ o.op.operands, ρ x = ρ' x) : k7 P o ρ Q = k7 P o ρ' Q := by
 unfold k7
 split
 ·rename_i f xs ts heq
  rw [heq] at h
  have js : xs.toList.map ρ = xs.toList.map ρ' := dZ fun x hx => h x (by simp [Op.operands, Call.operands, hx])
  have hf : ρ f = ρ' f := h f (by simp [Op.operands, Call.operands])
  rw [js, hf]
 ·rfl
theorem Bg {P : Program} {tt : Table} {o : Oper} {key : Nat} {st st' : St} (h : ∀ x ∈ o.op.operands, st.eval x = st'.eval x) (hm : st.mem = st'.mem) : oO P tt key o st = oO P tt key o st' := by
 obtain ⟨dst, op, type, pos, after, guard⟩ := o
 cases op <;> try rfl
 case store T p x => simp only [oO,hm]; rw [h p (by simp [Op.operands]), h x (by simp [Op.operands])]
 case mapUpdate T m k x => simp only [oO,hm]; rw [h m (by simp [Op.operands]), h k (by simp [Op.operands]), h x (by simp [Op.operands])]
 case insert T m k x => simp only [oO,hm]; rw [h m (by simp [Op.operands]), h k (by simp [Op.operands]), h x (by simp [Op.operands])]
 case call c =>
  obtain ⟨callee, args, ts⟩ := c
  have js : args.toList.map st.eval = args.toList.map st'.eval := dZ fun x hx => h x (by simp [Op.operands, Call.operands, hx])
  cases callee with
  | builtin b => cases b <;> simp only [oO,js,hm]
  | _ => rfl

theorem Bh {tt : Table} {o : Oper} {key : Nat} {st st' : St} (h : ∀ x ∈ o.op.operands, st.eval x = st'.eval x) (hm : st.mem = st'.mem) : rJ tt key o st = rJ tt key o st' := by
 obtain ⟨dst, op, type, pos, after, guard⟩ := o
 cases op <;> try rfl
 case store T p x => simp only [rJ,hm]; rw [h p (by simp [Op.operands]), h x (by simp [Op.operands])]
theorem GU {tt : Table} {o : Oper} {key : Nat} {st : St} {m : List aw} (h : rJ tt key o st = some m) :
  ∃ B0 B : aw, B0.aC = 0 ∧ B.aC = 0 ∧ st.mem[key]? = some B0 ∧ m = st.mem.set key B ∧ ∀ mem : List aw, mem[key]? = some B0 → rJ tt key o { st with mem := mem } = some (mem.set key B) := by
 have ev : ∀ (mem : List aw) (x : Operand), St.eval { st with mem := mem } x = st.eval x := fun mem x => by cases x <;> rfl
 unfold rJ at h ⊢
 obtain ⟨dst, op, type, pos, after, guard⟩ := o
 cases op <;> try (cases h)
 case store T p x =>
  simp only [ev]
  dsimp only at h
  split at h
  ·rename_i b off hp
   split at h
   ·rename_i hb
    subst hb
    unfold gY at h
    split at h
    ·cases h
    ·rename_i new hn
     split at h
     ·rename_i jH
      dsimp only at h
      split at h
      ·rename_i cs rA
       split at h
       ·rename_i hle
        cases h
        refine ⟨.box cs, .box (cB cs off new), rfl, rfl, rA, rfl, fun mem hm => ?_⟩
        simp only [hp,if_true]
        unfold gY
        simp only [hn,jH,if_true,hm,hle]
       ·cases h
      ·cases h
     ·cases h
   ·cases h
  ·cases h

theorem eval_put {st : St} {dst : Option Tmp} {v : V} {x : Operand} (h : ∀ d, dst = some d → x ≠ .tmp d) : (st.put dst v).eval x = st.eval x := by
 cases dst with
 | none => rfl
 | some d =>
  cases x with
  | tmp t =>
   have bH : d ≠ t := fun e => h d rfl (e ▸ rfl)
   simp [St.eval, St.put, List.getD, List.getElem?_set_ne bH]
  | _ => rfl
theorem Km (st : St) (dst : Option Tmp) (v : V) : (st.put dst v).mem = st.mem := by cases dst <;> rfl
theorem uP {all : Array Oper} {o : Oper} {d : Tmp} (h : d ∉ o.looksAt all) : ∀ x ∈ o.op.operands, x ≠ .tmp d := by
 rintro x hx rfl
 exact h (by unfold Oper.looksAt; exact List.mem_append_left _ (List.mem_filterMap.2 ⟨.tmp d, by simpa using hx, rfl⟩))
theorem yL {all : Array Oper} {o : Oper} {st : St} {dst : Option Tmp} {v : V} (h : ∀ d, dst = some d → d ∉ o.looksAt all) : cj all (st.put dst v).fr o = cj all st.fr o := by
 cases dst with
 | none => rfl
 | some d =>
  have hd := h d rfl
  unfold cj
  split
  ·rfl
  ·rename_i j want hg
   split
   ·rfl
   ·rename_i e he
    have bH : d ≠ e := by
     rintro rfl
     exact hd (by unfold Oper.looksAt; exact List.mem_append_right _ (by rw [hg]; simp only []; rw [he]; simp))
    simp only [St.put,List.getElem?_set_ne bH]

section
variable {P : Program} {tt : Table} {all : Array Oper} {base : Nat}
theorem yM {o : Oper} {st st' : St} (h : ∀ x ∈ o.op.operands, st.eval x = st'.eval x) (hm : st.mem = st'.mem) : k8 tt o st = k8 tt o st' := by
 unfold k8
 split
 ·rename_i T x ho
  rw [hm, h x (by rw [ho]; simp [Op.operands])]
 ·rfl
theorem EK {o : Oper} {p : Pl} {st st' : St} {v : V} {m : List aw} (hw : cj all st.fr o = cj all st'.fr o) (h : ∀ x ∈ o.op.operands, st.eval x = st'.eval x) (hm : st.mem = st'.mem) :
  lf P tt all base o p st v m = lf P tt all base o p st' v m := by
 have e1 : ∀ (mem : List aw) (x : Operand), St.eval { st with mem := mem } x = st.eval x := fun mem x => by cases x <;> rfl
 have e2 : ∀ (mem : List aw) (x : Operand), St.eval { st' with mem := mem } x = st'.eval x := fun mem x => by cases x <;> rfl
 unfold lf
 rw [hw, oP h, Bg h hm, Bh h hm, yM h hm, Be h hm, hm]
 simp only [qU h]
 rw [sS (st := { st with mem := [] }) (st' := { st' with mem := [] }) (fun x hx => by rw [e1, e2]; exact h x hx) rfl,
  sS (st := { st with mem := dk (p.mask.map (base + ·) ++ p.abs) st'.mem }) (st' := { st' with mem := dk (p.mask.map (base + ·) ++ p.abs) st'.mem }) (fun x hx => by rw [e1, e2]; exact h x hx) rfl]
theorem Df {o : Oper} {p : Pl} {st : St} {dst : Option Tmp} {u v : V} {m : List aw} (h : ∀ d, dst = some d → d ∉ o.looksAt all) : lf P tt all base o p (st.put dst u) v m = lf P tt all base o p st v m :=
 EK (yL h) (fun x hx => eval_put fun d hd => uP (h d hd) x hx) (Km _ _ _)

def pV (all : Array Oper) (x : Oper) (px : Pl) (y : Oper) (py : Pl) : Bool :=
 px.cls != .z && py.cls != .z && x.apart all y && (px.cls == .n || py.cls == .n || (px.cls == .r && py.cls == .r) || ((px.cls == .a || px.cls == .s) && py.cls == .r && py.mask.contains px.key) || (px.cls == .r && (py.cls == .a || py.cls == .s) && px.mask.contains py.key) || ((px.cls == .a || px.cls == .s) && (py.cls == .a || py.cls == .s) && px.key != py.key) || (px.cls == .b && (py.cls == .r || py.cls == .b || (py.cls == .w && isApp y) || (py.cls == .a && De y))) || (py.cls == .b && (px.cls == .r || (px.cls == .w && isApp x) || (px.cls == .a && De x))) || (px.cls == .e && py.cls == .r && py.abs.contains px.key) || (px.cls == .r && py.cls == .e && px.abs.contains py.key))

theorem Bi {o : Oper} {key : Nat} {st : St} {B : aw} {v : V} (h : ee tt o key st = some (B, v)) : B.aC = 0 := by
 unfold ee at h
 split at h
 ·split at h <;> cases h <;> rfl
 ·split at h <;> cases h <;> rfl
 ·split at h <;> cases h <;> rfl
 ·cases h; rfl
 ·split at h <;> cases h <;> rfl
 ·cases h

theorem pW {o : Oper} {p : Pl} (hp : p.cls = .n) {st : St} {v : V} {m : List aw} (h : lf P tt all base o p st v m) (mem : List aw) : m = st.mem ∧ lf P tt all base o p { st with mem := mem } v mem := by
 unfold lf at h ⊢
 dsimp only
 split at h
 ·rename_i hw
  rw [hp] at h
  simp only [hw,hp]
  exact ⟨h.2, h.1, trivial⟩
 ·rename_i hw; simp only [hw]; exact ⟨h.2, h.1, trivial⟩
 ·exact h.elim
theorem c8 {o : Oper} {p : Pl} (hp : p.cls = .r) {st : St} {v : V} {m : List aw} (h : lf P tt all base o p st v m) {mem : List aw} (hm : dk (p.mask.map (base + ·) ++ p.abs) mem = dk (p.mask.map (base + ·) ++ p.abs) st.mem) :
  m = st.mem ∧ lf P tt all base o p { st with mem := mem } v mem := by
 unfold lf at h ⊢
 dsimp only
 split at h
 ·rename_i hw
  rw [hp] at h
  simp only [hw,hp]
  exact ⟨h.2, by rw [hm]; exact h.1, trivial⟩
 ·rename_i hw; simp only [hw]; exact ⟨h.2, h.1, trivial⟩
 ·exact h.elim
theorem mz {o : Oper} {p : Pl} (hp : p.cls = .a ∨ p.cls = .s) {st : St} {v : V} {m : List aw} (h : lf P tt all base o p st v m) :
  (m = st.mem ∧ ∀ mem, lf P tt all base o p { st with mem := mem } v mem) ∨
  ∃ B0 B : aw, B0.aC = 0 ∧ B.aC = 0 ∧ st.mem[base + p.key]? = some B0 ∧ m = st.mem.set (base + p.key) B ∧ ∀ mem : List aw, mem[base + p.key]? = some B0 → lf P tt all base o p { st with mem := mem } v (mem.set (base + p.key) B) := by
 unfold lf at h
 split at h
 ·rename_i hw
  rcases hp with hp | hp
  ·rw [hp] at h
   obtain ⟨h1, B, h2, h3⟩ := h
   have RG : B.aC = 0 := by
    rcases h2 with h2 | ⟨-, h2⟩
    ·exact Bi h2
    ·obtain ⟨e, rs, -, h5, -⟩ := ir.1 h2
     rw [h5]; rfl
   refine .inr ⟨.hole, B, rfl, RG, gi.1 h1, h3, fun mem hm => ?_⟩
   unfold lf
   simp only [hw,hp]
   refine ⟨gi.2 hm, B, ?_, rfl⟩
   have e0 : ee tt o (base + p.key) { st with mem := mem } = ee tt o (base + p.key) st := oP fun x _ => by cases x <;> rfl
   rw [e0]
   have e1 : ∀ Q, k7 P o (St.eval { st with mem := mem }) Q = k7 P o st.eval Q := fun Q => qU fun x _ => by cases x <;> rfl
   rw [e1]
   exact h2
  ·rw [hp] at h
   obtain ⟨h1, h2⟩ := h
   obtain ⟨B0, B, h3, h4, h5, h6, h7⟩ := GU h2
   refine .inr ⟨B0, B, h3, h4, h5, h6, fun mem hm => ?_⟩
   unfold lf
   simp only [hw,hp]
   exact ⟨h1, h7 mem hm⟩
 ·rename_i hw
  refine .inl ⟨h.2, fun mem => ?_⟩
  unfold lf
  simp only [hw]
  exact ⟨h.1, trivial⟩
 ·exact h.elim

theorem vk {o : Oper} {p : Pl} (hp : p.cls = .e) {st : St} {v : V} {m : List aw} (h : lf P tt all base o p st v m) :
  (m = st.mem ∧ ∀ mem, lf P tt all base o p { st with mem := mem } v mem) ∨
  ∃ B0 B : aw, B0.aC = 0 ∧ B.aC = 0 ∧ st.mem[p.key]? = some B0 ∧ m = st.mem.set p.key B ∧ ∀ mem : List aw, mem[p.key]? = some B0 → lf P tt all base o p { st with mem := mem } v (mem.set p.key B) := by
 unfold lf at h
 split at h
 ·rename_i hw
  rw [hp] at h
  obtain ⟨B0, B, h1, h2, h3, h4, h5⟩ := GR h
  refine .inr ⟨B0, B, h1, h2, h3, h4, fun mem hm => ?_⟩
  unfold lf
  simp only [hw,hp]
  exact h5 mem hm
 ·rename_i hw
  refine .inl ⟨h.2, fun mem => ?_⟩
  unfold lf
  simp only [hw]
  exact ⟨h.1, trivial⟩
 ·exact h.elim

theorem pX {o : Oper} {p : Pl} (hp : p.cls = .b) {st : St} {v : V} {m : List aw} (h : lf P tt all base o p st v m) :
  m = st.mem ∧ ∀ mem : List aw, mem.map cV = st.mem.map cV → lf P tt all base o p { st with mem := mem } v mem := by
 unfold lf at h ⊢
 dsimp only
 split at h
 ·rename_i hw
  rw [hp] at h
  simp only [hw,hp]
  refine ⟨h.2, fun mem hm => ⟨?_, trivial⟩⟩
  have h1 := h.1
  unfold k8 at h1 ⊢
  split at h1
  ·rename_i T x ho
   have e : St.eval { st with mem := mem } x = st.eval x := by cases x <;> rfl
   show kW tt (mem.map cV) T (St.eval { st with mem := mem } x) = some v
   rw [hm, e]; exact h1
  ·cases h1
 ·rename_i hw; simp only [hw]; exact ⟨h.2, fun _ _ => ⟨h.1, trivial⟩⟩
 ·exact h.elim
theorem vl {o : Oper} {p : Pl} (hp : p.cls = .w) (ha : isApp o = true) {st : St} {v : V} {m : List aw} (h : lf P tt all base o p st v m) : m.map cV = st.mem.map cV := by
 unfold lf at h
 split at h
 ·rw [hp] at h
  exact GQ ha (gi.1 h.1) h.2
 ·rw [h.2]
 ·exact h.elim
theorem sT {o : Oper} {p : Pl} (hp : p.cls = .a) (ha : De o = true) {st : St} {v : V} {m : List aw} (h : lf P tt all base o p st v m) : m.map cV = st.mem.map cV := by
 unfold lf at h
 split at h
 ·rw [hp] at h
  obtain ⟨h1, B, h2, rfl⟩ := h
  have hB : cV B = .dead := by
   rcases h2 with h2 | ⟨-, h2⟩
   ·unfold ee at h2
    unfold De at ha
    split at h2
    ·rename_i he; rw [he] at ha; cases ha
    ·rename_i he; rw [he] at ha; cases ha
    ·split at h2 <;> cases h2; rfl
    ·cases h2; rfl
    ·split at h2 <;> cases h2; rfl
    ·cases h2
   ·obtain ⟨e, rs, -, h5, -⟩ := ir.1 h2
    rw [h5]; rfl
  have hh := gi.1 h1
  apply List.ext_getElem?
  intro q
  rw [List.getElem?_map, List.getElem?_map, List.getElem?_set]
  split
  ·rename_i hq; subst hq
   rw [if_pos (List.getElem?_eq_some_iff.1 hh).1, hh, Option.map_some, Option.map_some, hB]; rfl
  ·rfl
 ·rw [h.2]
 ·exact h.elim
theorem St.put_comm (st : St) {x y : Option Tmp} (v u : V) (h : ∀ d, x = some d → y ≠ some d) : (st.put x v).put y u = (st.put y u).put x v := by
 cases x with
 | none => rfl
 | some d =>
  cases y with
  | none => rfl
  | some e =>
   have bH : d ≠ e := fun he => h d rfl (he ▸ rfl)
   simp [St.put, List.set_comm _ _ bH]
theorem yN (st : St) (x : Option Tmp) (v : V) (m : List aw) : { st.put x v with mem := m } = St.put { st with mem := m } x v := by cases x <;> rfl

theorem Bj {x y : Oper} {px py : Pl} (bK : pV all x px y py = true) {st : St} {Q : St → Prop} (h : dz P tt all base x px st fun st' => dz P tt all base y py st' Q) :
  dz P tt all base y py st fun st' => dz P tt all base x px st' Q := by
 unfold pV at bK
 rw [Bool.and_eq_true, Bool.and_eq_true, Bool.and_eq_true] at bK
 obtain ⟨⟨⟨UM, UN⟩, VX⟩, ko⟩ := bK
 have UM : px.cls ≠ .z := by simpa using UM
 have UN : py.cls ≠ .z := by simpa using UN
 obtain ⟨ZA, M3, VY⟩ := Oper.apart_spec VX
 obtain ⟨v, m1, h1, h2⟩ := (dY UM).1 h
 obtain ⟨u, m2, h3, h4⟩ := (dY UN).1 h2
 rw [Df ZA] at h3
 have fin : ∀ Sd , lf P tt all base y py st u Sd → lf P tt all base x px { st with mem := Sd } v m2 → dz P tt all base y py st fun st' => dz P tt all base x px st' Q := fun Sd h5 h6 => by
  refine (dY UN).2 ⟨u, Sd, h5, (dY UM).2 ⟨v, m2, by rw [Df VY]; exact h6, ?_⟩⟩
  have e1 : ({ (St.put { st with mem := m1 } x.dst v) with mem := m2 } : St).put y.dst u = ({ (St.put { st with mem := Sd } y.dst u) with mem := m2 } : St).put x.dst v := by
   rw [yN, yN]
   exact St.put_comm _ _ _ M3
  rw [← e1]; exact h4
 have back : ∀ (m : List aw) (z : Oper) (pz : Pl) (c : V) (m' : List aw), lf P tt all base z pz { ({ st with mem := m } : St) with mem := st.mem } c m' = lf P tt all base z pz st c m' := fun _ _ _ _ _ => rfl
 simp only [Bool.or_eq_true,Bool.and_eq_true,beq_iff_eq,bne_iff_ne] at ko
 rcases ko with ((((((((hn | hn) | ⟨hr, uu⟩) | ⟨⟨ha, hr⟩, hm⟩) | ⟨⟨hr, ha⟩, hm⟩) | ⟨⟨ha, Se⟩, bH⟩) | ⟨hb, hy⟩) | ⟨hb, hx⟩) | ⟨⟨he, hr⟩, hm⟩) | ⟨⟨hr, he⟩, hm⟩
 ·-- x JU not look
  obtain ⟨rfl, -⟩ := pW hn h1 []
  exact fin m2 h3 (pW hn h1 m2).2
 ·-- y JU not look
  obtain ⟨h5, h6⟩ := pW hn h3 st.mem
  dsimp only at h5; subst h5
  exact fin st.mem h6 h1
 ·obtain ⟨rfl, -⟩ := c8 hr h1 rfl
  obtain ⟨h5, h6⟩ := c8 uu h3 (mem := st.mem) rfl
  dsimp only at h5; subst h5
  exact fin st.mem h6 h1
 ·rcases mz ha h1 with ⟨rfl, -⟩ | ⟨B0, B, Ga, hv, hh, rfl, -⟩
  ·obtain ⟨h5, h6⟩ := c8 hr h3 (mem := st.mem) rfl
   dsimp only at h5; subst h5
   exact fin st.mem h6 h1
  ·have uK : dk (py.mask.map (base + ·) ++ py.abs) (st.mem.set (base + px.key) B) = dk (py.mask.map (base + ·) ++ py.abs) st.mem := my (List.mem_append_left _ (List.mem_map.2 ⟨_, by simpa using hm, rfl⟩)) hh Ga hv
   obtain ⟨h5, h6⟩ := c8 hr h3 (mem := st.mem) uK.symm
   dsimp only at h5; subst h5
   exact fin st.mem h6 h1
 ·obtain ⟨rfl, -⟩ := c8 hr h1 rfl
  rcases mz ha h3 with ⟨h5, h6⟩ | ⟨B0, B, Ga, hv, hh, h5, h6⟩
  ·dsimp only at h5; subst h5
   exact fin st.mem h3 h1
  ·dsimp only at h5 hh; subst h5
   have uK : dk (px.mask.map (base + ·) ++ px.abs) (st.mem.set (base + py.key) B) = dk (px.mask.map (base + ·) ++ px.abs) st.mem := my (List.mem_append_left _ (List.mem_map.2 ⟨_, by simpa using hm, rfl⟩)) hh Ga hv
   exact fin _ h3 (c8 hr h1 uK).2
 ·rcases mz ha h1 with ⟨rfl, hx⟩ | ⟨B0, B, Ga, hv, hh, rfl, hx⟩
  ·exact fin m2 h3 (hx m2)
  ·rcases mz Se h3 with ⟨h5, h6⟩ | ⟨rK, B', ZB, rz, JH, h5, h6⟩
   ·dsimp only at h5; subst h5
    exact fin st.mem (h6 st.mem) h1
   ·dsimp only at h5 JH; subst h5
    have Gk : base + px.key ≠ base + py.key := by omega
    rw [List.getElem?_set_ne Gk] at JH
    have h7 := h6 st.mem JH
    have h8 := hx (st.mem.set (base + py.key) B') (by rw [List.getElem?_set_ne (fun e => Gk e.symm)]; exact hh)
    refine fin _ h7 ?_
    rw [List.set_comm _ _ Gk]
    exact h8
 ·obtain ⟨rfl, h5⟩ := pX hb h1
  refine fin m2 h3 (h5 m2 ?_)
  rcases hy with ((hy | hy) | ⟨hy, ha⟩) | ⟨hy, ha⟩
  ·rw [(c8 hy h3 rfl).1]
  ·rw [(pX hy h3).1]
  ·exact vl hy ha h3
  ·exact sT hy ha h3
 ·obtain ⟨h5, h6⟩ := pX hb h3
  dsimp only at h5; subst h5
  refine fin st.mem (h6 st.mem ?_) h1
  rcases hx with (hx | ⟨hx, ha⟩) | ⟨hx, ha⟩
  ·rw [(c8 hx h1 rfl).1]
  ·exact (vl hx ha h1).symm
  ·exact (sT hx ha h1).symm
 ·rcases vk he h1 with ⟨rfl, -⟩ | ⟨B0, B, Ga, hv, hh, rfl, -⟩
  ·obtain ⟨h5, h6⟩ := c8 hr h3 (mem := st.mem) rfl
   dsimp only at h5; subst h5
   exact fin st.mem h6 h1
  ·have uK : dk (py.mask.map (base + ·) ++ py.abs) (st.mem.set px.key B) = dk (py.mask.map (base + ·) ++ py.abs) st.mem := my (List.mem_append_right _ (by simpa using hm)) hh Ga hv
   obtain ⟨h5, h6⟩ := c8 hr h3 (mem := st.mem) uK.symm
   dsimp only at h5; subst h5
   exact fin st.mem h6 h1
 ·obtain ⟨rfl, -⟩ := c8 hr h1 rfl
  rcases vk he h3 with ⟨h5, h6⟩ | ⟨B0, B, Ga, hv, hh, h5, h6⟩
  ·dsimp only at h5; subst h5
   exact fin st.mem h3 h1
  ·dsimp only at h5 hh; subst h5
   have uK : dk (px.mask.map (base + ·) ++ px.abs) (st.mem.set py.key B) = dk (px.mask.map (base + ·) ++ px.abs) st.mem := my (List.mem_append_right _ (by simpa using hm)) hh Ga hv
   exact fin _ h3 (c8 hr h1 uK).2
end
end Go.Eng
end

section
namespace Go.Eng
variable [aH]
open Go.RowKit (Below)

theorem mA {mem : List aw} {size : Nat} {l : Int} {h : Option Int} {x v : V} (hc : cutAt [] size l h x = some v) : cutAt mem size l h x = some v := by
 unfold cutAt at hc ⊢
 split at hc
 ·exact hc
 ·simp [eM] at hc
 ·cases hc
theorem GV {P : Program} {tt : Table} {mem : List aw} {T : TypeId} {x v : V} {lo hi : Option V} (hc : sk P tt [] T x lo hi = some v) : sk P tt mem T x lo hi = some v := by
 unfold sk at hc ⊢
 split
 ·exact hc
 ·rename_i bH
  split at hc
  ·exact absurd rfl (bH _)
  ·split at hc
   ·cases hc
   ·split at hc
    ·cases hc
    ·split at hc
     ·split at hc
      ·exact mA hc
      ·split at hc
       ·exact mA hc
       ·cases hc
     ·split at hc
      ·cases hc
      ·split at hc
       ·exact mA hc
       ·split at hc
        ·exact mA hc
        ·cases hc
theorem EL {tt : Table} {mem : List aw} {T : TypeId} {p v : V} (h : kW tt [] T p = some v) : kW tt mem T p = some v := by
 cases p <;> simp [kW, rowOf] at h ⊢
 exact h
theorem Bl {tt : Table} {mem : List aw} {T : TypeId} {p i v : V} (h : iC tt [] T p i = some v) : iC tt mem T p i = some v := by
 unfold iC at h ⊢
 split at h
 ·split at h
  ·split at h
   ·cases p <;> simp [indexAt, eM] at h ⊢
    exact h
   ·cases h
  ·cases h
 ·cases h
theorem Bm {tt : Table} {mem : List aw} {T : TypeId} {b o : Nat} {i : V} : iC tt mem T (.ptr b o) i = none := by
 unfold iC
 split
 ·split
  ·split <;> rfl
  ·rfl
 ·rfl
theorem Bn {P : Program} {tt : Table} {mem : List aw} {T : TypeId} {p i v : V} (h : (match iC tt [] T p i with | some v => some v | none => so P tt T p i) = some v) : (match iC tt mem T p i with | some v => some v | none => so P tt T p i) = some v := by
 split at h
 ·rename_i u hu
  cases h
  rw [Bl hu]
 ·have hp : ∃ b o, p = .ptr b o := by
   unfold so at h
   split at h
   ·exact ⟨_, _, rfl⟩
   ·cases h
  obtain ⟨b, o, rfl⟩ := hp
  rw [Bm]; exact h
theorem yO {P : Program} {mem : List aw} {T : TypeId} {m i v : V} {ok : Bool} (h : dg P [] T m i ok = some v) : dg P mem T m i ok = some v := by
 unfold dg at h ⊢
 split at h
 ·split at h
  ·split at h
   ·rename_i hk
    rw [if_pos hk]
    unfold ov at h ⊢
    split at h
    ·simp at h
    ·exact h
    ·cases h
   ·cases h
  ·cases h
 ·cases h
theorem GX {mem : List aw} {it v : V} (h : xY [] it = some v) : xY mem it = some v := by
 unfold xY at h
 split at h
 ·simp at h
 ·cases h
theorem GY {P : Program} {tt : Table} {mem : List aw} {ts : Array TypeId} {ty : TypeId} {xs : List V} {v : V} (h : (match ow [] ts P xs with | some v => some v | none => rC P tt ts ty xs) = some v) :
  (match ow mem ts P xs with | some v => some v | none => rC P tt ts ty xs) = some v := by
 by_cases hx : ∃ b, xs = [.mp b]
 ·obtain ⟨b, rfl⟩ := hx
  simp [ow, rC, cH, jy, bA] at h
 ·have hn : ∀ m, ow m ts P xs = none := fun m => by
   unfold ow
   split
   ·exact absurd ⟨_, rfl⟩ hx
   ·rfl
  rw [hn] at h ⊢
  exact h
theorem EM (st : St) (mem : List aw) (x : Operand) : St.eval { st with mem := mem } x = st.eval x := by cases x <;> rfl
theorem cd (st : St) (mem : List aw) : St.eval { st with mem := mem } = st.eval := funext fun x => EM st mem x
theorem EN {P : Program} {mem : List aw} {s d : TypeId} {x v : V} (h : kZ P [] s d x = some v) : kZ P mem s d x = some v := by
 cases x <;> first | exact h | (simp [kZ] at h)
theorem Kn {P : Program} {tt : Table} {st : St} {o : Oper} {v : V} (h : fO P tt { st with mem := [] } o = some v) : fO P tt st o = some v := by
 obtain ⟨dst, op, type, pos, after, guard⟩ := o
 cases op
 case load T x => simp only [fO,cd] at h ⊢; exact EL h
 case indexAddr T x i => simp only [fO,cd] at h ⊢; exact Bn h
 case entry it => simp only [fO,cd] at h ⊢; exact GX h
 case convert s d x => simp only [fO,cd] at h ⊢; exact EN h
 case lookup T x i ok => simp only [fO,cd] at h ⊢; exact yO h
 case slice T x lo hi mx =>
  cases mx
  ·simp only [fO,cd] at h ⊢; exact GV h
  ·cases lo <;> cases hi <;> simp only [fO,cd,reduceCtorEq] at h ⊢
   exact h
 case call c =>
  obtain ⟨callee, args, ts⟩ := c
  cases callee with
  | builtin b => cases b <;> first | (simp only [fO,cd] at h ⊢; exact h) | (simp only [fO,cd] at h ⊢; exact GY h) | (simp [fO] at h)
  | _ => simp [fO] at h
 all_goals first | (simp only [fO,cd] at h ⊢; exact h) | (simp [fO] at h)

theorem qV {mem : List aw} {v v' : V} (h : bu [] v = some v') : bu mem v = some v' ∧ ej v = [] := by
 unfold bu at h
 split at h
 ·exact ⟨h, rfl⟩
 ·exact ⟨h, rfl⟩
 ·exact ⟨h, rfl⟩
 ·exact ⟨h, rfl⟩
 ·exact ⟨h, rfl⟩
 ·exact ⟨h, rfl⟩
 ·simp at h
 ·exact ⟨h, rfl⟩
 ·cases h
theorem oQ {mem : List aw} : ∀ {vs vs' : List V}, cK [] vs = some vs' → cK mem vs = some vs' ∧ vs.flatMap ej = []
 | [], vs', h => ⟨h, rfl⟩
 | c :: r, vs', h => by
  simp only [cK] at h ⊢
  split at h
  ·rename_i c' hc
   split at h
   ·rename_i r' hr
    obtain ⟨h1, h2⟩ := qV (mem := mem) hc
    obtain ⟨h3, h4⟩ := oQ (mem := mem) hr
    rw [h1, h3]
    exact ⟨h, by simp [List.flatMap_cons, h2, h4]⟩
   ·cases h
  ·cases h
theorem GZ {mem : List aw} {v v' : V} (h : dO [] v = some v') : dO mem v = some v' ∧ cn v = [] := by
 unfold dO at h
 split at h
 ·rename_i cs
  split at h
  ·rename_i l hl
   obtain ⟨h1, h2⟩ := oQ (mem := mem) hl
   exact ⟨by simp only [dO,h1]; exact h, h2⟩
  ·cases h
 ·rename_i bH
  obtain ⟨h1, h2⟩ := qV (mem := mem) h
  exact ⟨by cases v <;> first | exact h1 | exact absurd rfl (bH _), by cases v <;> first | exact h2 | exact absurd rfl (bH _)⟩
theorem oR {mem : List aw} : ∀ {vs vs' : List V}, cy [] vs = some vs' → cy mem vs = some vs' ∧ vs.flatMap cn = []
 | [], vs', h => ⟨h, rfl⟩
 | c :: r, vs', h => by
  simp only [cy] at h ⊢
  split at h
  ·rename_i c' hc
   split at h
   ·rename_i r' hr
    obtain ⟨h1, h2⟩ := GZ (mem := mem) hc
    obtain ⟨h3, h4⟩ := oR (mem := mem) hr
    rw [h1, h3]
    exact ⟨h, by simp [List.flatMap_cons, h2, h4]⟩
   ·cases h
  ·cases h
theorem k9 {v v' : V} (h : bu [] v = some v') {E : Env} {x : Value} (hr : aW E v x) : aW E v' x := by
 unfold bu at h
 split at h
 ·cases h; exact hr
 ·cases h; exact oC hr
 ·cases h; exact hr
 ·cases h; cases hr with | full _ _ _ h => exact h
 ·cases h; exact hr
 ·cases h; exact hr
 ·simp at h
 ·cases h
  cases hr with
  | fQ _ f _ _ xs ys hx hy h1 h2 =>
   have e1 : xs = #[] := by simpa using hx.symm
   have e2 : ys = #[] := by simpa using hy.symm
   subst e1; subst e2; exact .sc _ _
 ·cases h
theorem jP {E : Env} : ∀ {vs vs' : List V} {xs : List Value}, cK [] vs = some vs' → aP E vs xs → aP E vs' xs
 | [], vs', xs, h, hr => by cases h; exact hr
 | c :: r, vs', xs, h, hr => by
  obtain ⟨x, ys, rfl, h1, h2⟩ := hr.of_cons
  simp only [cK] at h
  split at h
  ·rename_i c' hc
   split at h
   ·rename_i r' uu
    cases h
    exact .cons (k9 hc h1) (jP uu h2)
   ·cases h
  ·cases h
theorem wU {v v' : V} (h : dO [] v = some v') {E : Env} {x : Value} (hr : aW E v x) : aW E v' x := by
 unfold dO at h
 split at h
 ·rename_i cs
  split at h
  ·rename_i l hl
   cases h
   cases hr with
   | agg _ _ xs hlen hh =>
    have := jP hl (E := E) (xs := xs.toList) ⟨by simpa using hlen, fun i c x hc hx => hh i c x hc (by simpa using hx)⟩
    exact .agg _ _ _ (by simpa using this.1) fun i c x hc hx => this.2 i c x hc (by simpa using hx)
  ·cases h
 ·exact k9 h hr
theorem oS {E : Env} : ∀ {vs vs' : List V} {xs : List Value}, cy [] vs = some vs' → aP E vs xs → aP E vs' xs
 | [], vs', xs, h, hr => by cases h; exact hr
 | c :: r, vs', xs, h, hr => by
  obtain ⟨x, ys, rfl, h1, h2⟩ := hr.of_cons
  simp only [cy] at h
  split at h
  ·rename_i c' hc
   split at h
   ·rename_i r' uu
    cases h
    exact .cons (wU hc h1) (oS uu h2)
   ·cases h
  ·cases h
theorem oT (mem : List aw) (r : V) : cp mem [] r = mem := by unfold cp; split <;> rfl

theorem sO.hole {P : Program} {f : FuncId} {vs vs' : List V} {e : Nat} {rs : List V} (hp : cy [] vs = some vs') (h : sO P f vs' e rs) {mem : List aw} {key : Nat} (b9 : mem[key]? = some .hole) :
  aR P f vs mem (.ms key 0 0 rs.length) (mem.set key (.rows 0 e rs)) := by
 obtain ⟨v0, h⟩ := h
 refine ⟨h.1, fun E w xs hs hx => ?_⟩
 obtain ⟨MR, hk⟩ := oR (mem := mem) hp
 have h1 := ga hs (keys := []) hx MR (by rw [hk]; simp)
 have hE : (E.kj w []).pure = ⟨E.F, fun _ _ => none, E.gl⟩ := by
  refine Env.Eo (funext fun ad => ?_) rfl
  simp only [Env.pure,Env.kj]
  cases hh : E.F ad <;> simp
 rw [hE] at h1
 have UO : key < mem.length := (List.getElem?_eq_some_iff.1 b9).1
 have eV : ∀ v, E.aI key v = none := hs.mem key _ b9
 have jd : bc ⟨E.F, fun _ _ => none, E.gl⟩ w { tmps := #[], defers := [] } { fr := [], mem := [] } :=
  ⟨hs.F, (fun k v g e c h => by cases h), (fun k B h => by simp at h), (fun k _ v => rfl), (fun k B h => by simp at h), (fun k k' v v' g e c e' c' h => by cases h), .nil _⟩
 refine (h.2 _ w xs jd h1).mono ?_
 rintro en w' ⟨E', x, rfl, du, lr, hr⟩
 have fS : ∀ k v g e c, E'.aI k v = some (g, e, c) → w.heap.size ≤ g := fun k v g e c hb => by
  rcases du.aI _ _ _ _ _ hb with ⟨_, _, _, _, h⟩ | h
  ·cases h
  ·exact h
 have hold : ∀ b, b < w.heap.size → w'.heap[b]? = w.heap[b]? := fun b hb => du.heap b hb fun _ _ _ _ h => by cases h
 have Sf : ∀ ad y, E'.F ad = some y → E.F ad = some y ∨ w.heap.size ≤ ad.block := fun ad y hy => by
  rcases du.F _ _ hy with h | h | ⟨_, _, _, _, h⟩
  ·exact .inl h
  ·exact .inr h
  ·cases h
 have Ko : (⟨E'.F, fun k v => if k = key then (if v = 0 then E'.aI 0 v0 else none) else E.aI k v, E'.gl⟩ : Env).aI key 0 = E'.aI 0 v0 := by simp
 have OE : ∀ v, v ≠ 0 → (⟨E'.F, fun k v => if k = key then (if v = 0 then E'.aI 0 v0 else none) else E.aI k v, E'.gl⟩ : Env).aI key v = none := fun v hv => by simp [hv]
 have kX : ∀ k v, k ≠ key → (⟨E'.F, fun k v => if k = key then (if v = 0 then E'.aI 0 v0 else none) else E.aI k v, E'.gl⟩ : Env).aI k v = E.aI k v := fun k v hk => if_neg hk
 generalize Sg : (⟨E'.F, fun k v => if k = key then (if v = 0 then E'.aI 0 v0 else none) else E.aI k v, E'.gl⟩ : Env) = E2 at Ko OE kX
 have eO : E2.F = E'.F := by rw [← Sg]
 have u4 : E2.pure = E'.pure := Env.Eo eO rfl
 have Dg : ∀ v t, E2.aI key v = some t → v = 0 ∧ E'.aI 0 v0 = some t := fun v t ht => by
  by_cases hv : v = 0
  ·subst hv; exact ⟨rfl, Ko ▸ ht⟩
  ·rw [OE v hv] at ht; cases ht
 have hle : E.le E2 := ⟨fun ad y hy => by rw [eO]; exact du.le.F _ _ hy, fun k v t hk => by
  by_cases bX : k = key
  ·subst bX; rw [eV v] at hk; cases hk
  ·rw [kX k v bX]; exact hk⟩
 refine ⟨E2, x, rfl, ⟨hle, fun k v g e c hk => ?_, fun ad y hy => ?_, du.os, du.tape, du.output, du.size, fun b hb _ => hold b hb⟩, ⟨fun ad y hy => lr.F _ _ (by rw [← eO]; exact hy), fun k v g e c hk => ?_, fun k B hk => ?_, fun k hk v => ?_, fun k B hk v hv => ?_, fun k k' v v' g e1 c1 e2 c2 h5 h6 => ?_, .nil _⟩, ?_⟩
 ·by_cases bX : k = key
  ·subst bX; obtain ⟨-, h⟩ := Dg _ _ hk; exact .inr (fS _ _ _ _ _ h)
  ·rw [kX k v bX] at hk; exact .inl ⟨k, v, e, c, hk⟩
 ·rw [eO] at hy
  rcases Sf ad y hy with h | h
  ·exact .inl h
  ·exact .inr (.inl h)
 ·by_cases bX : k = key
  ·subst bX; obtain ⟨-, h⟩ := Dg _ _ hk; exact lr.lt _ _ _ _ _ h
  ·rw [kX k v bX] at hk; have := hs.lt _ _ _ _ _ hk; have := du.size; omega
 ·rw [List.getElem?_set] at hk
  by_cases bX : key = k
  ·subst bX
   simp only [if_true,UO] at hk
   cases hk
   have h0 := lr.mem 0 _ rfl
   rcases h0 with ⟨h1, h2⟩ | ⟨g, T, ys, c, h1, h2, h3, h4, h5, h6⟩
   ·exact .inl ⟨h1, by rw [Ko]; exact h2⟩
   ·exact .inr ⟨g, T, ys, c, by rw [Ko]; exact h1, h2, h3, h4, by rw [u4]; exact h5, fun o => by rw [eO]; exact h6 o⟩
  ·rw [if_neg bX] at hk
   refine (hs.mem k B hk).mono hle (fun v hv => by rw [kX k v (fun e => bX e.symm)]; exact hv) (fun g e c hb => hold g (hs.lt _ _ _ _ _ hb)) fun g e c o hb hn => ?_
   rw [eO]
   cases hy : E'.F ⟨g, o, none⟩ with
   | none => rfl
   | some y =>
    rcases Sf _ y hy with h | h
    ·rw [hn] at h; cases h
    ·have := hs.lt _ _ _ _ _ hb; simp at h; omega
 ·dsimp only at hk
  rw [List.length_set] at hk
  rw [kX k v (by omega)]; exact hs.top k (by dsimp only; omega) v
 ·rw [List.getElem?_set] at hk
  by_cases bX : key = k
  ·subst bX
   simp only [if_true,UO] at hk
   cases hk
   exact OE v (by simp [aw.aC] at hv; omega)
  ·rw [if_neg bX] at hk
   rw [kX k v (fun e => bX e.symm)]; exact hs.aC k B hk v hv
 ·by_cases fH : k = key <;> by_cases kD : k' = key
  ·rw [fH, kD]
  ·subst fH
   obtain ⟨-, h⟩ := Dg _ _ h5
   rw [kX k' _ kD] at h6
   have := hs.lt _ _ _ _ _ h6; have := fS _ _ _ _ _ h; omega
  ·subst kD
   obtain ⟨-, h⟩ := Dg _ _ h6
   rw [kX k _ fH] at h5
   have := hs.lt _ _ _ _ _ h5; have := fS _ _ _ _ _ h; omega
  ·rw [kX k _ fH] at h5; rw [kX k' _ kD] at h6
   exact hs.apart _ _ _ _ _ _ _ _ _ h5 h6
 ·rcases wE hr with ⟨h0, rfl⟩ | ⟨g, e, c, aa, cap, rfl, hb, hl, h0, hc⟩
  ·rw [h0]; exact .cZ _ _ _ _
  ·exact .ms _ _ _ _ _ g e c _ _ (by rw [Ko]; exact hb) hl h0 hc

theorem bc.G0 {E : Env} {w : World} {a : Act} {st : St} (hs : bc E w a st) {xs : Array Value} {rs : List V} {e c : Nat} (T : TypeId) (hl : rs.length ≤ c) (hr : fA E.pure e rs (fun o => xs[o]?)) :
  ∃ E', bc E' (w.alloc (.cells xs T (0, 0))) a st ∧ dt E w E' (w.alloc (.cells xs T (0, 0))) ∧ aW E' (.slice rs) (.slice (some ⟨w.heap.size, 0, none⟩) rs.length c) := by
 have lC : ∀ o, (w.alloc (.cells xs T (0, 0))).cell? ⟨w.heap.size, o, none⟩ = xs[o]? := fun o => ik (heap_alloc_new w _) o
 have hle : E.le ⟨fun ad => match E.F ad with | some x => some x | none => if ad.block = w.heap.size ∧ ad.spot = none then xs[ad.off]? else none, E.aI, E.gl.mono fun ad x h => by simp only [h]⟩ := ⟨fun ad x h => by dsimp only; rw [h], fun _ _ _ h => h⟩
 refine ⟨⟨fun ad => match E.F ad with | some x => some x | none => if ad.block = w.heap.size ∧ ad.spot = none then xs[ad.off]? else none, E.aI, E.gl.mono fun ad x h => by simp only [h]⟩, ⟨fun ad x hx => ?_, fun k v g e c h => ?_, fun k B hB => ?_, hs.top, hs.aC, hs.apart, hs.fr.mono hle⟩, ⟨hle, fun k v g e c h => .inl ⟨k, v, e, c, h⟩, fun ad x hx => ?_, rfl, rfl, rfl, by simp, fun b hb _ => Go.RowKit.Below.heap_alloc w _ b hb⟩, ?_⟩
 ·dsimp only at hx
  split at hx
  ·rename_i y hy; cases hx
   rw [World.cell?_alloc_lt w _ ad (World.block_lt_of_cell? w ad (hs.F ad _ hy))]; exact hs.F ad _ hy
  ·split at hx
   ·rename_i hc
    obtain ⟨b, o, el⟩ := ad
    obtain ⟨rfl, rfl⟩ := hc
    rw [lC]; exact hx
   ·cases hx
 ·have := hs.lt _ _ _ _ _ h; simp; omega
 ·refine (hs.mem k B hB).mono hle (fun v h => h) (fun g e' c' hb => Go.RowKit.Below.heap_alloc w _ g (hs.lt _ _ _ _ _ hb)) fun g e c o hb hn => ?_
  dsimp only
  rw [hn]
  have := hs.lt _ _ _ _ _ hb
  simp; intro h; omega
 ·dsimp only at hx
  split at hx
  ·rename_i y hy; cases hx; exact .inl hy
  ·split at hx
   ·rename_i hc; exact .inr (.inl (by rw [hc.1]; exact Nat.le_refl _))
   ·cases hx
 ·have hn : ∀ o, E.F ⟨w.heap.size, o, none⟩ = none := fun o => by
   cases hx : E.F ⟨w.heap.size, o, none⟩ with
   | none => rfl
   | some x => have := World.block_lt_of_cell? w _ (hs.F _ _ hx); simp at this
  refine .slice _ rs _ c e ⟨w.heap.size, 0, none⟩ (fun i j => (xs[i * e + j]?).getD undef) (fun _ => rfl) hl (fun i row hi => (hr i row hi).1) (fun i row j cc hi hj => ?_) (fun i row j cc hi hj => ?_) fun i row j cc hi hj => ?_
  ·obtain ⟨x, hx, h1, h2⟩ := (hr i row hi).2 j cc hj
   rw [add_lit, Nat.zero_add]
   simp only [hn,true_and,if_true,and_self]
   dsimp only at hx; rw [hx]; rfl
  ·obtain ⟨x, hx, h1, h2⟩ := (hr i row hi).2 j cc hj
   dsimp only at hx ⊢; rw [hx]; exact h1
  ·obtain ⟨x, hx, h1, h2⟩ := (hr i row hi).2 j cc hj
   dsimp only at hx ⊢; rw [hx]; exact h2.mono (Env.fw hle)

section
variable {P : Program} {tt : Table} (ht : TT P tt)
include ht
theorem sU {E : Env} {w : World} {a : Act} {st : St} (hs : bc E w a st) {o : Oper} {mem : List aw} {Q : V → Prop} {R : St → Prop} (h : mY P tt o { st with mem := mem } Q) (hQ : ∀ v, Q v → R (st.put o.dst v))
  (kl : ∀ v, fO P tt { st with mem := mem } o = some v → ∃ x, (execOp a.eval o).run P w = .ok (.value x) w ∧ aW E v x)
  {ρ : Option Nat} {n : Nat} {next : Act → World → Prop} {Q' : Exit → Act → World → Prop} (hn : ∀ v w', yB E w a o.dst R v w' → next (a.put o.dst v) w') : o.wpIn (WF ρ) n P a w next Q' := by
 obtain ⟨dst, op, type, pos, after, guard⟩ := o
 have gen : ∀ (jM : ∀ c, op ≠ .defer c), (∀ f xs ts, op ≠ .call { callee := .value f, args := xs, argTypes := ts }) → (∀ T ps, op ≠ .build T ps) → (∀ T l ps, op ≠ .buildSlice T l ps) → Oper.wpIn (WF ρ) n P { dst := dst, op := op, type := type, pos := pos, after := after, guard := guard } a w next Q' := by
  intro jM h1 h2 h3
  have hv : ∃ v, fO P tt { st with mem := mem } { dst := dst, op := op, type := type, pos := pos, after := after, guard := guard } = some v ∧ Q v := by
   unfold mY at h
   split at h
   ·rename_i heq; exact absurd heq (h1 _ _ _)
   ·unfold rI at h
    dsimp only at h
    split at h
    ·rename_i v hv
     split at hv
     ·exact absurd rfl (h2 _ _)
     ·exact absurd rfl (h3 _ _ _)
     ·exact ⟨v, hv, h⟩
    ·exact h.elim
  obtain ⟨v, hv, hq⟩ := hv
  obtain ⟨x, h4, h5⟩ := kl v hv
  exact bg jM h4 (hn _ _ ⟨E, _, hs.put dst h5, dt.refl E w, hQ _ hq⟩)
 cases op
 case defer c => simp [mY, rI, fO] at h
 case build T ps =>
  simp only [mY,rI,cd] at h
  split at h
  ·rename_i v hv
   obtain ⟨x, h1, h2⟩ := oJ ht hs hv
   exact bg (by simp) (bf h1) (hn _ _ ⟨E, _, hs.put dst h2, dt.refl E w, hQ _ h⟩)
  ·exact h.elim
 case buildSlice T len ps =>
  simp only [mY,rI,cd] at h
  split at h
  ·rename_i v hv
   split at hv
   ·rename_i size rs hl
    cases hv
    obtain ⟨Z, e, h1, h2, h3, h4⟩ := wD ht (fun p _ => hs.eval p.2) hl
    obtain ⟨E', h5, h6, h7⟩ := hs.G0 (xs := Z) (rs := rs) (c := len) e (by omega) h4
    rw [h3] at h7
    exact bg (by simp) (dH h1) (hn _ _ ⟨E', _, h5.put dst h7, h6, hQ _ h⟩)
   ·cases hv
  ·exact h.elim
 case call c =>
  obtain ⟨callee, args, ts⟩ := c
  cases callee with
  | value f =>
   simp only [mY,cd] at h
   split at h
   ·rename_i g vs hg
    obtain ⟨vs', r, h1, h2, h3⟩ := h
    obtain ⟨h4, h5⟩ := oR (mem := st.mem) h1
    obtain ⟨ys, h6, h7⟩ := lJ (P := P) (w := w) (hs.eval f) (hs.jK args) hg
    have hc : ve P g vs st dst R := by
     rcases h2 with h2 | h2
     ·exact .inl ⟨vs', r, h4, h2, by rw [h5, oT]; exact hQ _ h3⟩
     ·refine .inr (.inr (.inr ⟨r, fun E1 w1 ZC A6 uE => ?_, hQ _ h3⟩))
      obtain ⟨x, g1, g2⟩ := h2 E1 w1 ZC A6 (oS h1 uE)
      exact ⟨x, g1, g2⟩
    rcases qQ hs hc h6 with ⟨h8, h9⟩ | ⟨v, h8, h9⟩
    ·refine qO (by simp) (f := g) (xs := ys) ?_ h9 fun e w' ⟨v, hv, ha⟩ => ⟨v, hv, hn _ _ ha⟩
     rw [← h8, ← h7]
     simp only [execOp,resolve]
    ·refine bg (by simp) (v := v) ?_ (hn _ _ h9)
     rw [← h8, ← h7]
     simp only [execOp,resolve]
   ·exact h.elim
  | _ => exact gen (by simp) (by simp) (by simp) (by simp)
 all_goals exact gen (by simp) (by simp) (by simp) (by simp)

omit ht in
theorem oU {mem : List aw} {k : Nat} (h : mem[k]? = some .hole) (B : aw) : ba mem k B = mem.set k B := by
 unfold ba; rw [if_pos (List.getElem?_eq_some_iff.1 h).1]

theorem yP {all : Array Oper} {base : Nat} {E : Env} {w : World} {a : Act} {st : St} (hs : bc E w a st) {i : Nat} {o : Oper} {p : Pl} {Q : St → Prop} (hi : all[i]? = some o) (h : dz P tt all base o p st Q)
  {ρ : Option Nat} {n : Nat} {next : Act → World → Prop} {Q' : Exit → Act → World → Prop} (hn : ∀ v w', yB E w a o.dst Q v w' → next (a.put o.dst v) w') : wpOpIn (WF ρ) n P all Q' i next a w := by
 unfold wpOpIn
 rw [hi]
 dsimp only
 unfold dz at h
 split at h
 ·rename_i hw
  rw [if_pos (gE hs hw)]
  split at h
  ·rw [rV] at h; exact sU ht hs h (fun _ h => h) (fun v hv => mo ht hs (Kn hv)) hn
  ·rw [rV] at h; exact sU ht hs h (fun _ h => h) (fun v hv => mo ht (hs.dk _) hv) hn
  ·obtain ⟨hh, h⟩ := h
   rw [gi] at hh
   split at h
   ·rename_i B v hb
    refine dh ht hs (key := base + p.key) (.inl hh) ?_ hn
    unfold ee at hb
    unfold aS
    split at hb
    ·rename_i T heq
     rw [heq]
     dsimp only
     split at hb
     ·rename_i i hi; cases hb; rw [hi]; dsimp only; rw [oU hh]; exact h
     ·cases hb
    ·rename_i heq
     rw [heq]
     dsimp only
     split at hb
     ·rename_i i hi; cases hb; rw [hi]; dsimp only; rw [oU hh]; exact h
     ·cases hb
    ·rename_i heq
     rw [heq]
     dsimp only
     split at hb
     ·rename_i i hi; cases hb; rw [hi]; dsimp only; rw [oU hh]; exact h
     ·cases hb
    ·rename_i heq
     rw [heq]
     dsimp only
     cases hb; rw [oU hh]; exact h
    ·rename_i heq
     rw [heq]
     dsimp only
     split at hb
     ·rename_i i hi; cases hb; rw [hi]; dsimp only; rw [oU hh]; exact h
     ·cases hb
    ·cases hb
   ·rw [vi] at h
    unfold k7 at h
    split at h
    ·rename_i f xs ts heq
     split at h
     ·rename_i g vs hg
      obtain ⟨vs', e, rs, h1, h2, h3⟩ := h
      refine dh ht hs (key := base + p.key) (.inl hh) ?_ hn
      unfold aS
      rw [heq]
      dsimp only
      split
      ·rename_i k hk; rw [hk] at hg; simp [aX] at hg
      ·rw [hg]
       exact .inr (.inl ⟨_, _, h2.hole h1 hh, h3⟩)
     ·exact h.elim
    ·exact h.elim
  ·obtain ⟨hh, h⟩ := h
   rw [gi] at hh
   split at h
   ·rename_i m v hb
    refine dh ht hs (key := base + p.key) (.inl hh) ?_ hn
    unfold oO at hb
    unfold aS
    split at hb
    ·rename_i heq
     rw [heq]
     dsimp only
     split at hb
     ·rename_i i hi; cases hb; rw [hi]; exact h
     ·cases hb
    ·rename_i xs ts heq
     rw [heq]
     dsimp only
     split at hb
     ·rename_i s x Da
      rw [Da]
      dsimp only
      split at hb
      ·rename_i size nt rows ha
       rw [ha]
       simp only [Option.some.injEq] at hb
       dsimp only
       rw [hb]; exact h
      ·cases hb
     ·cases hb
    ·rename_i heq
     rw [heq]
     dsimp only
     split at hb
     ·rename_i i hi; cases hb; rw [hi]; exact h
     ·cases hb
    ·rename_i heq
     rw [heq]
     dsimp only
     split at hb
     ·rename_i i hi; cases hb; rw [hi]; exact h
     ·cases hb
    ·cases hb
   ·exact h.elim
  ·split at h
   ·rename_i m hb
    refine dh ht hs (key := st.mem.length) (.inr rfl) ?_ hn
    unfold rJ at hb
    unfold aS
    split at hb
    ·rename_i heq
     rw [heq]
     dsimp only
     split at hb
     ·rename_i b off hp
      split at hb
      ·rename_i hk
       subst hk
       rw [hp, hb]; exact h
      ·cases hb
     ·cases hb
    ·cases hb
   ·exact h.elim
  ·split at h
   ·rename_i v hb
    refine dh ht hs (key := st.mem.length) (.inr rfl) ?_ hn
    have ho := EH (P := P) hb
    unfold k8 at hb
    unfold aS
    split at hb
    ·rename_i heq
     rw [heq]
     dsimp only
     rw [ho]; exact h
    ·cases hb
   ·exact h.elim
  ·refine dh ht hs (key := st.mem.length) (.inr rfl) ?_ hn
   unfold lM at h
   unfold aS
   split at h
   ·rename_i f xs ts heq
    split at h
    ·rename_i g vs hg
     obtain ⟨vs', r, h1, h2, h3⟩ := h
     rw [heq]
     dsimp only
     split
     ·rename_i k hk; rw [hk] at hg; simp [aX] at hg
     ·rw [hg]
      exact .inl ⟨vs', r, h1, h2, h3⟩
    ·exact h.elim
   ·exact h.elim
  ·refine dh ht hs (key := st.mem.length) (.inr rfl) ?_ hn
   unfold vj at h
   unfold aS
   split at h
   ·rename_i f xs ts heq
    split at h
    ·rename_i g vs hg
     obtain ⟨v, B0, B, -, -, h1, h2, h3⟩ := h
     rw [heq]
     dsimp only
     split
     ·rename_i k hk; rw [hk] at hg; simp [aX] at hg
     ·rw [hg]
      exact .inr (.inl ⟨_, _, h2 _ h1, h3⟩)
    ·exact h.elim
   ·exact h.elim
 ·rename_i hw
  rw [if_neg (by rw [gE hs hw]; simp)]
  exact ⟨fun _ _ => trivial, hn _ _ ⟨E, _, hs.put o.dst (.sc _ _), dt.refl E w, h⟩⟩
 ·exact h.elim
end
end Go.Eng
end

section
namespace Go.Eng
variable [aH]

def UP : Pl := ⟨.n, 0, [], [], []⟩
def iM (o : Oper) (k : Nat) : Bool := o.after.any fun e => Region.binds .any e && e.on == k
def lO (all : Array Oper) (y : Oper) (py : Pl) : Nat → List Oper → List Pl → Bool
 | _, [], _ => true
 | k, x :: r, px => (iM y k || py.M1.contains k || pV all x (px.headD UP) y py) && lO all y py (k + 1) r px.tail
def Bo (o : Oper) (i : Nat) : Bool := o.after.all fun e => !Region.binds .any e || decide (e.on < i)
def lP (plan : List Pl) (i : Nat) : Pl := (plan[i]?).getD UP
def G1 (plan : List Pl) (y : Oper) (py : Pl) : Bool := py.M1.all fun k => iM y k || y.after.any fun e => Region.binds .any e && (lP plan e.on).M1.contains k
def rW (all : Array Oper) (plan : List Pl) : Nat → List Oper → List Pl → Bool
 | _, [], _ => true
 | i, y :: r, py => Bo y i && G1 plan y (py.headD UP) && lO all y (py.headD UP) 0 (all.toList.take i) plan && rW all plan (i + 1) r py.tail
def sW (all : Array Oper) (plan : List Pl) : Bool := rW all plan 0 all.toList plan

theorem nP {α : Type} (l : List α) (i : Nat) (d : α) : (l.drop i).headD d = (l[i]?).getD d := by
 rw [List.headD_eq_head?_getD, List.head?_drop]

theorem oV {all : Array Oper} {y : Oper} {py : Pl} {plan : List Pl} : ∀ {l : List Oper} {n : Nat}, lO all y py n l (plan.drop n) = true → ∀ k x, l[k]? = some x → (iM y (n + k) = true ∨ (n + k) ∈ py.M1) ∨ pV all x (lP plan (n + k)) y py = true
 | [], n, _, k, x, h => by simp at h
 | z :: r, n, h, k, x, hk => by
  simp only [lO,Bool.and_eq_true,Bool.or_eq_true,nP] at h
  cases k with
  | zero => simp at hk; subst hk; simpa [lP] using h.1
  | succ k =>
   have h2 := h.2
   rw [List.tail_drop] at h2
   have := oV h2 k x (by simpa using hk)
   rw [Nat.add_assoc, Nat.add_comm 1 k] at this
   exact this
theorem qW {all : Array Oper} {plan : List Pl} : ∀ {l : List Oper} {n : Nat}, rW all plan n l (plan.drop n) = true → ∀ k y, l[k]? = some y → (Bo y (n + k) = true ∧ G1 plan y (lP plan (n + k)) = true) ∧ lO all y (lP plan (n + k)) 0 (all.toList.take (n + k)) plan = true
 | [], n, _, k, x, h => by simp at h
 | z :: r, n, h, k, x, hk => by
  simp only [rW,Bool.and_eq_true,nP] at h
  cases k with
  | zero => simp at hk; subst hk; exact h.1
  | succ k =>
   have h2 := h.2
   rw [List.tail_drop] at h2
   have := qW h2 k x (by simpa using hk)
   rw [Nat.add_assoc, Nat.add_comm 1 k] at this
   exact this
theorem jQ {all : Array Oper} {plan : List Pl} (h : sW all plan = true) {i : Nat} {y : Oper} (hi : all[i]? = some y) :
  (∀ e ∈ y.after, Region.binds .any e = true → e.on < i) ∧ (∀ k ∈ (lP plan i).M1, iM y k = true ∨ ∃ e ∈ y.after, Region.binds .any e = true ∧ k ∈ (lP plan e.on).M1) ∧ ∀ k x, k < i → all[k]? = some x → (iM y k = true ∨ k ∈ (lP plan i).M1) ∨ pV all x (lP plan k) y (lP plan i) = true := by
 have := qW (n := 0) h i y (by simpa using hi)
 rw [Nat.zero_add] at this
 obtain ⟨⟨h1, h3⟩, h2⟩ := this
 refine ⟨fun e he hb => ?_, fun k hk => ?_, fun k x hk hx => ?_⟩
 ·unfold Bo at h1
  have := Array.all_eq_true_iff_forall_mem.1 h1 e he
  simpa [hb] using this
 ·unfold G1 at h3
  have := List.all_eq_true.1 h3 k hk
  rw [Bool.or_eq_true] at this
  refine this.imp id fun h => ?_
  rw [Array.any_eq_true'] at h
  obtain ⟨e, he, h⟩ := h
  rw [Bool.and_eq_true] at h
  exact ⟨e, he, h.1, by simpa using h.2⟩
 ·have := oV (n := 0) h2 k x (by rw [List.getElem?_take_of_lt hk]; simpa using hx)
  rwa [Nat.zero_add] at this

section
variable {P : Program} {tt : Table} {all : Array Oper} {plan : List Pl} {base : Nat}
def yQ (P : Program) (tt : Table) (all : Array Oper) (plan : List Pl) (base : Nat) : List Nat → St → (St → Prop) → Prop
 | [], st, K => K st
 | i :: r, st, K => match all[i]? with
  | some o => dz P tt all base o (lP plan i) st fun st' => yQ P tt all plan base r st' K
  | none => False
theorem sX {o : Oper} {p : Pl} {st : St} {K K' : St → Prop} (h : ∀ s, K s → K' s) (hh : dz P tt all base o p st K) : dz P tt all base o p st K' := by
 by_cases hz : p.cls = .z
 ·unfold dz at hh ⊢
  split at hh
  ·rw [hz] at hh ⊢
   exact sQ hh h
  ·exact h _ hh
  ·exact hh.elim
 ·obtain ⟨v, m, h1, h2⟩ := (dY hz).1 hh
  exact (dY hz).2 ⟨v, m, h1, h _ h2⟩
theorem sY {i : Nat} {o : Oper} (hi : all[i]? = some o) {K : St → Prop} {σ2 : List Nat} : ∀ {σ1 : List Nat} {st : St}, (∀ k ∈ σ1, ∀ x, all[k]? = some x → pV all x (lP plan k) o (lP plan i) = true) →
  yQ P tt all plan base (σ1 ++ i :: σ2) st K → dz P tt all base o (lP plan i) st fun st' => yQ P tt all plan base (σ1 ++ σ2) st' K
 | [], st, _, h => by simpa [yQ, hi] using h
 | k :: r, st, hp, h => by
  simp only [List.cons_append,yQ] at h ⊢
  cases hk : all[k]? with
  | none => rw [hk] at h; exact h.elim
  | some x =>
   rw [hk] at h
   dsimp only at h ⊢
   exact Bj (hp k (by simp) x hk) (sX (fun s hs => sY hi (fun k' eS => hp k' (by simp [eS])) hs) h)

theorem oW {y : Oper} {k : Nat} {listed : Array Bool} (h : iM y k = true) (hl : ∀ e ∈ y.after, Region.binds .any e = true → listed.getD e.on false = true) : listed.getD k false = true := by
 unfold iM at h
 rw [Array.any_eq_true'] at h
 obtain ⟨e, he, h⟩ := h
 rw [Bool.and_eq_true, beq_iff_eq] at h
 rw [← h.2]; exact hl e he h.1

def G2 (all : Array Oper) (listed : Array Bool) : Prop := ∀ (i : Nat) (o : Oper), listed.getD i false = true → all[i]? = some o → ∀ e ∈ o.after, Region.binds .any e = true → listed.getD e.on false = true
theorem Bp (bK : sW all plan = true) {listed : Array Bool} (hc : G2 all listed) (jH : listed.size = all.size) : ∀ (i : Nat) (y : Oper), all[i]? = some y → (∀ e ∈ y.after, Region.binds .any e = true → listed.getD e.on false = true) → ∀ k ∈ (lP plan i).M1, listed.getD k false = true := by
 intro i
 induction i using Nat.strongRecOn with
 | _ i ih =>
  intro y hy hl k hk
  rcases (jQ bK hy).2.1 k hk with h | ⟨e, he, hb, h⟩
  ·exact oW h hl
  ·have h1 := hl e he hb
   have aD : e.on < all.size := by
    have : e.on < i := (jQ bK hy).1 e he hb
    have := (Array.getElem?_eq_some_iff.1 hy).1
    omega
   have hz := Array.getElem?_eq_getElem aD
   exact ih e.on ((jQ bK hy).1 e he hb) _ hz (hc e.on _ h1 hz) k h

theorem yR (ht : TT P tt) (bK : sW all plan = true) {ρ : Option Nat} {n : Nat} {K : St → Prop} {Q' : Exit → Act → World → Prop} : ∀ (fuel : Nat) (listed : Array Bool) (σ : List Nat), listed.size = all.size → G2 all listed → σ.length ≤ fuel → σ.Pairwise (· < ·) → (∀ i, i ∈ σ ↔ listed[i]? = some false) →
  ∀ {E : Env} {w : World} {a : Act} {st : St}, bc E w a st → yQ P tt all plan base σ st K → (∀ a' w', a'.defers = a.defers → (∃ E' st', bc E' w' a' st' ∧ dt E w E' w' ∧ K st') → Q' .normal a' w') → wpAnyIn (WF ρ) n P .any all Q' fuel listed a w := by
 intro fuel
 have done : ∀ (listed : Array Bool) (σ : List Nat), listed.size = all.size → σ.Pairwise (· < ·) → (∀ i, i ∈ σ ↔ listed[i]? = some false) → Region.ready .any all listed = [] → σ = [] := by
  intro listed σ jH qX wV hr
  cases σ with
  | nil => rfl
  | cons i r =>
   exfalso
   have UQ := (wV i).1 (by simp)
   have aD : i < all.size := by rw [← jH]; exact (Array.getElem?_eq_some_iff.1 UQ).1
   have : i ∈ Region.ready .any all listed := by
    refine mem_ready.2 ⟨by simp [Array.getD_eq_getD_getElem?, UQ], all[i], Array.getElem?_eq_getElem aD, fun e he hb => ?_⟩
    have N3 := (jQ bK (Array.getElem?_eq_getElem aD)).1 e he hb
    have hs : e.on < listed.size := by omega
    cases hv : listed[e.on] with
    | true => simp [Array.getD_eq_getD_getElem?, Array.getElem?_eq_getElem hs, hv]
    | false =>
     have : e.on ∈ i :: r := (wV e.on).2 (by rw [Array.getElem?_eq_getElem hs, hv])
     rcases List.mem_cons.1 this with h | h
     ·omega
     ·have := List.rel_of_pairwise_cons qX h; omega
   rw [hr] at this; cases this
 induction fuel with
 | zero =>
  intro listed σ jH ko hlen qX wV E w a st hs h hq
  have hσ : σ = [] := List.length_eq_zero_iff.1 (by omega)
  subst hσ
  refine ⟨?_, hq _ _ rfl ⟨E, st, hs, dt.refl E w, h⟩⟩
  cases hr : Region.ready .any all listed with
  | nil => rfl
  | cons j l =>
   have hj : j ∈ Region.ready .any all listed := by rw [hr]; simp
   obtain ⟨h0, o, ho, -⟩ := mem_ready.1 hj
   have aD : j < listed.size := by rw [jH]; exact (Array.getElem?_eq_some_iff.1 ho).1
   have : j ∈ ([] : List Nat) := (wV j).2 (by
    rw [Array.getElem?_eq_getElem aD]; congr 1
    simpa [Array.getD_eq_getD_getElem?, Array.getElem?_eq_getElem aD] using h0)
   cases this
 | succ fuel ih =>
  intro listed σ jH ko hlen qX wV E w a st hs h hq
  refine ⟨fun hr => ?_, fun i hi => ?_⟩
  ·have := done listed σ jH qX wV hr
   subst this
   exact hq _ _ rfl ⟨E, st, hs, dt.refl E w, h⟩
  ·obtain ⟨h0, o, ho, OF⟩ := mem_ready.1 hi
   have aD : i < listed.size := by rw [jH]; exact (Array.getElem?_eq_some_iff.1 ho).1
   have UQ : listed[i]? = some false := by
    rw [Array.getElem?_eq_getElem aD]; congr 1
    simpa [Array.getD_eq_getD_getElem?, Array.getElem?_eq_getElem aD] using h0
   obtain ⟨σ1, σ2, rfl⟩ := List.append_of_mem ((wV i).2 UQ)
   rw [List.pairwise_append] at qX
   obtain ⟨jd, fR, OG⟩ := qX
   rw [List.pairwise_cons] at fR
   have la := sY ho (σ1 := σ1) (fun k hk x hx => by
    have VZ : k < i := OG k hk i (by simp)
    rcases (jQ bK ho).2.2 k x VZ hx with hw | hw
    ·exfalso
     have h1 := hw.elim (fun hw => oW hw OF) fun hw => Bp bK ko jH i o ho OF k hw
     have h2 := (wV k).1 (by simp [hk])
     rw [Array.getD_eq_getD_getElem?, h2] at h1
     cases h1
    ·exact hw) h
   refine yP ht hs ho la ?_
   rintro v w' ⟨E', st', h1, h2, h3⟩
   refine ih (listed.setIfInBounds i true) (σ1 ++ σ2) (by simpa using jH) ?_ ?_ ?_ ?_ h1 h3 fun a' Yc hd ⟨xR, Oj, h4, h5, h6⟩ => hq _ _ (hd.trans (put_defers _ _ _)) ⟨xR, Oj, h4, h2.trans h5, h6⟩
   ·intro j z hj hz e he hb
    by_cases Q9 : j = i
    ·subst Q9
     rw [ho] at hz; cases hz
     exact getD_set_true (OF e he hb)
    ·rw [getD_set_ne false (fun e => Q9 e.symm)] at hj
     exact getD_set_true (ko j z hj hz e he hb)
   ·simp at hlen ⊢; omega
   ·rw [List.pairwise_append]
    exact ⟨jd, fR.2, fun x hx y hy => OG x hx y (by simp [hy])⟩
   ·intro j
    rw [Array.getElem?_setIfInBounds]
    by_cases Q9 : i = j
    ·subst Q9
     rw [if_pos rfl]
     constructor
     ·intro hj
      rcases List.mem_append.1 hj with h | h
      ·have := OG i h i (by simp); omega
      ·have := fR.1 i h; omega
     ·split
      ·intro h; cases h
      ·intro h; cases h
    ·rw [if_neg Q9, ← wV j]
     simp only [List.mem_append,List.mem_cons]
     constructor
     ·rintro (h | h)
      ·exact .inl h
      ·exact .inr (.inr h)
     ·rintro (h | h | h)
      ·exact .inl h
      ·exact absurd h.symm Q9
      ·exact .inr h

def runM (P : Program) (tt : Table) (all : Array Oper) (base : Nat) : List Oper → List Pl → St → (St → Prop) → Prop
 | [], _, st, K => K st
 | o :: r, p :: ps, st, K => dz P tt all base o p st fun st' => runM P tt all base r ps st' K
 | _ :: _, [], _, _ => False
theorem G3 {K : St → Prop} : ∀ {l : List Oper} {n : Nat} {st : St}, (∀ k x, l[k]? = some x → all[n + k]? = some x) → runM P tt all base l (plan.drop n) st K → yQ P tt all plan base (List.range' n l.length) st K
 | [], n, st, _, h => h
 | o :: r, n, st, bh, h => by
  have ho : all[n]? = some o := bh 0 o rfl
  rw [List.length_cons, List.range'_succ, yQ, ho]
  dsimp only
  cases hd : plan.drop n with
  | nil => rw [hd] at h; exact h.elim
  | cons p ps =>
   rw [hd] at h
   have hp : lP plan n = p := by rw [lP, ← nP, hd]; rfl
   have Kp : ps = plan.drop (n + 1) := by rw [← List.tail_drop, hd]; rfl
   rw [hp]
   subst Kp
   exact sX (fun s hs => G3 (fun k x hk => by have := bh (k + 1) x (by simpa using hk); rwa [show n + (k + 1) = n + 1 + k by omega] at this) hs) h

theorem bc.Sh {E : Env} {w : World} {a : Act} {st : St} (hs : bc E w a st) (m : Nat) : bc E w a { st with mem := st.mem ++ List.replicate m .hole } := by
 have get : ∀ {k : Nat} {B : aw}, (st.mem ++ List.replicate m .hole)[k]? = some B → st.mem[k]? = some B ∨ (B = aw.hole ∧ st.mem.length ≤ k) := fun {k B} h => by
  rcases Nat.lt_or_ge k st.mem.length with hk | hk
  ·rw [List.getElem?_append_left hk] at h; exact .inl h
  ·rw [List.getElem?_append_right hk, List.getElem?_replicate] at h
   split at h
   ·cases h; exact .inr ⟨rfl, hk⟩
   ·cases h
 refine ⟨hs.F, hs.lt, fun k B hk => ?_, fun k hk => hs.top k (by simp at hk; omega), fun k B hk v hv => ?_, hs.apart, hs.fr⟩
 ·rcases get hk with h | ⟨rfl, bX⟩
  ·exact hs.mem k B h
  ·exact fun v => hs.top k bX v
 ·rcases get hk with h | ⟨rfl, bX⟩
  ·exact hs.aC k B h v hv
  ·exact hs.top k bX v

theorem pY (ht : TT P tt) (hm : P.follows .mixedOrders = true) {ρ : Option Nat} {n0 : Nat} {st : St} {Q : Exit → St → Prop} (plan : List Pl) (m : Nat) {id : Nat} {ops : Array Oper} (bK : sW ops plan = true)
  (h : runM P tt ops st.mem.length ops.toList plan { st with mem := st.mem ++ List.replicate m .hole } (Q .normal)) : eL P ρ n0 (.region id ops true) st Q := fun E0 w0 h0 E w a he hs uK => by
 refine wpIn_region_any hm ?_
 have hd : bc E { w with drawn := w.drawn + 1 } a { st with mem := st.mem ++ List.replicate m .hole } := (hs.drew (w := w)).Sh m
 have hI := G3 (all := ops) (plan := plan) (n := 0) (l := ops.toList) (fun k x hk => by rw [Nat.zero_add]; simpa using hk) h
 rw [← List.range_eq_range'] at hI
 refine yR (P := P) (tt := tt) ht bK ops.size _ (List.range ops.toList.length) (by simp) (fun j z hj => by simp [Array.getD_eq_getD_getElem?, Array.getElem?_replicate] at hj; split at hj <;> simp at hj) (by simp) (List.pairwise_lt_range) (fun i => ?_) hd hI fun a' w' Si ⟨E', st', h1, h2, h3⟩ => ⟨E', st', h1, (he.trans (dt.drew E w)).trans h2, ?_, h3⟩
 ·simp only [List.mem_range,Array.getElem?_replicate]
  simp
 ·rw [Si]; exact (uK.Gb (dt.drew E w)).Gb h2
end
end Go.Eng
end

section
namespace Go.Eng
variable [aH]
open Go.RowKit (Below)

def kE : aw → Bool
 | .rows _ _ _ => true
 | .mX _ _ _ => true
 | .dead => true
 | .hole => true
 | _ => false

theorem aR.live {P : Program} {f : FuncId} {vs vs' : List V} {b v s l : Nat} {aE : List aw} (hp : cy [] vs = some vs') (h : aR P f vs' [] (.ms b v s l) aE) (hm : aE.all kE = true) (mem : List aw) :
  aR P f vs mem (.ms (mem.length + b) v s l) (mem ++ aE) := by
 refine ⟨h.1, fun E w xs hs hx => ?_⟩
 obtain ⟨MR, hk⟩ := oR (mem := mem) hp
 have h1 := ga hs (keys := []) hx MR (by rw [hk]; simp)
 have hE : (E.kj w []).pure = ⟨E.F, fun _ _ => none, E.gl⟩ := by
  refine Env.Eo (funext fun ad => ?_) rfl
  simp only [Env.pure,Env.kj]
  cases hh : E.F ad <;> simp
 rw [hE] at h1
 have jd : bc ⟨E.F, fun _ _ => none, E.gl⟩ w { tmps := #[], defers := [] } { fr := [], mem := [] } :=
  ⟨hs.F, (fun k v g e c h => by cases h), (fun k B h => by simp at h), (fun k _ v => rfl), (fun k B h => by simp at h), (fun k k' v v' g e c e' c' h => by cases h), .nil _⟩
 refine (h.2 _ w xs jd h1).mono ?_
 rintro en w' ⟨E', x, rfl, du, lr, hr⟩
 have fS : ∀ k v g e c, E'.aI k v = some (g, e, c) → w.heap.size ≤ g := fun k v g e c hb => by
  rcases du.aI _ _ _ _ _ hb with ⟨_, _, _, _, h⟩ | h
  ·cases h
  ·exact h
 have hold : ∀ b, b < w.heap.size → w'.heap[b]? = w.heap[b]? := fun b hb => du.heap b hb fun _ _ _ _ h => by cases h
 have Sf : ∀ ad y, E'.F ad = some y → E.F ad = some y ∨ w.heap.size ≤ ad.block := fun ad y hy => by
  rcases du.F _ _ hy with h | h | ⟨_, _, _, _, h⟩
  ·exact .inl h
  ·exact .inr h
  ·cases h
 have kX : ∀ k v, k < mem.length → (⟨E'.F, fun k v => if k < mem.length then E.aI k v else E'.aI (k - mem.length) v, E'.gl⟩ : Env).aI k v = E.aI k v := fun k v hk => if_pos hk
 have ou : ∀ k v, mem.length ≤ k → (⟨E'.F, fun k v => if k < mem.length then E.aI k v else E'.aI (k - mem.length) v, E'.gl⟩ : Env).aI k v = E'.aI (k - mem.length) v := fun k v hk => if_neg (by omega)
 generalize Sg : (⟨E'.F, fun k v => if k < mem.length then E.aI k v else E'.aI (k - mem.length) v, E'.gl⟩ : Env) = E2 at kX ou
 have eO : E2.F = E'.F := by rw [← Sg]
 have u4 : E2.pure = E'.pure := Env.Eo eO rfl
 have hle : E.le E2 := ⟨fun ad y hy => by rw [eO]; exact du.le.F _ _ hy, fun k v t hk => by
  rcases Nat.lt_or_ge k mem.length with bX | bX
  ·rw [kX k v bX]; exact hk
  ·rw [hs.top k bX v] at hk; cases hk⟩
 have get : ∀ {k : Nat} {B : aw}, (mem ++ aE)[k]? = some B → (k < mem.length ∧ mem[k]? = some B) ∨ (mem.length ≤ k ∧ aE[k - mem.length]? = some B) := fun {k B} h => by
  rcases Nat.lt_or_ge k mem.length with hk | hk
  ·rw [List.getElem?_append_left hk] at h; exact .inl ⟨hk, h⟩
  ·rw [List.getElem?_append_right hk] at h; exact .inr ⟨hk, h⟩
 refine ⟨E2, x, rfl, ⟨hle, fun k v g e c hk => ?_, fun ad y hy => ?_, du.os, du.tape, du.output, du.size, fun b hb _ => hold b hb⟩, ⟨fun ad y hy => lr.F _ _ (by rw [← eO]; exact hy), fun k v g e c hk => ?_, fun k B hk => ?_, fun k hk v => ?_, fun k B hk v hv => ?_, fun k k' v v' g e1 c1 e2 c2 h5 h6 => ?_, .nil _⟩, ?_⟩
 ·rcases Nat.lt_or_ge k mem.length with bX | bX
  ·rw [kX k v bX] at hk; exact .inl ⟨k, v, e, c, hk⟩
  ·rw [ou k v bX] at hk; exact .inr (fS _ _ _ _ _ hk)
 ·rw [eO] at hy
  rcases Sf ad y hy with h | h
  ·exact .inl h
  ·exact .inr (.inl h)
 ·rcases Nat.lt_or_ge k mem.length with bX | bX
  ·rw [kX k v bX] at hk; have := hs.lt _ _ _ _ _ hk; have := du.size; omega
  ·rw [ou k v bX] at hk; exact lr.lt _ _ _ _ _ hk
 ·rcases get hk with ⟨bX, hB⟩ | ⟨bX, hB⟩
  ·refine (hs.mem k B hB).mono hle (fun v hv => by rw [kX k v bX]; exact hv) (fun g e c hb => hold g (hs.lt _ _ _ _ _ hb)) fun g e c o hb hn => ?_
   rw [eO]
   cases hy : E'.F ⟨g, o, none⟩ with
   | none => rfl
   | some y =>
    rcases Sf _ y hy with h | h
    ·rw [hn] at h; cases h
    ·have := hs.lt _ _ _ _ _ hb; simp at h; omega
  ·have hl := List.all_eq_true.1 hm B (List.mem_of_getElem? hB)
   have h0 := lr.mem _ B hB
   cases B with
   | hole => exact fun v => by rw [ou k v bX]; exact h0 v
   | dead => trivial
   | box cs => simp [kE] at hl
   | loop s p fr ps a b => simp [kE] at hl
   | map aY clock => simp [kE] at hl
   | dF m since seen last => simp [kE] at hl
   | ia s pos => simp [kE] at hl
   | iA => simp [kE] at hl
   | rows v e rs =>
    rcases h0 with ⟨h1, h2⟩ | ⟨g, T, ys, c, h1, h2, h3, h4, h5, h6⟩
    ·exact .inl ⟨h1, by rw [ou k v bX]; exact h2⟩
    ·exact .inr ⟨g, T, ys, c, by rw [ou k v bX]; exact h1, h2, h3, h4, by rw [u4]; exact h5, fun o => by rw [eO]; exact h6 o⟩
   | mX v e rs =>
    rcases h0 with ⟨h1, h2⟩ | ⟨g, c, h1, h2, h3⟩
    ·exact .inl ⟨h1, by rw [ou k v bX]; exact h2⟩
    ·exact .inr ⟨g, c, by rw [ou k v bX]; exact h1, h2, by rw [u4, eO]; exact h3⟩
 ·dsimp only at hk
  simp only [List.length_append] at hk
  rw [ou k v (by omega)]; exact lr.top _ (by dsimp only; omega) v
 ·rcases get hk with ⟨bX, hB⟩ | ⟨bX, hB⟩
  ·rw [kX k v bX]; exact hs.aC k B hB v hv
  ·rw [ou k v bX]; exact lr.aC _ B hB v hv
 ·rcases Nat.lt_or_ge k mem.length with fH | fH <;> rcases Nat.lt_or_ge k' mem.length with kD | kD
  ·rw [kX k _ fH] at h5; rw [kX k' _ kD] at h6
   exact hs.apart _ _ _ _ _ _ _ _ _ h5 h6
  ·rw [kX k _ fH] at h5; rw [ou k' _ kD] at h6
   have := hs.lt _ _ _ _ _ h5; have := fS _ _ _ _ _ h6; omega
  ·rw [ou k _ fH] at h5; rw [kX k' _ kD] at h6
   have := hs.lt _ _ _ _ _ h6; have := fS _ _ _ _ _ h5; omega
  ·rw [ou k _ fH] at h5; rw [ou k' _ kD] at h6
   have := lr.apart _ _ _ _ _ _ _ _ _ h5 h6
   omega
 ·cases hr with
  | ms _ b v s l g e c a cap hb hl h0 hc => exact .ms _ _ _ _ _ g e c _ _ (by rw [ou _ v (by omega), Nat.add_sub_cancel_left]; exact hb) hl h0 hc
  | cZ => exact .cZ _ _ _ _

theorem bc.lQ {E : Env} {w : World} {a : Act} {st : St} (hs : bc E w a st) (v e : Nat) : bc E w a { st with mem := st.mem ++ [.rows v e []] } := by
 have get : ∀ {k : Nat} {B : aw}, (st.mem ++ [aw.rows v e []])[k]? = some B → st.mem[k]? = some B ∨ (B = aw.rows v e [] ∧ st.mem.length ≤ k) := fun {k B} h => by
  rcases Nat.lt_or_ge k st.mem.length with hk | hk
  ·rw [List.getElem?_append_left hk] at h; exact .inl h
  ·rw [List.getElem?_append_right hk] at h
   cases bX : k - st.mem.length with
   | zero => rw [bX] at h; cases h; exact .inr ⟨rfl, hk⟩
   | succ j => rw [bX] at h; cases h
 refine ⟨hs.F, hs.lt, fun k B hk => ?_, fun k hk => hs.top k (by simp at hk; omega), fun k B hk v hv => ?_, hs.apart, hs.fr⟩
 ·rcases get hk with h | ⟨rfl, bX⟩
  ·exact hs.mem k B h
  ·exact .inl ⟨rfl, hs.top k bX v⟩
 ·rcases get hk with h | ⟨rfl, bX⟩
  ·exact hs.aC k B h v hv
  ·exact hs.top k bX v
theorem bc.yS {E : Env} {w : World} {a : Act} {st : St} (hs : bc E w a st) {i : Nat} (b v : Nat) (h : st.fr[i]? = some (.sc (.slice none 0 0))) : bc E w a { st with fr := st.fr.set i (.ms b v 0 0) } := hs.Kc h
theorem vm {P : Program} {ρ : Option Nat} {n0 : Nat} {c : Code} {st : St} {Q : Exit → St → Prop} (i v e : Nat) (h0 : st.fr[i]? = some (.sc (.slice none 0 0))) (h : eL P ρ n0 c { fr := st.fr.set i (.ms st.mem.length v 0 0), mem := st.mem ++ [.rows v e []] } Q) : eL P ρ n0 c st Q :=
 lK (fun E w a hs => (hs.yS (i := i) st.mem.length v h0).lQ v e) h
end Go.Eng
end

section
namespace Go.Eng
variable [aH]
open Go.RowKit (Below)

theorem sZ {E E' : Env} {w w' : World} {mem aE l : List aw} (hs : bc E w { tmps := #[], defers := [] } { fr := [], mem := mem ++ l }) (V0 : dt (E.cut mem.length) w E' w') (Gc : bc E' w' { tmps := #[], defers := [] } { fr := [], mem := aE })
  (hlen : aE.length = mem.length) (hb : aE.all (az mem.length) = true) : ∃ E2, dt E w E2 w' ∧ bc E2 w' { tmps := #[], defers := [] } { fr := [], mem := aE ++ l } ∧ (E'.cut mem.length).le E2 := by
 have jd := Gc.cut (n := mem.length) rfl (by rw [List.take_of_length_le (by dsimp only; omega)]; exact hb)
 rw [List.take_of_length_le (by dsimp only; omega)] at jd
 dsimp only at jd
 have yU : ∀ k, mem.length ≤ k → ∀ v, (E.cut mem.length).aI k v = none := fun k hk v => if_neg (by omega)
 have du : dt (E.cut mem.length) w (E'.cut mem.length) w' := V0.cut yU
 have gJ : ∀ k v t, (E.cut mem.length).aI k v = some t → k < mem.length ∧ E.aI k v = some t := fun k v t h => by
  rcases Nat.lt_or_ge k mem.length with hk | hk
  ·exact ⟨hk, (if_pos hk).symm.trans h⟩
  ·rw [yU k hk] at h; cases h
 have Sj : ∀ k v t, (E'.cut mem.length).aI k v = some t → k < mem.length := fun k v t h => by
  rcases Nat.lt_or_ge k mem.length with hk | hk
  ·exact hk
  ·have h0 : (E'.cut mem.length).aI k v = none := if_neg (by omega)
   rw [h0] at h; cases h
 generalize ZD : E'.cut mem.length = xR at jd du Sj
 have kX : ∀ k v, k < mem.length → (⟨xR.F, fun k v => if k < mem.length then xR.aI k v else E.aI k v, xR.gl⟩ : Env).aI k v = xR.aI k v := fun k v hk => if_pos hk
 have ou : ∀ k v, mem.length ≤ k → (⟨xR.F, fun k v => if k < mem.length then xR.aI k v else E.aI k v, xR.gl⟩ : Env).aI k v = E.aI k v := fun k v hk => if_neg (by omega)
 generalize Sg : (⟨xR.F, fun k v => if k < mem.length then xR.aI k v else E.aI k v, xR.gl⟩ : Env) = E2 at kX ou
 have eO : E2.F = xR.F := by rw [← Sg]
 have ko : ∀ k v t, k < mem.length → E.aI k v = some t → (E.cut mem.length).aI k v = some t := fun k v t hk h => (if_pos hk).trans h
 have hle : E.le E2 := ⟨fun ad y hy => by rw [eO]; exact du.le.F _ _ hy, fun k v t hk => by
  rcases Nat.lt_or_ge k mem.length with bX | bX
  ·rw [kX k v bX]; exact du.le.aI _ _ _ (ko _ _ _ bX hk)
  ·rw [ou k v bX]; exact hk⟩
 have Sk : xR.le E2 := ⟨fun ad y hy => by rw [eO]; exact hy, fun k v t hk => by rw [kX k v (Sj _ _ _ hk)]; exact hk⟩
 have sG : ∀ k v g e c, mem.length ≤ k → E.aI k v = some (g, e, c) → ∀ k0 v0 e0 c0, (E.cut mem.length).aI k0 v0 ≠ some (g, e0, c0) := fun k v g e c hk hb k0 v0 e0 c0 h => by
  obtain ⟨h1, h2⟩ := gJ _ _ _ h
  have := hs.apart _ _ _ _ _ _ _ _ _ h2 hb
  omega
 have get : ∀ {k : Nat} {B : aw}, (aE ++ l)[k]? = some B → (k < mem.length ∧ aE[k]? = some B) ∨ (mem.length ≤ k ∧ (mem ++ l)[k]? = some B) := fun {k B} h => by
  rcases Nat.lt_or_ge k mem.length with hk | hk
  ·rw [List.getElem?_append_left (by omega)] at h; exact .inl ⟨hk, h⟩
  ·rw [List.getElem?_append_right (by omega), hlen] at h
   exact .inr ⟨hk, by rw [List.getElem?_append_right hk]; exact h⟩
 refine ⟨E2, ⟨hle, fun k v g e c hk => ?_, fun ad y hy => ?_, du.os, du.tape, du.output, du.size, fun b hb bH => du.heap b hb fun k v e c h => bH _ _ _ _ (gJ _ _ _ h).2⟩, ⟨fun ad y hy => jd.F _ _ (by rw [← eO]; exact hy), fun k v g e c hk => ?_, fun k B hk => ?_, fun k hk v => ?_, fun k B hk v hv => ?_, fun k k' v v' g e1 c1 e2 c2 h5 h6 => ?_, .nil _⟩, Sk⟩
 ·rcases Nat.lt_or_ge k mem.length with bX | bX
  ·rw [kX k v bX] at hk
   rcases du.aI _ _ _ _ _ hk with ⟨k0, v0, e0, c0, h⟩ | h
   ·exact .inl ⟨_, _, _, _, (gJ _ _ _ h).2⟩
   ·exact .inr h
  ·rw [ou k v bX] at hk; exact .inl ⟨_, _, _, _, hk⟩
 ·rw [eO] at hy
  rcases du.F _ _ hy with h | h | ⟨k0, v0, e0, c0, h⟩
  ·exact .inl h
  ·exact .inr (.inl h)
  ·exact .inr (.inr ⟨_, _, _, _, (gJ _ _ _ h).2⟩)
 ·rcases Nat.lt_or_ge k mem.length with bX | bX
  ·rw [kX k v bX] at hk; exact jd.lt _ _ _ _ _ hk
  ·rw [ou k v bX] at hk; exact Nat.lt_of_lt_of_le (hs.lt _ _ _ _ _ hk) du.size
 ·rcases get hk with ⟨bX, hB⟩ | ⟨bX, hB⟩
  ·exact (jd.mem k B hB).mono Sk (fun v hv => by rw [kX k v bX]; exact hv) (fun _ _ _ _ => rfl) fun g e c o _ hn => by rw [eO]; exact hn
  ·refine (hs.mem k B hB).mono hle (fun v hv => by rw [ou k v bX]; exact hv) (fun g e c hb => du.heap g (hs.lt _ _ _ _ _ hb) fun k0 v0 e0 c0 h => sG _ _ _ _ _ bX hb _ _ _ _ h) fun g e c o hb hn => ?_
   rw [eO]
   cases hy : xR.F ⟨g, o, none⟩ with
   | none => rfl
   | some y =>
    rcases du.F _ _ hy with h | h | ⟨k0, v0, e0, c0, h⟩
    ·have h' : E.F ⟨g, o, none⟩ = some y := h
     rw [hn] at h'; cases h'
    ·have := hs.lt _ _ _ _ _ hb; simp at h; omega
    ·exact absurd h (sG _ _ _ _ _ bX hb _ _ _ _)
 ·dsimp only at hk
  simp only [List.length_append] at hk
  rw [ou k v (by omega)]; exact hs.top k (by simp; omega) v
 ·rcases get hk with ⟨bX, hB⟩ | ⟨bX, hB⟩
  ·rw [kX k v bX]; exact jd.aC k B hB v hv
  ·rw [ou k v bX]; exact hs.aC k B hB v hv
 ·have mixed : ∀ k k' v v' g e1 c1 e2 c2, k < mem.length → mem.length ≤ k' → xR.aI k v = some (g, e1, c1) → E.aI k' v' = some (g, e2, c2) → k = k' := fun k k' v v' g e1 c1 e2 c2 hk eS h h' => by
   rcases du.aI _ _ _ _ _ h with ⟨k0, v0, e0, c0, h0⟩ | h0
   ·exact absurd h0 (sG _ _ _ _ _ eS h' _ _ _ _)
   ·have := hs.lt _ _ _ _ _ h'; omega
  rcases Nat.lt_or_ge k mem.length with fH | fH <;> rcases Nat.lt_or_ge k' mem.length with kD | kD
  ·rw [kX k _ fH] at h5; rw [kX k' _ kD] at h6
   exact jd.apart _ _ _ _ _ _ _ _ _ h5 h6
  ·rw [kX k _ fH] at h5; rw [ou k' _ kD] at h6
   exact mixed _ _ _ _ _ _ _ _ _ fH kD h5 h6
  ·rw [ou k _ fH] at h5; rw [kX k' _ kD] at h6
   exact (mixed _ _ _ _ _ _ _ _ _ kD fH h6 h5).symm
  ·rw [ou k _ fH] at h5; rw [ou k' _ kD] at h6
   exact hs.apart _ _ _ _ _ _ _ _ _ h5 h6

theorem yV {E : Env} {w : World} {mem l : List aw} (hs : bc E w { tmps := #[], defers := [] } { fr := [], mem := mem ++ l }) (hb : mem.all (az mem.length) = true) : bc (E.cut mem.length) w { tmps := #[], defers := [] } { fr := [], mem := mem } := by
 have h := hs.cut (n := mem.length) rfl (by rw [List.take_left]; exact hb)
 rwa [List.take_left] at h
theorem aP.below {E : Env} {n : Nat} {vs : List V} {xs : List Value} (h : aP E vs xs) (hb : vs.all (ai n) = true) : aP (E.cut n) vs xs :=
 ⟨h.1, fun i v x hv hx => fg (h.2 i v x hv hx) (List.all_eq_true.1 hb v (List.mem_of_getElem? hv))⟩

theorem aR.frame {P : Program} {f : FuncId} {vs : List V} {r : V} {mem aE : List aw} (h : aR P f vs mem r aE) (hv : vs.all (ai mem.length) = true) (hm : mem.all (az mem.length) = true) (hr : ai mem.length r = true) (hlen : aE.length = mem.length) (G4 : aE.all (az mem.length) = true) (l : List aw) :
  aR P f vs (mem ++ l) r (aE ++ l) := by
 refine ⟨h.1, fun E w xs hs hx => ?_⟩
 refine (h.2 _ w xs (yV hs hm) (hx.below hv)).mono ?_
 rintro en w' ⟨E', x, rfl, du, lr, oD⟩
 obtain ⟨E2, h1, h2, h3⟩ := sZ hs du lr hlen G4
 exact ⟨E2, x, rfl, h1, h2, (fg oD hr).mono h3⟩
theorem Q4.frame {P : Program} {k : Nat} {vs : List V} {mem aE : List aw} {b : Bool} (h : Q4 P k vs mem b aE) (hk : k < mem.length) (hv : vs.all (ai mem.length) = true) (hm : mem.all (az mem.length) = true) (hlen : aE.length = mem.length) (G4 : aE.all (az mem.length) = true) (l : List aw) :
  Q4 P k vs (mem ++ l) b (aE ++ l) := by
 intro E w xs lp e c hs hx hb
 obtain ⟨fn, tmps, assign, body, h1, h2⟩ := h _ w xs lp e c (yV hs hm) (hx.below hv) ((if_pos hk).trans hb)
 refine ⟨fn, tmps, assign, body, h1, h2.mono ?_⟩
 rintro en w' ⟨E', rfl, du, lr⟩
 obtain ⟨E2, h3, h4, -⟩ := sZ hs du lr hlen G4
 exact ⟨E2, rfl, h3, h4⟩
theorem Sl : (false == true) = false := rfl
theorem Sm : (true == false) = false := rfl
theorem Kq (mem : List aw) (ts : Array TypeId) (P : Program) (r : List V) : ow mem ts P [.slice r] = none := rfl
theorem Kr (mem : List aw) (ts : Array TypeId) (P : Program) (b v s l : Nat) : ow mem ts P [.ms b v s l] = none := rfl
theorem Ks (mem : List aw) (ts : Array TypeId) (P : Program) (x : Value) : ow mem ts P [.sc x] = none := rfl
end Go.Eng
end
