/-
  THE ENGINE, L: the steps are sound; code; functions.
  THE ENGINE, M: a table of types, checked by the kernel.
  THE ENGINE, N: rules and facts for carrying it out by simp.
  THE ENGINE, O: closures' contracts; a range over a function.
  THE ENGINE, P: regions that draw their order.
  THE ENGINE, Q: regions that draw their order are sound.
  THE ENGINE, R: a region that draws its order comes to what it comes to in the order of its text.
  THE ENGINE, S: functions that hand back rows that their caller may write.
  THE ENGINE, U: what a contract does not speak of stays.
-/
import Derived.Test.YtnfeacnbgbggfaaGreatDoorE2
import Derived.RangeFuncRecord
import Derived.OrdersIn
set_option linter.all false
section
namespace Go.Eng
variable [aE]
open Go.RowKit (Below)

theorem dH {P : Program} {s : Sem Value} {w w' : World} {x : Value} (h : s.run P w = .ok x w') : (do pure (Next.value (← s)) : Sem Next).run P w = .ok (.value x) w' := by
 simp [h]

def xF (E : Env) (w : World) (a : Act) (dst : Option Tmp) (Q : St → Prop) (v : Value) (w' : World) : Prop := ∃ E' st', aZ E' w' (a.put dst v) st' ∧ dn E w E' w' ∧ Q st'

def WF (ρ : Option Nat) : Fence := { fn := fun _ => True, depth := none, alive := false, round := ρ }
theorem r8 {ρ : Option Nat} {n : Nat} {P : Program} {f : FuncId} {xs : Array Value} {w : World} {R : Ending → World → Prop} (h : Calls P f xs w R) : CallsIn (WF ρ) n P f xs w R := by
 have h1 : CallsIn Fence.wide n P f xs w R := callsIn_wide.2 h
 cases ρ with
 | none => exact h1
 | some l => exact h1.inRound l
theorem xG {n : Nat} {P : Program} {f : FuncId} {xs : Array Value} {w : World} {R : Ending → World → Prop} (h : CallsIn (WF none) n P f xs w R) : Calls P f xs w R := callsIn_wide.1 h
theorem zV {ρ : Option Nat} {n : Nat} {P : Program} {l : Nat} {f : FuncId} {tmps : Array Value} {assign body : Code} {w : World} {R : Ending → World → Prop} (h : RoundIn Fence.wide 0 P l f tmps assign body w R) : RoundIn (WF ρ) n P l f tmps assign body w R := by
 refine ⟨trivial, fun c cs _ => ?_⟩
 exact h.2 c cs (room_wide _)
section
variable {P : Program} {ρ : Option Nat} {n : Nat} {o : Oper} {a : Act} {w w' : World} {next : Act → World → Prop} {Q : Exit → Act → World → Prop} (jX : ∀ c, o.op ≠ .defer c)
include jX
theorem bd {v : Value} (h : (execOp a.eval o).run P w = .ok (.value v) w') (hn : next (a.put o.dst v) w') : o.wpIn (WF ρ) n P a w next Q := by
 refine ⟨fun _ _ => trivial, ?_⟩
 rw [Oper.semAt_eq _ _ _ jX, h]; exact hn
theorem iv (h : (execOp a.eval o).run P w = .ok .skip w') (hn : next (a.put o.dst undef) w') : o.wpIn (WF ρ) n P a w next Q := by
 refine ⟨fun _ _ => trivial, ?_⟩
 rw [Oper.semAt_eq _ _ _ jX, h]; exact hn
theorem qk {f : FuncId} {xs : Array Value} {R : Ending → World → Prop} (h : (execOp a.eval o).run P w = .ok (.enter f xs) w) (hc : Calls P f xs w R) (hR : ∀ e w', R e w' → ∃ v, e = .returned v ∧ next (a.put o.dst v) w') :
  o.wpIn (WF ρ) n P a w next Q := by
 refine ⟨fun _ _ => trivial, ?_⟩
 rw [Oper.semAt_eq _ _ _ jX, h]
 refine ⟨fun h => by simp [WF] at h, (r8 hc).mono fun e w' he => ?_⟩
 obtain ⟨v, rfl, hn⟩ := hR e w' he
 exact hn
theorem ql {l : Nat} {f : FuncId} {tmps : Array Value} {assign body : Code} {R : Ending → World → Prop} (h : (execOp a.eval o).run P w = .ok (.round l f tmps assign body) w) (hc : RoundIn Fence.wide 0 P l f tmps assign body w R)
  (hR : ∀ e w', R e w' → ∃ v, e = .returned v ∧ next (a.put o.dst v) w') : o.wpIn (WF ρ) n P a w next Q := by
 refine ⟨fun _ _ => trivial, ?_⟩
 rw [Oper.semAt_eq _ _ _ jX, h]
 refine ⟨fun h => by simp [WF] at h, (zV hc).mono fun e w' he => ?_⟩
 obtain ⟨v, rfl, hn⟩ := hR e w' he
 exact hn
end

theorem qm {P : Program} {E : Env} {w : World} {a : Act} {st : St} (hs : aZ E w a st) {f : FuncId} {vs : List V} {dst : Option Tmp} {Q : St → Prop} (h : uq P f vs st dst Q) {xs : Array Value} (hx : aP E vs xs.toList) :
  ((callFunc f xs).run P w = .ok (.enter f xs) w ∧ Calls P f xs w fun e w' => ∃ v, e = .returned v ∧ xF E w a dst Q v w') ∨ ∃ v, (callFunc f xs).run P w = .ok (.value v) w ∧ xF E w a dst Q v w := by
 rcases h with ⟨vs', r, hp, hf, hQ⟩ | ⟨r, aD, hf, hQ⟩ | ⟨R, hf, hQ⟩ | ⟨r, hf, hQ⟩
 ·refine .inl ⟨hf.1 xs w, (Dw hs hx hp hf).mono ?_⟩
  rintro e w' ⟨E', x, rfl, dq, kR, hr⟩
  exact ⟨x, rfl, E', _, kR.put dst hr, dq, hQ⟩
 ·refine .inl ⟨hf.1 xs w, (hf.2 E w xs hs.bare hx).mono ?_⟩
  rintro e w' ⟨E', x, rfl, dq, kR, hr⟩
  exact ⟨x, rfl, E', _, (hs.xD kR dq.le).put dst hr, dq, hQ⟩
 ·refine .inl ⟨hf.1 xs w, (hf.2 E w xs hs.bare hx).mono ?_⟩
  rintro e w' ⟨E', x, r, aD, rfl, hR, dq, kR, hr⟩
  exact ⟨x, rfl, E', _, (hs.xD kR dq.le).put dst hr, dq, hQ _ _ hR⟩
 ·obtain ⟨x, h1, h2⟩ := hf E w xs hs.F hx
  exact .inr ⟨x, h1, E, _, hs.put dst h2, dn.refl E w, hQ⟩

theorem dh {P : Program} {tt : Table} (ht : TT P tt) {E : Env} {w : World} {a : Act} {st : St} (hs : aZ E w a st) {key : Nat} (hk : dL st.mem key) {o : Oper} {Q : St → Prop} (h : bD P tt key o st Q)
  {ρ : Option Nat} {n : Nat} {next : Act → World → Prop} {Q' : Exit → Act → World → Prop} (hn : ∀ v w', xF E w a o.dst Q v w' → next (a.put o.dst v) w') : o.wpIn (WF ρ) n P a w next Q' := by
 obtain ⟨dst, op, type, pos, after, guard⟩ := o
 have jX : ∀ c, op ≠ .defer c := by
  rintro c rfl
  simp [bD, fJ] at h
 unfold bD at h
 dsimp only at h
 split at h
 ·-- alloc
  rename_i T
  split at h
  ·rename_i i hi
   obtain ⟨info, nQ, -, -, z, hz, Dq⟩ := ht.size T i hi
   have hr : aP E (i.zero.map V.sc) z.cells.toList := by
    rw [Dq]; exact ⟨by simp, fun k c x hc hx => by
     simp only [List.getElem?_map,hx,Option.map_some,Option.some.injEq] at hc; subst hc; exact .sc _ _⟩
   obtain ⟨E', h1, h2, h3⟩ := hs.Fl hk hr T
   refine bd jX (v := .pointer (some ⟨w.heap.size, 0, none⟩)) (w' := w.alloc (.cells z.cells T (0, 0))) ?_ (hn _ _ ⟨E', _, h1.put dst h3, h2, h⟩)
   have QX : (zeroValue T).run P w = .ok z w := by simp [zeroValue, cE nQ, hz]
   simp [execOp, Instr.alloc, QX, newVar, newRow]
  ·exact h.elim
 ·-- box
  rename_i T x
  split at h
  ·rename_i cs tD
   obtain ⟨hr, -⟩ := jS (hs.eval x) tD
   obtain ⟨E', h1, h2, h3⟩ := hs.Fl hk hr T
   refine bd jX (v := .pointer (some ⟨w.heap.size, 0, none⟩)) (w' := w.alloc (.cells (a.eval x).cells T (0, 0))) ?_ (hn _ _ ⟨E', _, h1.put dst h3, h2, h⟩)
   simp [execOp, Instr.box, newVar, newRow]
  ·exact h.elim
 ·-- build
  split at h
  ·rename_i v hv
   obtain ⟨x, h1, h2⟩ := oi ht hs hv
   exact bd jX (ba h1) (hn _ _ ⟨E, _, hs.put dst h2, dn.refl E w, h⟩)
  ·exact h.elim
 ·-- buildSlice
  rename_i T len parts
  split at h
  ·rename_i size rs hl
   obtain ⟨Z, e, h1, h2, h3, h4⟩ := vz ht (fun p _ => hs.eval p.2) hl
   obtain ⟨E', h5, h6, h7⟩ := hs.n5 hk (xs := Z) (rs := rs) (c := len) e h2 (by omega) h4
   rw [h3] at h7
   exact bd jX (dH h1) (hn _ _ ⟨E', _, h5.put dst h7, h6, h⟩)
  ·split at h
   ·rename_i size rs hl
    unfold nd at hl
    split at hl
    ·rename_i vs' TJ
     obtain ⟨E1, jn, Je, FF⟩ := hs.freeze TJ
     have Yl : ∀ (l : List (Nat × Operand)) (us LR : List V), us = l.map (fun p => st.eval p.2) → cy st.mem us = some LR → aP E1 LR (l.map fun p => a.eval p.2) → ∀ p ∈ l, aW E1 (BW st.mem st.eval p.2) (a.eval p.2) := by
      intro l
      induction l with
      | nil => intro us LR _ _ _ p hp; simp at hp
      | cons q r ih =>
       intro us LR hu hp hr p M8
       subst hu
       simp only [List.map_cons,cy] at hp
       split at hp
       ·rename_i c' hc
        split at hp
        ·rename_i r' tF
         cases hp
         obtain ⟨y, ys, hy, g1, g2⟩ := hr.of_cons
         simp only [List.map_cons,List.cons.injEq] at hy
         obtain ⟨rfl, rfl⟩ := hy
         rcases List.mem_cons.1 M8 with rfl | M8
         ·unfold BW; rw [hc]; exact g1
         ·exact ih _ _ rfl tF g2 p M8
        ·cases hp
       ·cases hp
     have mZ : aP E (parts.toList.map fun p => st.eval p.2) (parts.toList.map fun p => a.eval p.2) := by
      refine ⟨by simp, fun i v x hv hx => ?_⟩
      simp only [List.getElem?_map,Option.map_eq_some_iff] at hv hx
      obtain ⟨q, hq, rfl⟩ := hv
      obtain ⟨q', II, rfl⟩ := hx
      rw [hq] at II; cases II
      exact hs.eval q.2
     have UI := Yl parts.toList _ _ rfl TJ (FF _ mZ)
     have fC : dL ({ st with mem := bT st.mem (fa st.eval parts.toList) } : St).mem key := by
      unfold dL
      dsimp only
      rw [jV, mP]
      rcases hk with hk | hk
      ·rw [hk]; exact .inl rfl
      ·exact .inr hk
     obtain ⟨Z, e, h1, h2, h3, h4⟩ := vz ht (w := w) UI hl
     obtain ⟨E', h5, h6, h7⟩ := jn.n5 fC (xs := Z) (rs := rs) (c := len) e h2 (by omega) h4
     rw [h3] at h7
     exact bd jX (dH h1) (hn _ _ ⟨E', _, h5.put dst h7, Je.trans h6, h⟩)
    ·cases hl
   ·exact h.elim
 ·-- store
  rename_i T p x
  split at h
  ·rename_i aD hm
   obtain ⟨w', h1, h2, h3⟩ := oa ht hs (hs.eval _) (hs.eval _) hm
   refine iv jX (w' := w') ?_ (hn _ _ ⟨E, _, h2.put dst (.sc _ _), h3, h⟩)
   simp [execOp, h1]
  ·split at h
   ·rename_i aD hm
    unfold vH at hm
    split at hm
    ·rename_i v' qJ
     obtain ⟨E1, jn, Je, FF⟩ := hs.freeze (vs := [st.eval x]) (vs' := [v']) (by simp [cy, qJ])
     simp only [List.flatMap_cons,List.flatMap_nil,List.append_nil] at jn
     obtain ⟨z, r, hz, h4, -⟩ := (FF [a.eval x] (.cons (hs.eval x) (.nil _))).of_cons
     simp only [List.cons.injEq] at hz
     obtain ⟨rfl, -⟩ := hz
     obtain ⟨w', h1, h2, h3⟩ := oa ht jn ((hs.eval p).mono Je.le) h4 hm
     refine iv jX (w' := w') ?_ (hn _ _ ⟨E1, _, h2.put dst (.sc _ _), Je.trans h3, h⟩)
     simp [execOp, h1]
    ·cases hm
   ·exact h.elim
 ·-- append
  rename_i xs ts
  split at h
  ·rename_i s x Jf
   split at h
   ·rename_i size nR rows ha
    have he := hs.jq xs
    rw [Jf] at he
    obtain ⟨y, r1, hy, zO, he⟩ := he.of_cons
    obtain ⟨z, r2, hz, qN, he⟩ := he.of_cons
    have := he.of_nil
    subst this; subst hz
    have mZ : xs.map a.eval = #[y, z] := by rw [← Array.toArray_toList (xs := xs.map a.eval), hy]
    obtain ⟨v, w', E', h1, h2, h3, h4⟩ := tL ht hs (ty := type) hk zO qN ha
    refine bd jX (v := v) (w' := w') ?_ (hn _ _ ⟨E', _, h2.put dst h4, h3, h⟩)
    simp only [execOp,resolve,Sem.run_bind,Sem.run_pure,Result.andThen_ok,invoke,builtin,mZ,h1]
   ·unfold qj at h
    split at h
    ·rename_i size b v l rs news ha
     have he := hs.jq xs
     rw [Jf] at he
     obtain ⟨y, r1, hy, zO, he⟩ := he.of_cons
     obtain ⟨z, r2, hz, qN, he⟩ := he.of_cons
     have := he.of_nil
     subst this; subst hz
     have mZ : xs.map a.eval = #[y, z] := by rw [← Array.toArray_toList (xs := xs.map a.eval), hy]
     obtain ⟨u, w', E', o', rs', h1, M9, Dy, h2, h3, h4⟩ := tP ht hs (ty := type) zO qN ha
     refine bd jX (v := u) (w' := w') ?_ (hn _ _ ⟨E', _, h2.put dst h4, h3, h o' rs' M9 Dy⟩)
     simp only [execOp,resolve,Sem.run_bind,Sem.run_pure,Result.andThen_ok,invoke,builtin,mZ,h1]
    ·exact h.elim
  ·exact h.elim
 ·-- a call
  rename_i f xs ts
  split at h
  ·-- yield
   rename_i k Qd
   have hf := hs.eval f
   rw [Qd] at hf
   generalize W7 : a.eval f = fx at hf
   cases hf with
   | gY _ _ l e c hb =>
    rcases h with ⟨b, aD, hy, hQ⟩ | ⟨R, hy, hQ⟩
    rotate_left
    ·obtain ⟨fn, tmps, assign, body, h1, h2⟩ := hy E w (xs.map a.eval) l e c hs.bare (hs.jq xs) hb
     refine ql jX (l := l) (f := fn) (tmps := tmps) (assign := assign) (body := body) ?_ h2 fun e w' ⟨E', b, aD, he, hR, dq, kR⟩ => ⟨_, he, hn _ _ ⟨E', _, (hs.xD kR dq.le).put dst (.sc _ _), dq, hQ _ _ hR⟩⟩
     rw [← h1]
     simp [execOp, resolve, W7, Deferred.ofValue, invoke]
    obtain ⟨fn, tmps, assign, body, h1, h2⟩ := hy E w (xs.map a.eval) l e c hs.bare (hs.jq xs) hb
    refine ql jX (l := l) (f := fn) (tmps := tmps) (assign := assign) (body := body) ?_ h2 fun e w' ⟨E', he, dq, kR⟩ => ⟨_, he, hn _ _ ⟨E', _, (hs.xD kR dq.le).put dst (.sc _ _), dq, hQ⟩⟩
    rw [← h1]
    simp [execOp, resolve, W7, Deferred.ofValue, invoke]
  ·rename_i Qd
   split at h
   ·rename_i g vs hg
    obtain ⟨ys, h1, h2⟩ := lb (P := P) (w := w) (hs.eval f) (hs.jq xs) hg
    rcases qm hs h h1 with ⟨h3, h4⟩ | ⟨v, h3, h4⟩
    ·refine qk jX (f := g) (xs := ys) ?_ h4 fun e w' ⟨v, hv, ha⟩ => ⟨v, hv, hn _ _ ha⟩
     rw [← h3, ← h2]
     simp only [execOp,resolve]
    ·refine bd jX (v := v) ?_ (hn _ _ h4)
     rw [← h3, ← h2]
     simp only [execOp,resolve]
   ·exact h.elim
 ·split at h
  ·rename_i size rs cap hm
   obtain ⟨E', w', h1, h2, h3, h4⟩ := xx (P := P) ht hs hk (hs.eval _) (hs.eval _) hm
   exact bd jX (dH h1) (hn _ _ ⟨E', _, h2.put dst h4, h3, h⟩)
  ·exact h.elim
 ·-- a map
  obtain ⟨E', w', h1, h2, h3, h4⟩ := tN (P := P) hs hk _
  exact bd jX (dH h1) (hn _ _ ⟨E', _, h2.put dst h4, h3, h⟩)
 ·split at h
  ·rename_i aD hm
   obtain ⟨w', h1, h2, h3⟩ := mN (P := P) hs (hs.eval _) (hs.eval _) (hs.eval _) hm
   refine iv jX (w' := w') ?_ (hn _ _ ⟨E, _, h2.put dst (.sc _ _), h3, h⟩)
   simp [execOp, h1]
  ·exact h.elim
 ·split at h
  ·rename_i aD hm
   obtain ⟨w', h1, h2, h3⟩ := mN (P := P) hs (hs.eval _) (hs.eval _) (hs.eval _) hm
   refine iv jX (w' := w') ?_ (hn _ _ ⟨E, _, h2.put dst (.sc _ _), h3, h⟩)
   simp [execOp, h1]
  ·exact h.elim
 ·split at h
  ·rename_i aD v hm
   obtain ⟨z, w', h1, h2, h3, h4⟩ := vC (P := P) hs (hs.eval _) (hs.eval _) hm
   exact bd jX (dH h1) (hn _ _ ⟨E, _, h2.put dst h4, h3, h⟩)
  ·exact h.elim
 ·rename_i T m s x
  split at h
  ·rename_i aD hm
   obtain ⟨w', h1, h2, h3⟩ := vD (P := P) (T := T) hs (hs.eval _) (hs.eval _) (hs.eval _) hm
   refine iv jX (w' := w') ?_ (hn _ _ ⟨E, _, h2.put dst (.sc _ _), h3, h⟩)
   simp [execOp, h1]
  ·exact h.elim
 ·rename_i xs ts
  split at h
  ·rename_i aD hm
   obtain ⟨w', h1, h2, h3⟩ := tM (ty := type) hs (hs.jq xs) hm
   refine bd jX (v := .tuple #[]) (w' := w') ?_ (hn _ _ ⟨E, _, h2.put dst (.sc _ _), h3, h⟩)
   simp only [execOp,resolve,Sem.run_bind,Sem.run_pure,Result.andThen_ok,invoke,builtin,h1]
  ·exact h.elim
 ·split at h
  ·rename_i B hB
   obtain ⟨E', w', h1, h2, h3, h4⟩ := rU (P := P) hs hk (hs.eval _) hB
   exact bd jX (dH h1) (hn _ _ ⟨E', _, h2.put dst h4, h3, h⟩)
  ·exact h.elim
 ·obtain ⟨z, w', st', h1, h2, h3, h4⟩ := xw (P := P) (ty := type) hs (hs.eval _) h
  exact bd jX (dH h1) (hn _ _ ⟨E, st', h2, h3, h4⟩)
 ·-- a Na
  rename_i op T x y yT
  split at h
  ·rename_i m hm
   obtain ⟨b, hb, cJ⟩ := vG (P := P) (w := w) ht x y (hs.eval x) (hs.eval y) hm
   exact bd jX (ba cJ) (hn _ _ ⟨E, _, hs.put dst (.sc _ _), dn.refl E w, h b hb⟩)
  ·split at h
   ·rename_i v hv
    obtain ⟨x, h1, h2⟩ := lY ht hs hv
    exact bd jX h1 (hn _ _ ⟨E, _, hs.put dst h2, dn.refl E w, h⟩)
   ·exact h.elim
 ·split at h
  ·rename_i v hv
   obtain ⟨x, h1, h2⟩ := lY ht hs hv
   exact bd jX h1 (hn _ _ ⟨E, _, hs.put dst h2, dn.refl E w, h⟩)
  ·exact h.elim

def cT (all : Array Oper) (fr : List V) (o : Oper) : Option Bool :=
 match o.guard with
 | none => some true
 | some (j, want) => match (all[j]?).bind (·.dst) with
  | none => some false
  | some d => match fr[d]? with
   | some (.sc (.bool b)) => some (b == want)
   | some (.sc _) => some false
   | some _ => none
   | none => some false

theorem gw {E : Env} {w : World} {a : Act} {st : St} (hs : aZ E w a st) {all : Array Oper} {o : Oper} {b : Bool} (h : cT all st.fr o = some b) : Region.wanted o (yielded all a.tmps) = b := by
 unfold cT at h
 unfold Region.wanted
 split at h
 ·rename_i hg; rw [hg]; simpa using h
 ·rename_i j want hg
  rw [hg]
  dsimp only
  unfold yielded
  split at h
  ·rename_i hd; rw [hd]; simp at h; subst h; rfl
  ·rename_i d hd
   rw [hd]
   split at h
   ·rename_i bb hf
    obtain ⟨x, hx, hr⟩ := hs.fr.get hf
    obtain rfl := bZ hr
    simp only [Option.some.injEq] at h; subst h
    have : a.tmps[d]? = some (.bool bb) := by simpa using hx
    simp [this]
   ·rename_i v bL hf
    obtain ⟨x, hx, hr⟩ := hs.fr.get hf
    obtain rfl := bZ hr
    simp only [Option.some.injEq] at h; subst h
    have : a.tmps[d]? = some x := by simpa using hx
    simp only [Option.bind_some,this]
    cases x <;> first | rfl | exact absurd rfl (bL _)
   ·cases h
   ·rename_i hf
    simp only [Option.some.injEq] at h; subst h
    have hl : st.fr.length = a.tmps.size := by have := hs.fr.1; simpa using this
    have : a.tmps[d]? = none := by
     rw [List.getElem?_eq_none_iff] at hf
     exact Array.getElem?_eq_none (by omega)
    simp [this]

def dx (P : Program) (tt : Table) (all : Array Oper) : List Oper → St → (St → Prop) → Prop
 | [], st, Q => Q st
 | o :: r, st, Q => match cT all st.fr o with
  | some true => bD P tt st.mem.length o st fun st' => dx P tt all r st' Q
  | some false => dx P tt all r (st.put o.dst (.sc undef)) Q
  | none => False

theorem put_defers (a : Act) (dst : Option Tmp) (v : Value) : (a.put dst v).defers = a.defers := by cases dst <;> rfl
theorem vI {P : Program} {tt : Table} (ht : TT P tt) {ρ : Option Nat} {n : Nat} {all : Array Oper} {Q : St → Prop} {Q' : Exit → Act → World → Prop} : ∀ (Q3 pre : List Oper), all.toList = pre ++ Q3 →
  ∀ {E : Env} {w : World} {a : Act} {st : St}, aZ E w a st → dx P tt all Q3 st Q → (∀ a' w', a'.defers = a.defers → (∃ E' st', aZ E' w' a' st' ∧ dn E w E' w' ∧ Q st') → Q' .normal a' w') → wpOpsIn (WF ρ) n P all Q' (List.range' pre.length Q3.length) a w := by
 intro Q3
 induction Q3 with
 | nil => intro pre _ E w a st hs h hq; exact hq _ _ rfl ⟨E, st, hs, dn.refl E w, h⟩
 | cons o r ih =>
  intro pre aV E w a st hs h hq
  have eR : all[pre.length]? = some o := by
   rw [← Array.getElem?_toList, aV, List.getElem?_append_right (Nat.le_refl _)]; simp
  have Q4 : all.toList = (pre ++ [o]) ++ r := by rw [aV]; simp
  have UJ := @ih (pre ++ [o]) Q4
  simp only [List.length_append,List.length_cons,List.length_nil,Nat.zero_add] at UJ
  rw [List.length_cons, List.range'_succ, wpOpsIn, eR]
  dsimp only
  simp only [dx] at h
  split at h
  ·rename_i hw
   rw [if_pos (gw hs hw)]
   refine dh ht hs (.inr rfl) h ?_
   rintro v w' ⟨E', st', h1, h2, h3⟩
   exact UJ h1 h3 fun Ym W8 hd ⟨w4, Nb, h4, h5, h6⟩ => hq _ _ (hd.trans (put_defers _ _ _)) ⟨w4, Nb, h4, h2.trans h5, h6⟩
  ·rename_i hw
   rw [if_neg (by rw [gw hs hw]; simp)]
   exact ⟨fun _ _ => trivial, UJ (hs.put o.dst (.sc _ _)) h fun Ym W8 hd h => hq _ _ (hd.trans (put_defers _ _ _)) h⟩
  ·exact h.elim

def Marks (E : Env) (w : World) (base : Nat) (ds : List Deferred) : Prop :=
 ∃ rs : List Nat, ds = rs.map (fun r => { target := .collected r, args := #[] }) ∧ rs.Nodup ∧ ∀ r ∈ rs, base ≤ r ∧ w.heap[r]? = some (.deferred (some [])) ∧ ∀ k v e c, E.aK k v ≠ some (r, e, c)
theorem Marks.E5 {E E' : Env} {w w' : World} {base : Nat} {ds : List Deferred} (h : Marks E w base ds) (he : dn E w E' w') : Marks E' w' base ds := by
 obtain ⟨rs, h1, h2, h3⟩ := h
 refine ⟨rs, h1, h2, fun r hr => ?_⟩
 obtain ⟨h6, h4, h5⟩ := h3 r hr
 have az : r < w.heap.size := by
  rcases Nat.lt_or_ge r w.heap.size with h | h
  ·exact h
  ·rw [Array.getElem?_eq_none h] at h4; cases h4
 refine ⟨h6, (he.heap r az h5).trans h4, fun k v e c hk => ?_⟩
 rcases he.aK _ _ _ _ _ hk with ⟨k0, v0, e0, c0, h⟩ | h
 ·exact h5 _ _ _ _ h
 ·omega
theorem Marks.nil (E : Env) (w : World) (base : Nat) : Marks E w base [] := ⟨[], rfl, .nil, fun r h => by simp at h⟩

def Nc (E0 : Env) (w0 : World) (Q : Exit → St → Prop) : Exit → Act → World → Prop := fun ex a' w' => ∃ E' st', aZ E' w' a' st' ∧ dn E0 w0 E' w' ∧ Marks E' w' w0.heap.size a'.defers ∧ Q ex st'

def gx (P : Program) (ρ : Option Nat) (n0 : Nat) (c : Code) (st : St) (Q : Exit → St → Prop) : Prop :=
 ∀ (E0 : Env) (w0 : World), (∀ k, n0 ≤ k → ∀ v, E0.aK k v = none) → ∀ (E : Env) (w : World) (a : Act), dn E0 w0 E w → aZ E w a st → Marks E w w0.heap.size a.defers → c.wpIn (WF ρ) 0 P (Nc E0 w0 Q) a w

def dU (next : St → Prop) (Q : Exit → St → Prop) : Exit → St → Prop
 | .normal, st => next st
 | e, st => Q e st
def eB (id : Nat) (Q : Exit → St → Prop) : Exit → St → Prop
 | .exit j, st => if j = id then Q .normal st else Q (.exit j) st
 | e, st => Q e st

section
variable {P : Program} {tt : Table} {ρ : Option Nat} {n0 : Nat} {st : St} {Q : Exit → St → Prop}
theorem gx.mono {c : Code} {Q' : Exit → St → Prop} (h : gx P ρ n0 c st Q) (hq : ∀ e st', Q e st' → Q' e st') : gx P ρ n0 c st Q' :=
 fun E0 w0 h0 E w a he hs hm => wpIn_mono (h E0 w0 h0 E w a he hs hm) fun _ _ _ ⟨E', st', h1, h2, h4, h3⟩ => ⟨E', st', h1, h2, h4, hq _ _ h3⟩
theorem lf (h : Q .normal st) : gx P ρ n0 .skip st Q := fun E0 w0 h0 E w a he hs hm => wpIn_skip ⟨E, st, hs, he, hm, h⟩
theorem oj (h : Q .ret st) : gx P ρ n0 .ret st Q := fun E0 w0 h0 E w a he hs hm => wpIn_ret ⟨E, st, hs, he, hm, h⟩
theorem r9 {id : Nat} (h : Q (.exit id) st) : gx P ρ n0 (.exit id) st Q := fun E0 w0 h0 E w a he hs hm => wpIn_exit ⟨E, st, hs, he, hm, h⟩
theorem jY {x y : Code} (h : gx P ρ n0 x st (dU (fun st' => gx P ρ n0 y st' Q) Q)) : gx P ρ n0 (.seq x y) st Q := fun E0 w0 h0 E w a he hs hm => by
 refine wpIn_seq (wpIn_mono (h E0 w0 h0 E w a he hs hm) ?_)
 rintro e a' w' ⟨E', st', h1, h2, h4, h3⟩
 cases e with
 | normal => exact h3 E0 w0 h0 E' w' a' h2 h1 h4
 | _ => exact ⟨E', st', h1, h2, h4, h3⟩
theorem lg {c : Operand} {x y : Code} {b : Bool} (hc : st.eval c = .sc (.bool b)) (h : gx P ρ n0 (if b = true then x else y) st Q) : gx P ρ n0 (.cond c x y) st Q := fun E0 w0 h0 E w a he hs hm => by
 have := hs.eval c
 rw [hc] at this
 exact wpIn_cond (t := b) (bZ this) (h E0 w0 h0 E w a he hs hm)
theorem jt {id : Nat} {c : Code} (h : gx P ρ n0 c st (eB id Q)) : gx P ρ n0 (.block id c) st Q := fun E0 w0 h0 E w a he hs hm => by
 refine wpIn_block (wpIn_mono (h E0 w0 h0 E w a he hs hm) ?_)
 rintro e a' w' ⟨E', st', h1, h2, h4, h3⟩
 cases e with
 | exit j =>
  simp only [Exit.inBlock,eB] at h3 ⊢
  split
  ·rename_i hj; rw [if_pos hj] at h3; exact ⟨E', st', h1, h2, h4, h3⟩
  ·rename_i hj; rw [if_neg hj] at h3; exact ⟨E', st', h1, h2, h4, h3⟩
 | _ => exact ⟨E', st', h1, h2, h4, h3⟩
theorem jZ (ht : TT P tt) {id : Nat} {ops : Array Oper} (h : dx P tt ops ops.toList st (Q .normal)) : gx P ρ n0 (.region id ops false) st Q := fun E0 w0 h0 E w a he hs hm => by
 refine wpIn_region ?_
 have := vI ht (ρ := ρ) (n := 0) (Q' := Nc E0 w0 Q) ops.toList [] (by simp) hs h (fun a' w' hd ⟨E', st', h1, h2, h3⟩ => ⟨E', st', h1, he.trans h2, by rw [hd]; exact hm.E5 h2, h3⟩)
 rw [List.range_eq_range']
 simpa using this

def kH (P : Program) (ρ : Option Nat) (n0 : Nat) (c : Code) : Nat → St → (Exit → St → Prop) → Prop
 | 0, _, _ => False
 | n + 1, st, Q => gx P ρ n0 c st (dU (fun st' => kH P ρ n0 c n st' Q) Q)
theorem sb {c : Code} (n : Nat) (h : kH P ρ n0 c n st Q) : gx P ρ n0 (.loop c) st Q := fun E0 w0 h0 E w a he hs hm => by
 refine wpIn_loop_rounds n ?_
 have key : ∀ (n : Nat) (E1 : Env) (w1 : World) (a1 : Act) (st1 : St), aZ E1 w1 a1 st1 → dn E0 w0 E1 w1 → Marks E1 w1 w0.heap.size a1.defers → kH P ρ n0 c n st1 Q → Code.roundsIn (WF ρ) 0 P c (Nc E0 w0 Q) n a1 w1 := by
  intro n
  induction n with
  | zero => intro E1 w1 a1 st1 _ _ _ h; exact h.elim
  | succ n ih =>
   intro E1 w1 a1 st1 h1 h2 h5 h3
   refine wpIn_mono (h3 E0 w0 h0 E1 w1 a1 h2 h1 h5) ?_
   rintro e a' w' ⟨E', st', h4, h5, h7, h6⟩
   cases e with
   | normal => exact ih E' w' a' st' h4 h5 h7 h6
   | _ => exact ⟨E', st', h4, h5, h7, h6⟩
 exact key n E w a st hs he hm h

theorem sd {c : Code} {st' : St} (hw : ∀ E w a, aZ E w a st → aZ E w a st') (h : gx P ρ n0 c st' Q) : gx P ρ n0 c st Q :=
 fun E0 w0 h0 E w a he hs hm => h E0 w0 h0 E w a he (hw E w a hs) hm


mutual
def ai (n : Nat) : V → Bool
 | .ms b _ _ _ => decide (b < n)
 | .ptr b _ => decide (b < n)
 | .gY b => decide (b < n)
 | .mp b => decide (b < n)
 | .da b _ _ _ => decide (b < n)
 | .undef => true
 | .sc _ => true
 | .slice _ => true
 | .cj _ => true
 | .gn => true
 | .full _ => true
 | .agg cs => dk n cs
 | .bP cs => dk n cs
 | .fM _ first cap => dk n first && dk n cap
def dk (n : Nat) : List V → Bool
 | [] => true
 | c :: r => ai n c && dk n r
end
theorem cw (n : Nat) (l : List V) : dk n l = l.all (ai n) := by
 induction l with
 | nil => rfl
 | cons c r ih => simp [dk, ih]
def aB (n : Nat) : aw → Bool
 | .box cs => cs.all (ai n)
 | .loop _ _ fr _ _ _ => fr.all (ai n)
 | .map bm _ => bm.all (fun k => ai n k.2.2)
 | .eh m _ _ _ => decide (m < n)
 | _ => true
def Env.cut (E : Env) (n : Nat) : Env := { F := E.F, aK := fun k v => if k < n then E.aK k v else none, gl := E.gl }

theorem fb {E : Env} {n : Nat} {v : V} {x : Value} (h : aW E v x) (hb : ai n v = true) : aW (E.cut n) v x := by
 induction h with
 | undef => exact .undef _ _
 | sc => exact .sc _ _
 | slice E rows a cap mW ad xf ha gQ hz hF h1 hR ih => exact .slice _ _ _ _ mW ad xf ha gQ hz hF h1 hR
 | ms E b v s l g e c a cap dS hl h0 ue => exact .ms _ _ _ _ _ g e c _ _ ((if_pos (by simpa [ai] using hb)).trans dS) hl h0 ue
 | dc => exact .dc _ _ _ _
 | ptr E b o g e c dS => exact .ptr _ _ _ g e c ((if_pos (by simpa [ai] using hb)).trans dS)
 | gY E b l e c dS => exact .gY _ _ l e c ((if_pos (by simpa [ai] using hb)).trans dS)
 | mp E b l e c dS => exact .mp _ _ l e c ((if_pos (by simpa [ai] using hb)).trans dS)
 | da E b v i o g e c dS => exact .da _ _ _ _ _ g e c ((if_pos (by simpa [ai] using hb)).trans dS)
 | cj E cs ad xf hF hR ih => exact .cj _ _ _ xf hF hR
 | gn => exact .gn _
 | full E rows a h ih => exact .full _ _ _ (ih rfl)
 | agg E cs xs hl hh ih =>
  rw [ai, cw] at hb
  exact .agg _ _ _ hl fun i c x hc hx => ih i c x hc hx (List.all_eq_true.1 hb c (List.mem_of_getElem? hc))
 | bP E cs xs hl hh ih =>
  rw [ai, cw] at hb
  exact .bP _ _ _ hl fun i c x hc hx => ih i c x hc hx (List.all_eq_true.1 hb c (List.mem_of_getElem? hc))
 | fM E f first cap xs ys hx hy h1 h2 ML MM =>
  rw [ai, cw, cw, Bool.and_eq_true] at hb
  exact .fM _ _ _ _ _ _ hx hy (fun i c x hc hx => ML i c x hc hx (List.all_eq_true.1 hb.1 c (List.mem_of_getElem? hc))) fun i c x hc hx => MM i c x hc hx (List.all_eq_true.1 hb.2 c (List.mem_of_getElem? hc))

theorem aZ.cut {E : Env} {w : World} {a : Act} {st : St} (hs : aZ E w a st) {n : Nat} (hf : st.fr.all (ai n) = true) (hm : (st.mem.take n).all (aB n) = true) : aZ (E.cut n) w a { st with mem := st.mem.take n } := by
 have hblk : ∀ k v, k < n → (E.cut n).aK k v = E.aK k v := fun k v h => if_pos h
 have cH : ∀ k v, n ≤ k → (E.cut n).aK k v = none := fun k v h => if_neg (by omega)
 have az : ∀ {k v t}, (E.cut n).aK k v = some t → k < n ∧ E.aK k v = some t := fun {k v t} h => by
  by_cases hk : k < n
  ·rw [hblk k v hk] at h; exact ⟨hk, h⟩
  ·rw [cH k v (by omega)] at h; cases h
 have eR : ∀ {k : Nat} {B : aw}, (st.mem.take n)[k]? = some B → k < n ∧ st.mem[k]? = some B := fun {k B} h => by
  rw [List.getElem?_take] at h
  split at h
  ·exact ⟨by assumption, h⟩
  ·cases h
 refine ⟨hs.F, fun k v g e c h => hs.lt _ _ _ _ _ (az h).2, fun k B hk => ?_, fun k hk v => ?_, fun k B hk v hv => ?_, fun k k' v v' g e1 c1 e2 c2 h5 h6 => hs.apart _ _ _ _ _ _ _ _ _ (az h5).2 (az h6).2, ⟨hs.fr.1, fun i v x hv hx => fb (hs.fr.2 i v x hv hx) (List.all_eq_true.1 hf v (List.mem_of_getElem? hv))⟩⟩
 ·obtain ⟨eQ, eP⟩ := eR hk
  have aV := List.all_eq_true.1 hm B (List.mem_of_getElem? hk)
  have h := hs.mem k B eP
  cases B with
  | hole => exact fun v => by rw [hblk k v eQ]; exact h v
  | dead => trivial
  | box cs =>
   obtain ⟨g, T, xs, h1, h2, h3, h4⟩ := h
   exact ⟨g, T, xs, (hblk k 0 eQ).trans h1, h2, ⟨h3.1, fun i v x hv hx => fb (h3.2 i v x hv hx) (List.all_eq_true.1 aV v (List.mem_of_getElem? hv))⟩, h4⟩
  | loop s iY fr params assign body =>
   obtain ⟨l, fn, tmps, db, h1, h2, h3, h4⟩ := h
   exact ⟨l, fn, tmps, db, (hblk k 0 eQ).trans h1, h2, ⟨h3.1, fun i v x hv hx => fb (h3.2 i v x hv hx) (List.all_eq_true.1 aV v (List.mem_of_getElem? hv))⟩, h4⟩
  | map bm clock =>
   obtain ⟨g, es, h1, h2, h3, h4⟩ := h
   exact ⟨g, es, (hblk k 0 eQ).trans h1, h2, ⟨h3.1, fun i kb e hk he => let ⟨p1, p2, p3⟩ := h3.2 i kb e hk he; ⟨p1, p2, fb p3 (List.all_eq_true.1 aV kb (List.mem_of_getElem? hk))⟩⟩, h4⟩
  | eh m since seen last =>
   obtain ⟨g, gm, e, c, h1, h2, h3, h4⟩ := h
   have qO : m < n := by simpa [aB] using aV
   exact ⟨g, gm, e, c, (hblk k 0 eQ).trans h1, (hblk m 0 qO).trans h2, h3, h4⟩
  | gJ s pos =>
   obtain ⟨g, h1, h2, h3⟩ := h
   exact ⟨g, (hblk k 0 eQ).trans h1, h2, h3⟩
  | ig =>
   obtain ⟨g, h1, h2, h3⟩ := h
   exact ⟨g, (hblk k 0 eQ).trans h1, h2, h3⟩
  | rows v e rs =>
   rcases h with ⟨h1, h2⟩ | ⟨g, T, xs, c, h1, h2⟩
   ·exact .inl ⟨h1, (hblk k v eQ).trans h2⟩
   ·exact .inr ⟨g, T, xs, c, (hblk k v eQ).trans h1, h2⟩
  | mv v e rs =>
   rcases h with ⟨h1, h2⟩ | ⟨g, c, h1, h2⟩
   ·exact .inl ⟨h1, (hblk k v eQ).trans h2⟩
   ·exact .inr ⟨g, c, (hblk k v eQ).trans h1, h2⟩
 ·by_cases eQ : k < n
  ·rw [hblk k v eQ]
   refine hs.top k ?_ v
   dsimp only at hk
   rw [List.length_take] at hk; omega
  ·exact cH k v (by omega)
 ·obtain ⟨eQ, eP⟩ := eR hk
  rw [hblk k v eQ]; exact hs.aA k B eP v hv

def forget (qn : List Nat) (fr : List V) : List V := qn.foldl (fun fr i => fr.set i .undef) fr
theorem aZ.forget {E : Env} {w : World} {a : Act} (qn : List Nat) : ∀ {st : St}, aZ E w a st → aZ E w a { st with fr := Eng.forget qn st.fr } := by
 induction qn with
 | nil => intro st hs; exact hs
 | cons i r ih =>
  intro st hs
  have : aZ E w a { st with fr := st.fr.set i .undef } := by
   refine ⟨hs.F, hs.lt, hs.mem, hs.top, hs.aA, hs.apart, ⟨by simpa using hs.fr.1, fun j v x hv hx => ?_⟩⟩
   dsimp only at hv
   rw [List.getElem?_set] at hv
   split at hv
   ·split at hv
    ·cases hv; exact .undef _ _
    ·cases hv
   ·exact hs.fr.2 j v x hv hx
  exact ih this

theorem xH {c : Code} (n : Nat) (qn : List Nat) (hn : n0 ≤ n) (hf : (forget qn st.fr).all (ai n) = true) (hm : (st.mem.take n).all (aB n) = true)
  (h : gx P ρ n0 c { fr := forget qn st.fr, mem := st.mem.take n } Q) : gx P ρ n0 c st Q := fun E0 w0 h0 E w a he hs fK => by
 have h1 := (hs.forget qn).cut (n := n) hf hm
 refine h E0 w0 h0 (E.cut n) w a ⟨⟨he.le.F, fun k v t hk => ?_⟩, fun k v g e c hk => ?_, he.F, he.os, he.tape, he.output, he.size, he.heap⟩ h1 ?_
 rotate_left 2
 ·obtain ⟨rs, m1, m2, m3⟩ := fK
  refine ⟨rs, m1, m2, fun r hr => ⟨(m3 r hr).1, (m3 r hr).2.1, fun k v e c hk => ?_⟩⟩
  have : E.aK k v = some (r, e, c) := by
   by_cases eQ : k < n
   ·exact ((if_pos eQ).symm.trans hk : E.aK k v = _)
   ·have h2 : (E.cut n).aK k v = none := if_neg eQ
    rw [h2] at hk; cases hk
  exact (m3 r hr).2.2 _ _ _ _ this
 ·have : k < n := by
   rcases Nat.lt_or_ge k n with az | cH
   ·exact az
   ·rw [h0 k (by omega) v] at hk; cases hk
  exact (if_pos this).trans (he.le.aK _ _ _ hk)
 ·have : E.aK k v = some (g, e, c) := by
   by_cases eQ : k < n
   ·exact ((if_pos eQ).symm.trans hk : E.aK k v = _)
   ·have h2 : (E.cut n).aK k v = none := if_neg eQ
    rw [h2] at hk; cases hk
  exact he.aK _ _ _ _ _ this

theorem aZ.Jg {E : Env} {w : World} {a : Act} {st : St} (hs : aZ E w a st) {i b v : Nat} (h : st.fr[i]? = some (.sc (.slice none 0 0))) : aZ E w a { st with fr := st.fr.set i (.ms b v 0 0) } := by
 refine ⟨hs.F, hs.lt, hs.mem, hs.top, hs.aA, hs.apart, ⟨by simpa using hs.fr.1, fun j u x hu hx => ?_⟩⟩
 dsimp only at hu
 rw [List.getElem?_set] at hu
 split at hu
 ·rename_i rP
  subst rP
  split at hu
  ·cases hu
   have := hs.fr.2 _ _ _ h hx
   rw [bZ this]
   exact .dc _ _ _ _
  ·cases hu
 ·exact hs.fr.2 j u x hu hx
end

def xI (tt : Table) (st : St) : ResultVar → Option V
 | .tmp t => some (st.fr.getD t .undef)
 | .cell a T => kC tt st.mem T (st.fr.getD a .undef)
def se (tt : Table) (st : St) : List ResultVar → Option (List V)
 | [] => some []
 | r :: rs => match xI tt st r with
  | some v => match se tt st rs with | some l => some (v :: l) | none => none
  | none => none
def tQ (tt : Table) (rs : Array ResultVar) (st : St) : Option V :=
 match se tt st rs.toList with
 | some [v] => LQ st.mem v
 | some vs => LQ st.mem (.bP vs)
 | none => none

theorem iw {P : Program} {tt : Table} (ht : TT P tt) {E : Env} {w : World} {a : Act} {st : St} (hs : aZ E w a st) : ∀ (rs : List ResultVar) (vs : List V), se tt st rs = some vs →
  ∃ xs : List Value, (rs.mapM (fun | .tmp t => pure (a.tmps.getD t undef) | .cell p t => do loadVar t (← asAddr (a.tmps.getD p undef))) : Sem (List Value)).run P w = .ok xs w ∧ aP E vs xs
 | [], vs, h => by simp [se] at h; subst h; exact ⟨[], rfl, .nil _⟩
 | r :: rs, vs, h => by
  simp only [se] at h
  split at h
  ·rename_i v hv
   split at h
   ·rename_i l hl
    simp only [Option.some.injEq] at h; subst h
    obtain ⟨xs, h1, h2⟩ := iw ht hs rs l hl
    have hx : ∃ x, ((match r with | .tmp t => pure (a.tmps.getD t undef) | .cell p t => do loadVar t (← asAddr (a.tmps.getD p undef))) : Sem Value).run P w = .ok x w ∧ aW E v x := by
     cases r with
     | tmp t =>
      simp only [xI,Option.some.injEq] at hv; subst hv
      exact ⟨_, rfl, hs.eval (.tmp t)⟩
     | cell p t =>
      simp only [xI] at hv
      have hp := hs.eval (.tmp p)
      obtain ⟨y, h3, h4⟩ := qc ht hs hp hv
      refine ⟨y, ?_, h4⟩
      have LU : ∃ ad, a.tmps.getD p undef = .pointer (some ad) := by
       have pc : aW E (st.fr.getD p .undef) (a.tmps.getD p undef) := hp
       revert pc hv
       generalize st.fr.getD p .undef = q
       generalize a.tmps.getD p undef = z
       intro hv pc
       cases pc with
       | ptr => exact ⟨_, rfl⟩
       | da => exact ⟨_, rfl⟩
       | cj => exact ⟨_, rfl⟩
       | _ => simp [kC] at hv
      obtain ⟨ad, Yn⟩ := LU
      have Qe : (Instr.loadAt t (a.tmps.getD p undef)).run P w = .ok y w := h3
      show ((do loadVar t (← asAddr (a.tmps.getD p undef))) : Sem Value).run P w = _
      rw [Yn] at Qe ⊢
      simpa [Instr.loadAt, Instr.sureAddr, asAddr] using Qe
    obtain ⟨x, h3, h4⟩ := hx
    refine ⟨x :: xs, ?_, .cons h4 h2⟩
    simp only [List.mapM_cons,Sem.run_bind]
    rw [h3]
    simp only [Result.andThen_ok]
    rw [h1]
    rfl
   ·cases h
  ·cases h

theorem zW {P : Program} {tt : Table} (ht : TT P tt) {E : Env} {w : World} {a : Act} {st : St} (hs : aZ E w a st) {fn : Func} {r : V} (h : tQ tt fn.results st = some r) :
  ∃ keys x, (results fn a.tmps).run P w = .ok x w ∧ aW (E.jM w keys).pure r x := by
 unfold tQ at h
 have run : ∀ xs : List Value, (fn.results.toList.mapM (fun | .tmp t => pure (a.tmps.getD t undef) | .cell p t => do loadVar t (← asAddr (a.tmps.getD p undef))) : Sem (List Value)).run P w = .ok xs w →
   (results fn a.tmps).run P w = .ok (if h : xs.toArray.size = 1 then xs.toArray[0] else .tuple xs.toArray) w := fun xs hx => by
  unfold results
  rw [Array.mapM_eq_mapM_toList]
  simp only [Sem.run_bind,Sem.run_map]
  erw [hx]
  rfl
 split at h
 ·rename_i v hv
  obtain ⟨xs, h1, h2⟩ := iw ht hs _ _ hv
  obtain ⟨x, ys, rfl, h3, h4⟩ := h2.of_cons
  have := h4.of_nil; subst this
  exact ⟨refs v, x, run _ h1, uk hs h3 h fun k hk => hk⟩
 ·rename_i vs bL hv
  obtain ⟨xs, h1, h2⟩ := iw ht hs _ _ hv
  have hl : xs.toArray.size ≠ 1 := by
   have := h2.1
   intro he
   match vs, xs, this, he with
   | [v], _, _, _ => exact bL v rfl
   | [], [], _, he => simp at he
   | [], _ :: _, h, _ => simp at h
   | _ :: _ :: _, [], h, _ => simp at h
   | _ :: _ :: _, _ :: [], h, _ => simp at h
   | _ :: _ :: _, _ :: _ :: _, _, he => simp at he
  have h3 := run _ h1
  rw [dif_neg hl] at h3
  exact ⟨refs (.bP vs), _, h3, uk hs (.bP _ _ _ (by simpa using h2.1) fun i c x hc hx => h2.2 i c x hc (by simpa using hx)) h fun k hk => hk⟩
 ·cases h

def eo (fn : Func) (args : List V) (mem : List aw) : St := { fr := args ++ List.replicate (fn.ntmps - args.length) (.sc undef), mem := mem }
theorem qo {E : Env} (fn : Func) {args : List V} {mem : List aw} {xs : Array Value} (hx : aP E args xs.toList) : aP E (eo fn args mem).fr (xs ++ Array.replicate (fn.ntmps - xs.size) undef).toList := by
 have hl : args.length = xs.size := by have := hx.1; simpa using this
 simp only [eo,Array.toList_append,Array.toList_replicate,hl]
 refine hx.append ⟨by simp, fun i v x hv hx => ?_⟩
 rw [List.getElem?_replicate] at hv hx
 split at hv
 ·rename_i hi; rw [if_pos hi] at hx; cases hv; cases hx; exact .sc _ _
 ·cases hv

theorem vJ {P : Program} {w : World} {r : Nat} (h : w.heap[r]? = some (.deferred (some []))) : (Instr.takeDeferred r).run P w = .ok [] { w with heap := w.heap.setIfInBounds r (.deferred none) } := by
 simp [Instr.takeDeferred, getObj, setObj, Sem.run, h, bind, Sem.bind, pure]

theorem ka {P : Program} {fn : Func} {tmps : Array Value} {R : Ending → World → Prop} : ∀ (rs : List Nat) (w : World), rs.Nodup → (∀ r ∈ rs, w.heap[r]? = some (.deferred (some []))) →
  (∀ w', w'.os = w.os → w'.tape = w.tape → w'.output = w.output → w'.heap.size = w.heap.size → (∀ b, b ∉ rs → w'.heap[b]? = w.heap[b]?) → ∃ v, (results fn tmps).run P w' = .ok v w' ∧ R (.returned v) w') →
  LeavesInM (WF none) 0 P fn tmps R (rs.map (fun r => { target := .collected r, args := #[] })) .returning w
 | [], w, _, _, h => by
  obtain ⟨v, h1, h2⟩ := h w rfl rfl rfl rfl fun _ _ => rfl
  exact ⟨v, h1, h2⟩
 | r :: rs, w, hn, hr, h => by
  refine ⟨by simp, .inl ⟨r, _, rfl, vJ (hr r (List.mem_cons_self ..)), ?_⟩⟩
  rw [List.nodup_cons] at hn
  have xJ : ∀ b, b ≠ r → (w.heap.setIfInBounds r (.deferred none))[b]? = w.heap[b]? := fun b hb => Array.getElem?_setIfInBounds_ne (fun e => hb e.symm)
  refine ka rs _ hn.2 (fun r' tF => ?_) fun w' h1 h2 h3 h4 h5 => ?_
  ·rw [xJ r' (fun e => hn.1 (e ▸ tF))]; exact hr r' (List.mem_cons_of_mem _ tF)
  ·exact h w' h1 h2 h3 (by rw [h4]; simp) fun b hb => by
    simp only [List.mem_cons,not_or] at hb
    rw [h5 b hb.2, xJ b hb.1]

theorem aZ.FG {E : Env} {w w' : World} {a : Act} {st : St} (hs : aZ E w a st) {rs : List Nat} (hr : ∀ r ∈ rs, w.heap[r]? = some (.deferred (some [])) ∧ ∀ k v e c, E.aK k v ≠ some (r, e, c)) (jL : w'.heap.size = w.heap.size)
  (hh : ∀ b, b ∉ rs → w'.heap[b]? = w.heap[b]?) : aZ E w' a st := by
 refine ⟨fun ad x hx => ?_, fun k v g e c h => by rw [jL]; exact hs.lt _ _ _ _ _ h, fun k B hk => ?_, hs.top, hs.aA, hs.apart, hs.fr⟩
 ·have hc := hs.F ad x hx
  have : ad.block ∉ rs := fun fS => by
   have := (hr _ fS).1
   simp [World.cell?, this] at hc
  rw [← hc]; simp [World.cell?, hh _ this]
 ·exact (hs.mem k B hk).mono E.le_refl (fun _ h => h) (fun g e c h => hh g fun fS => (hr g fS).2 _ _ _ _ h) fun _ _ _ _ _ h => h

theorem FH {P : Program} {tt : Table} (ht : TT P tt) {f : FuncId} {fn : Func} {body : Code} {args : List V} {r : V} (hf : P.funcs[f]? = some fn) (hb : fn.body = some body)
  (dy : ∀ (xs : Array Value) (w : World), (callFunc f xs).run P w = .ok (.enter f xs) w)
  (h : gx P none 0 body (eo fn args []) fun ex st' => (ex = .ret ∨ ex = .normal) ∧ tQ tt fn.results st' = some r) : aQ P f args r := by
 refine ⟨dy, fun F hg w xs hF hx => xG (n := 0) (callsIn_of_wp_marks hf hb trivial ?_)⟩
 have hs : aZ ⟨F, fun _ _ => none, hg⟩ w { tmps := xs ++ Array.replicate (fn.ntmps - xs.size) undef, defers := [] } (eo fn args []) := by
  refine ⟨hF, (fun k v g e c h => by cases h), (fun k B h => by simp [eo] at h), (fun k _ v => rfl), (fun k B h => by simp [eo] at h), (fun k k' v v' g e c e' c' h => by cases h), qo fn hx⟩
 refine wpIn_mono (h _ w (fun k _ v => rfl) _ w _ (dn.refl _ w) hs (.nil _ _ _)) ?_
 rintro e a' w' ⟨E', st', h1, h2, ⟨rs, hd, jX, Fq⟩, he, hr⟩
 have post : LeavesInM (WF none) 0 P fn a'.tmps (fun e w' => ∃ F' x, e = .returned x ∧ (∀ ad y, F ad = some y → F' ad = some y) ∧ (∀ ad y, F' ad = some y → w'.cell? ad = some y) ∧ (∀ ad y, F' ad = some y → F ad = some y ∨ w.heap.size ≤ ad.block) ∧
   (∃ Jb, aW ⟨F', fun _ _ => none, Jb⟩ r x) ∧ Below w.heap.size w w') a'.defers .returning w' := by
  rw [hd]
  refine ka rs w' jX (fun r hr => (Fq r hr).2.1) fun w2 k1 k2 k3 k4 k5 => ?_
  have gE := h1.FG (fun r hr => (Fq r hr).2) k4 k5
  obtain ⟨keys, x, h3, h4⟩ := zW ht gE hr
  have hold : ∀ r ∈ rs, w.heap.size ≤ r := fun r hr => (Fq r hr).1
  refine ⟨x, h3, (E'.jM w2 keys).F, x, rfl, fun ad y hy => (Env.o9 E' w2 keys).F _ _ (h2.le.F _ _ hy), fun ad y hy => Env.BV gE.F hy, fun ad y hy => ?_, ⟨_, h4⟩, ⟨k1.trans h2.os, k2.trans h2.tape, k3.trans h2.output, by rw [k4]; exact h2.size, fun b hb => (k5 b fun fS => by have := hold b fS; omega).trans (h2.heap b hb (by simp))⟩⟩
  rcases Env.vF hy with h | ⟨k, -, e, c, h⟩
  ·rcases h2.F _ _ h with h | h | ⟨k0, v0, e0, c0, h⟩
   ·exact .inl h
   ·exact .inr h
   ·cases h
  ·rcases h2.aK _ _ _ _ _ h with ⟨k0, v0, e0, c0, h⟩ | h
   ·cases h
   ·exact .inr h
 rcases he with rfl | rfl <;> exact post
end Go.Eng
end

section
namespace Go.Eng
variable [aE]

def l4 : List (Nat × Ti) → Table
 | [], _ => none
 | (k, i) :: r, t => if t = k then some i else l4 r t

def vK : Value → Value → Bool
 | .bool a, .bool b => a == b
 | .int k n, .int k' n' => k == k' && n == n'
 | .string a, .string b => a.data == b.data
 | .pointer none, .pointer none => true
 | .slice none a b, .slice none c d => a == c && b == d
 | .map none, .map none => true
 | .nilFunc, .nilFunc => true
 | .nilIface, .nilIface => true
 | _, _ => false
def iR : List Value → List Value → Bool
 | [], [] => true
 | a :: r, b :: s => vK a b && iR r s
 | _, _ => false
theorem ur {a b : Value} (h : vK a b = true) : a = b := by
 unfold vK at h
 split at h
 ·simp at h; rw [h]
 ·simp at h; rw [h.1, h.2]
 ·rename_i a b
  have : a.data = b.data := by simpa using h
  congr 1
  cases a; cases b; simp_all
 ·rfl
 ·simp at h; rw [h.1, h.2]
 ·rfl
 ·rfl
 ·rfl
 ·cases h
theorem kc : ∀ {a b : List Value}, iR a b = true → a = b
 | [], [], _ => rfl
 | x :: r, y :: s, h => by
  simp only [iR,Bool.and_eq_true] at h
  rw [ur h.1, kc h.2]
 | [], _ :: _, h => by simp [iR] at h
 | _ :: _, [], h => by simp [iR] at h

def pd (P : Program) : List Field → List (Nat × Nat) → Bool
 | [], [] => true
 | f :: r, p :: s => f.offset == p.1 && p.2 != 0 && (match P.info? f.type with | some i => i.size == p.2 | none => false) && pd P r s
 | _, _ => false

def Jh (P : Program) (t : TypeId) (i : Ti) : Bool :=
 match P.info? t with
 | none => false
 | some info => info.size == i.size && info.bytes == i.bytes && (match info.zero with | some z => iR z.cells.toList i.zero | none => false) &&
  match P.underlying t with
  | none => false
  | some d => (i.agg == (match d with | .struct _ => true | .array _ _ => true | _ => false)) &&
   (match i.elem with | none => true | some e => (match d with | .slice e' => e' == e | _ => false)) &&
   (match i.br with | [] => true | fl => (match d with | .struct fs => pd P fs.toList fl | _ => false))

def BX (P : Program) : List (Nat × Ti) → Bool
 | [] => true
 | (t, i) :: r => Jh P t i && BX P r

theorem sf {P : Program} : ∀ {fs : List Field} {fl : List (Nat × Nat)}, pd P fs fl = true → fs.length = fl.length ∧ ∀ (k off sz : Nat), fl[k]? = some (off, sz) → ∃ f inf, fs[k]? = some f ∧ f.offset = off ∧ P.info? f.type = some inf ∧ inf.size = sz ∧ sz ≠ 0
 | [], [], _ => ⟨rfl, fun k off sz h => by simp at h⟩
 | f :: r, p :: s, h => by
  simp only [pd,Bool.and_eq_true,beq_iff_eq,bne_iff_ne] at h
  obtain ⟨⟨⟨h1, h2⟩, h3⟩, h4⟩ := h
  obtain ⟨h5, h6⟩ := sf h4
  refine ⟨by simp [h5], fun k off sz hk => ?_⟩
  cases k with
  | zero =>
   simp only [List.getElem?_cons_zero,Option.some.injEq] at hk; subst hk
   split at h3
   ·rename_i inf hi
    exact ⟨f, inf, rfl, h1, hi, by simpa using h3, h2⟩
   ·cases h3
  | succ k => exact h6 k off sz (by simpa using hk)
 | [], _ :: _, h => by simp [pd] at h
 | _ :: _, [], h => by simp [pd] at h

theorem BY {P : Program} {t : TypeId} {i : Ti} (h : Jh P t i = true) :
  (∃ info, P.info? t = some info ∧ info.size = i.size ∧ info.bytes = i.bytes ∧ ∃ z, info.zero = some z ∧ z.cells.toList = i.zero) ∧
  (∃ d, P.underlying t = some d ∧ (i.agg = true ↔ ((∃ fs, d = .struct fs) ∨ ∃ n e, d = .array n e)) ∧ (∀ e, i.elem = some e → d = .slice e) ∧
   (∀ (f off sz : Nat), i.br[f]? = some (off, sz) → ∃ fs fd inf, d = .struct fs ∧ fs.size = i.br.length ∧ fs[f]? = some fd ∧ fd.offset = off ∧ P.info? fd.type = some inf ∧ inf.size = sz ∧ sz ≠ 0)) := by
 unfold Jh at h
 split at h
 ·cases h
 ·rename_i info Q5
  simp only [Bool.and_eq_true,beq_iff_eq] at h
  obtain ⟨⟨⟨h1, h2⟩, h3⟩, h4⟩ := h
  split at h3
  ·rename_i z hz
   refine ⟨⟨info, Q5, h1, h2, z, hz, kc h3⟩, ?_⟩
   split at h4
   ·cases h4
   ·rename_i d hd
    simp only [Bool.and_eq_true,beq_iff_eq] at h4
    obtain ⟨⟨h5, h6⟩, h7⟩ := h4
    refine ⟨d, hd, ?_, ?_, ?_⟩
    ·rw [h5]
     cases d <;> simp
    ·intro e he
     rw [he] at h6
     dsimp only at h6
     split at h6
     ·simp at h6; rw [h6]
     ·cases h6
    ·intro f off sz hf
     split at h7
     ·rename_i TH; rw [TH] at hf; simp at hf
     ·split at h7
      ·rename_i fs
       obtain ⟨h8, h9⟩ := sf h7
       obtain ⟨fd, inf, TK, UK⟩ := h9 f off sz hf
       exact ⟨fs, fd, inf, rfl, by simpa using h8, by simpa using TK, UK⟩
      ·cases h7
  ·cases h3

theorem pe {P : Program} : ∀ {l : List (Nat × Ti)}, BX P l = true → ∀ t i, l4 l t = some i → Jh P t i = true
 | [], _, t, i, h => by simp [l4] at h
 | (k, j) :: r, h, t, i, ht => by
  simp only [BX,Bool.and_eq_true] at h
  simp only [l4] at ht
  split at ht
  ·rename_i hk; subst hk; cases ht; exact h.1
  ·exact pe h.2 t i ht
theorem tt_of {P : Program} {l : List (Nat × Ti)} (h : BX P l = true) : TT P (l4 l) :=
 ⟨fun t i ht => (BY (pe h t i ht)).1, fun t i ht => (BY (pe h t i ht)).2⟩
end Go.Eng
end

section
namespace Go.Eng
variable [aE]

section
variable {P : Program} {tt : Table} {ρ : Option Nat} {n0 : Nat} {st : St} {Q : Exit → St → Prop}
theorem fE (ht : TT P tt) {id : Nat} {ops : Array Oper} {y : Code} (h : ∀ K : St → Prop, (∀ st', gx P ρ n0 y st' Q → K st') → dx P tt ops ops.toList st K) : gx P ρ n0 (.seq (.region id ops false) y) st Q :=
 jY (jZ ht (h (fun st' => gx P ρ n0 y st' Q) fun _ h => h))
def vL : List Bool → List V → List V
 | _, [] => []
 | [], _ :: r => .undef :: vL [] r
 | b :: m, v :: r => (if b = true then v else .undef) :: vL m r
theorem nf {E : Env} : ∀ (m : List Bool) {vs : List V} {xs : List Value}, aP E vs xs → aP E (vL m vs) xs
 | m, [], xs, h => by rw [h.of_nil]; cases m <;> exact .nil _
 | [], v :: r, xs, h => by
  obtain ⟨x, ys, rfl, h1, h2⟩ := h.of_cons
  exact .cons (.undef _ _) (nf [] h2)
 | b :: m, v :: r, xs, h => by
  obtain ⟨x, ys, rfl, h1, h2⟩ := h.of_cons
  refine .cons ?_ (nf m h2)
  cases b
  ·exact .undef _ _
  ·exact h1
theorem aZ.mask {E : Env} {w : World} {a : Act} {st : St} (hs : aZ E w a st) (m : List Bool) : aZ E w a { st with fr := vL m st.fr } :=
 ⟨hs.F, hs.lt, hs.mem, hs.top, hs.aA, hs.apart, nf m hs.fr⟩
theorem sg {c : Code} : ∀ {n n' : Nat} {st : St}, n ≤ n' → kH P ρ n0 c n st Q → kH P ρ n0 c n' st Q
 | 0, _, _, _, h => h.elim
 | n + 1, 0, _, hn, _ => by omega
 | n + 1, n' + 1, st, hn, h => gx.mono h fun e st' hq => by
  cases e with
  | normal => exact sg (by omega) hq
  | _ => exact hq
end

theorem aM {α β : Type} (P : Program) (s : Sem α) (f : α → Sem β) : aF P (s >>= f) = (aF P s).bind fun a => aF P (f a) := by
 show aF P (s.bind f) = _
 induction s with
 | pure a => rfl
 | program k ih => exact ih P
 | mark m k ih => exact ih
 | _ => rfl
theorem cr {P : Program} {T : TypeId} {d : TypeDesc} (h : P.underlying T = some d) : aF P (underlying T) = some d := by
 simp [underlying, aM, program, aF, h, pure]
theorem xK {P : Program} {T : TypeId} (hT : P.underlying T = some .bool) (p q : Bool) : aF P (Op.equal T (.bool p) (.bool q)) = some (p == q) := by
 show aF P (Op.equalIn (9999 + 1) T (.bool p) (.bool q)) = _
 rw [Op.equalIn, aM, cr hT]
 rfl

section ints
variable (P : Program) (T : TypeId) (x y : Operand) (k : IntKind) (a b : Int)
theorem Nd : aS P (fI .add T x y) (.sc (.int k a)) (.sc (.int k b)) = some (.sc (.int k (k.wrap (a + b)))) := by
 simp [aS, bw, fI, binOp, Op.intArith, eqGuard, aF, dF, bind, pure, Sem.bind]
theorem Nf : aS P (fI .sub T x y) (.sc (.int k a)) (.sc (.int k b)) = some (.sc (.int k (k.wrap (a - b)))) := by
 simp [aS, bw, fI, binOp, Op.intArith, eqGuard, aF, dF, bind, pure, Sem.bind]
theorem Ng : aS P (fI .mul T x y) (.sc (.int k a)) (.sc (.int k b)) = some (.sc (.int k (k.wrap (a * b)))) := by
 simp [aS, bw, fI, binOp, Op.intArith, eqGuard, aF, dF, bind, pure, Sem.bind]
theorem Nh : aS P (fI .lss T x y) (.sc (.int k a)) (.sc (.int k b)) = some (.sc (.bool (decide (a < b)))) := by
 simp [aS, bw, fI, binOp, Op.intCmp, eqGuard, aF, dF, bind, pure, Sem.bind]
theorem Ni : aS P (fI .leq T x y) (.sc (.int k a)) (.sc (.int k b)) = some (.sc (.bool (decide (a ≤ b)))) := by
 simp [aS, bw, fI, binOp, Op.intCmp, eqGuard, aF, dF, bind, pure, Sem.bind]
theorem Nj : aS P (fI .gtr T x y) (.sc (.int k a)) (.sc (.int k b)) = some (.sc (.bool (decide (b < a)))) := by
 simp [aS, bw, fI, binOp, Op.intCmp, eqGuard, aF, dF, bind, pure, Sem.bind]
theorem Nk : aS P (fI .geq T x y) (.sc (.int k a)) (.sc (.int k b)) = some (.sc (.bool (decide (b ≤ a)))) := by
 simp [aS, bw, fI, binOp, Op.intCmp, eqGuard, aF, dF, bind, pure, Sem.bind]
theorem Nl : aS P (fI .eql T x y) (.sc (.int k a)) (.sc (.int k b)) = some (.sc (.bool (decide (a = b)))) := by
 simp [aS, bw, fI, binOp, Op.intCmp, eqGuard, aF, dF, bind, pure, Sem.bind]
 rfl
theorem Nn : aS P (fI .neq T x y) (.sc (.int k a)) (.sc (.int k b)) = some (.sc (.bool (!decide (a = b)))) := by
 simp [aS, bw, fI, binOp, Op.intCmp, eqGuard, aF, dF, bind, pure, Sem.bind]
 rfl
theorem Np (ts : Array TypeId) (ty : TypeId) : cI P (Builtin.max_ ts ty) [.sc (.int k a), .sc (.int k b)] = some (.sc (.int k (if a < b then b else a))) := by
 simp [cI, iZ, bw, Builtin.max_, Builtin.max2, aF, dF, bind, pure, Sem.bind]
theorem Nq (ts : Array TypeId) (ty : TypeId) : cI P (Builtin.min_ ts ty) [.sc (.int k a), .sc (.int k b)] = some (.sc (.int k (if b < a then b else a))) := by
 simp [cI, iZ, bw, Builtin.min_, Builtin.min2, aF, dF, bind, pure, Sem.bind]
theorem Nr (t : Bool) : mI P (Op.unary .not) (.sc (.bool t)) = some (.sc (.bool (!t))) := by
 simp [mI, bw, Op.unary, aF, dF, pure]
end ints

section strings
variable (P : Program) (T : TypeId) (x y : Operand) (a b : ByteArray)
theorem Ji : aS P (fI .eql T x y) (.sc (.string a)) (.sc (.string b)) = some (.sc (.bool (a.toList == b.toList))) := by
 simp [aS, bw, fI, binOp, Op.stringOp, eqGuard, aF, dF, bind, pure, Sem.bind]
theorem Jj : aS P (fI .neq T x y) (.sc (.string a)) (.sc (.string b)) = some (.sc (.bool (!(a.toList == b.toList)))) := by
 simp [aS, bw, fI, binOp, Op.stringOp, eqGuard, aF, dF, bind, pure, Sem.bind]
theorem Jk : aS P (fI .lss T x y) (.sc (.string a)) (.sc (.string b)) = some (.sc (.bool (Op.bytesLess a.toList b.toList))) := by
 simp [aS, bw, fI, binOp, Op.stringOp, eqGuard, aF, dF, bind, pure, Sem.bind]
theorem Jl : aS P (fI .gtr T x y) (.sc (.string a)) (.sc (.string b)) = some (.sc (.bool (!(Op.bytesLess a.toList b.toList || a.toList == b.toList)))) := by
 simp [aS, bw, fI, binOp, Op.stringOp, eqGuard, aF, dF, bind, pure, Sem.bind]
theorem om (h : ((a.size + b.size : Nat) : Int) ≤ IntKind.i64.max) : aS P (fI .add T x y) (.sc (.string a)) (.sc (.string b)) = some (.sc (.string (a ++ b))) := by
 have h' : ¬ ((a.size + b.size : Nat) : Int) > IntKind.i64.max := by omega
 simp only [aS,bw,fI,binOp,Op.stringOp,if_neg h']
 simp [eqGuard, aF, dF, bind, pure, Sem.bind]
theorem cL {P : Program} {T : TypeId} (hT : P.underlying T = some .string) (k : IntKind) (n : Int) (h0 : 0 ≤ n) {c : UInt8} (hc : a[n.toNat]? = some c) : aS P (Instr.index T) (.sc (.string a)) (.sc (.int k n)) = some (.sc (.int .u8 c.toNat)) := by
 simp [aS, bw, Instr.index, asIntOf, underlying, hT, h0, hc, aF, dF, bind, pure, Sem.bind, program]
theorem ct {P : Program} {tt : Table} {T : TypeId} (hT : P.underlying T = some .string) (ty : TypeId) : qL P tt #[T] ty [.sc (.string a)] = some (.sc (.int .i64 a.size)) := by
 simp [qL, cI, iZ, bw, Builtin.len_, underlying, hT, aF, dF, bind, pure, Sem.bind, program, goInt]
theorem xL {P : Program} {tt : Table} {mem : List aw} {T : TypeId} (hT : P.underlying T = some .string) (k : IntKind) (n : Int) (h0 : 0 ≤ n) (hn : n ≤ a.size) :
  rE P tt mem T (.sc (.string a)) none (some (.sc (.int k n))) = some (.sc (.string (a.extract 0 n.toNat))) := by
 simp [rE, aS, bw, Instr.sliceAt, Instr.slice, Instr.sliceBounds, Instr.sliceBound, asIntOf, underlying, hT, h0, hn, aF, dF, bind, pure, Sem.bind, program]
theorem Dz {P : Program} {tt : Table} {mem : List aw} {T : TypeId} (hT : P.underlying T = some .string) (k k' : IntKind) (l h : Int) (h0 : 0 ≤ l) (h1 : l ≤ h) (hn : h ≤ a.size) :
  rE P tt mem T (.sc (.string a)) (some (.sc (.int k l))) (some (.sc (.int k' h))) = some (.sc (.string (a.extract l.toNat h.toNat))) := by
 have h2 : 0 ≤ h := by omega
 have h3 : l ≤ max h 0 := by omega
 simp [rE, aS, bw, Instr.sliceAt, Instr.slice, Instr.sliceBounds, Instr.sliceBound, asIntOf, underlying, hT, h0, h2, hn, h3, h1, aF, dF, bind, pure, Sem.bind, program]
theorem Jm {P : Program} {T : TypeId} (hT : P.underlying T = some .bool) (p q : Bool) : aS P (fI .eql T x y) (.sc (.bool p)) (.sc (.bool q)) = some (.sc (.bool (p == q))) := by
 have : aF P (do eqGuard .eql T x y (.bool p) (.bool q); binOp .eql T (.bool p) (.bool q)) = some (.bool (p == q)) := by
  show aF P ((Op.equal T (.bool p) (.bool q)) >>= fun r => Pure.pure (Value.bool r)) = _
  rw [aM, xK hT]; rfl
 simp only [aS,bw,fI,this]; rfl
theorem ep {P : Program} {src dst : TypeId} {d : TypeDesc} {k' : IntKind} (hs : P.underlying src = some d) (hd : P.underlying dst = some (.int k')) (k : IntKind) (n : Int) : mI P (convert src dst) (.sc (.int k n)) = some (.sc (.int k' (k'.wrap n))) := by
 simp [mI, bw, convert, underlying, hs, hd, Conv.intToInt, aF, dF, bind, pure, Sem.bind, program]
end strings
end Go.Eng
end

section
namespace Go.Eng
variable [aE]
open Go.RowKit (Below)

theorem dn.cut {E E' : Env} {w w' : World} (h : dn E w E' w') {n : Nat} (hn : ∀ k, n ≤ k → ∀ v, E.aK k v = none) : dn E w (E'.cut n) w' := by
 refine ⟨⟨h.le.F, fun k v t hk => ?_⟩, fun k v g e c hk => ?_, h.F, h.os, h.tape, h.output, h.size, h.heap⟩
 ·have : k < n := by
   rcases Nat.lt_or_ge k n with az | cH
   ·exact az
   ·rw [hn k cH v] at hk; cases hk
  exact (if_pos this).trans (h.le.aK _ _ _ hk)
 ·have : E'.aK k v = some (g, e, c) := by
   by_cases eQ : k < n
   ·exact ((if_pos eQ).symm.trans hk : E'.aK k v = _)
   ·have h2 : (E'.cut n).aK k v = none := if_neg eQ
    rw [h2] at hk; cases hk
  exact h.aK _ _ _ _ _ this

def ix (tt : Table) (rs : Array ResultVar) (st : St) : Option V :=
 match se tt st rs.toList with
 | some [v] => some v
 | some vs => some (.bP vs)
 | none => none

theorem vM {P : Program} {tt : Table} (ht : TT P tt) {E : Env} {w : World} {a : Act} {st : St} (hs : aZ E w a st) {fn : Func} {r : V} (h : ix tt fn.results st = some r) : ∃ x, (results fn a.tmps).run P w = .ok x w ∧ aW E r x := by
 unfold ix at h
 have run : ∀ xs : List Value, (fn.results.toList.mapM (fun | .tmp t => pure (a.tmps.getD t undef) | .cell p t => do loadVar t (← asAddr (a.tmps.getD p undef))) : Sem (List Value)).run P w = .ok xs w →
   (results fn a.tmps).run P w = .ok (if h : xs.toArray.size = 1 then xs.toArray[0] else .tuple xs.toArray) w := fun xs hx => by
  unfold results
  rw [Array.mapM_eq_mapM_toList]
  simp only [Sem.run_bind,Sem.run_map]
  erw [hx]
  rfl
 split at h
 ·rename_i v hv
  simp only [Option.some.injEq] at h; subst h
  obtain ⟨xs, h1, h2⟩ := iw ht hs _ _ hv
  obtain ⟨x, ys, rfl, h3, h4⟩ := h2.of_cons
  have := h4.of_nil; subst this
  exact ⟨x, run _ h1, h3⟩
 ·rename_i vs bL hv
  simp only [Option.some.injEq] at h; subst h
  obtain ⟨xs, h1, h2⟩ := iw ht hs _ _ hv
  have hl : xs.toArray.size ≠ 1 := by
   have := h2.1
   intro he
   match vs, xs, this, he with
   | [v], _, _, _ => exact bL v rfl
   | [], [], _, he => simp at he
   | [], _ :: _, h, _ => simp at h
   | _ :: _ :: _, [], h, _ => simp at h
   | _ :: _ :: _, _ :: [], h, _ => simp at h
   | _ :: _ :: _, _ :: _ :: _, _, he => simp at he
  have h3 := run _ h1
  rw [dif_neg hl] at h3
  exact ⟨_, h3, .bP _ _ _ (by simpa using h2.1) fun i c x hc hx => h2.2 i c x hc (by simpa using hx)⟩
 ·cases h

theorem FI {P : Program} {tt : Table} (ht : TT P tt) {f : FuncId} {fn : Func} {body : Code} {args : List V} {mem : List aw} {R : V → List aw → Prop} (hf : P.funcs[f]? = some fn) (hb : fn.body = some body)
  (dy : ∀ (xs : Array Value) (w : World), (callFunc f xs).run P w = .ok (.enter f xs) w)
  (h : gx P none mem.length body (eo fn args mem) fun ex st' => (ex = .ret ∨ ex = .normal) ∧ ∃ r n, mem.length ≤ n ∧ ix tt fn.results st' = some r ∧ ai n r = true ∧ (st'.mem.take n).all (aB n) = true ∧ R r (st'.mem.take n)) : gA P f args mem R := by
 refine ⟨dy, fun E w xs E6 hx => xG (n := 0) (callsIn_of_wp_marks hf hb trivial ?_)⟩
 have hs : aZ E w { tmps := xs ++ Array.replicate (fn.ntmps - xs.size) undef, defers := [] } (eo fn args mem) := ⟨E6.F, E6.lt, E6.mem, E6.top, E6.aA, E6.apart, qo fn hx⟩
 refine wpIn_mono (h E w E6.top E w _ (dn.refl _ w) hs (.nil _ _ _)) ?_
 rintro e a' w' ⟨E', st', h1, h2, ⟨rs, hd, jX, Fq⟩, he, r, n, hn, hr, Yo, IE, hR⟩
 have post : LeavesInM (WF none) 0 P fn a'.tmps (fun e w' => ∃ E' x r aD, e = .returned x ∧ R r aD ∧ dn E w E' w' ∧ aZ E' w' { tmps := #[], defers := [] } { fr := [], mem := aD } ∧ aW E' r x) a'.defers .returning w' := by
  rw [hd]
  refine ka rs w' jX (fun r hr => (Fq r hr).2.1) fun w2 k1 k2 k3 k4 k5 => ?_
  have gE := h1.FG (fun r hr => (Fq r hr).2) k4 k5
  obtain ⟨x, h3, h4⟩ := vM ht gE hr
  have dq : dn E w E' w2 := ⟨h2.le, h2.aK, h2.F, k1.trans h2.os, k2.trans h2.tape, k3.trans h2.output, by rw [k4]; exact h2.size, fun b hb bL => (k5 b fun fS => by have := (Fq b fS).1; omega).trans (h2.heap b hb bL)⟩
  exact ⟨x, h3, E'.cut n, x, r, _, rfl, hR, dq.cut fun k hk v => E6.top k (by dsimp only; omega) v, gE.bare.cut (by rfl) IE, fb h4 Yo⟩
 rcases he with rfl | rfl <;> exact post

theorem FJ {P : Program} {tt : Table} (ht : TT P tt) {f : FuncId} {fn : Func} {body : Code} {args : List V} {mem : List aw} {r : V} {aD : List aw} (n : Nat) (hn : mem.length ≤ n) (hf : P.funcs[f]? = some fn) (hb : fn.body = some body)
  (dy : ∀ (xs : Array Value) (w : World), (callFunc f xs).run P w = .ok (.enter f xs) w)
  (h : gx P none mem.length body (eo fn args mem) fun ex st' => (ex = .ret ∨ ex = .normal) ∧ ix tt fn.results st' = some r ∧ ai n r = true ∧ (st'.mem.take n).all (aB n) = true ∧ aD = st'.mem.take n) : aT P f args mem r aD :=
 (FI ht hf hb dy (R := fun r' m' => r' = r ∧ m' = aD) (h.mono fun ex st' ⟨h1, h2, h3, h4, h5⟩ => ⟨h1, r, n, hn, h2, h3, h4, rfl, h5.symm⟩)).W4

def uu : List Tmp → List V → List V → List V
 | t :: ts, v :: vs, fr => uu ts vs (fr.set t v)
 | _, _, fr => fr
theorem uw {E : Env} : ∀ (ts : List Tmp) {vs : List V} {xs : List Value} {fr : List V} {tmps : Array Value}, aP E vs xs → aP E fr tmps.toList → aP E (uu ts vs fr) ((ts.zip xs).foldl (fun (tmps : Array Value) (p : Tmp × Value) => tmps.setIfInBounds p.1 p.2) tmps).toList
 | [], vs, xs, fr, tmps, _, h => by cases vs <;> exact h
 | t :: ts, [], xs, fr, tmps, hv, h => by rw [hv.of_nil]; exact h
 | t :: ts, v :: vs, xs, fr, tmps, hv, h => by
  obtain ⟨x, ys, rfl, h1, h2⟩ := hv.of_cons
  simp only [uu,List.zip_cons_cons,List.foldl_cons]
  exact uw ts h2 (by simpa using h.set t h1)

def zX : Exit → Option (Option Code)
 | .normal => some none
 | .ret => some (some .ret)
 | .exit id => some (some (.exit id))
 | .goto l => some (some (.goto l))
 | _ => none

theorem vN {P : Program} {k : Nat} {fr vs : List V} {params : Array Tmp} {assign body : Code} {mem : List aw} {R : Bool → List aw → Prop} (hk : mem[k]? = some (.loop .ready none fr params assign body)) (hlen : vs.length = params.size)
  (h : ∀ l, gx P (some l) mem.length assign { fr := uu params.toList vs fr, mem := mem } fun ex st1 => ex = .normal ∧ ∃ LV p1 Jn Jo, st1.mem[k]? = some (.loop .ready none LV p1 Jn Jo) ∧
   gx P (some l) mem.length body { st1 with mem := st1.mem.set k (.loop .busy none LV p1 Jn Jo) } fun ex st2 => ∃ n jump s2 TL Jp p2 FK FL, mem.length ≤ n ∧ zX ex = some jump ∧ st2.mem[k]? = some (.loop s2 TL Jp p2 FK FL) ∧
    ((st2.mem.set k (.loop (if jump.isNone then .ready else .done) jump Jp p2 FK FL)).take n).all (aB n) = true ∧
    R jump.isNone ((st2.mem.set k (.loop (if jump.isNone then .ready else .done) jump Jp p2 FK FL)).take n)) :
  Dx P k vs mem R := by
 intro E w xs l e c hs hx hb
 obtain ⟨l', fn, tmps, db, eN, hh, hr, hf⟩ := hs.mem k _ hk
 rw [hb] at eN; cases eN
 have eR : ∀ {W : World} {R : Loop}, W.heap[l]? = some (.loop R) → (Instr.getLoop l).run P W = .ok R W := fun {W R} hW => by
  simp [Instr.getLoop, getObj, Sem.run, hW, bind, Sem.bind, pure]
 have xJ : ∀ {W : World} {R : Loop} {o : Obj}, W.heap[l]? = some (.loop R) → (setObj l o).run P W = .ok () { W with heap := W.heap.setIfInBounds l o } := fun {W R o} hW => by
  simp [setObj, Sem.run, hW]
 have xu : xs.size = params.size := by have := hx.1; simp at this; omega
 refine ⟨fn, (params.zip xs).foldl (fun tmps (p : Tmp × Value) => tmps.setIfInBounds p.1 p.2) tmps, assign, body, ?_, ?_⟩
 ·simp only [Instr.yield,Sem.run_bind,eR hh,Result.andThen_ok,xu,ne_eq,not_true_eq_false,if_false]
  rfl
 ·refine roundIn_of_wpIn trivial ?_
  have jn : aZ E w { tmps := (params.zip xs).foldl (fun tmps (p : Tmp × Value) => tmps.setIfInBounds p.1 p.2) tmps, defers := [] } { fr := uu params.toList vs fr, mem := mem } := by
   refine ⟨hs.F, hs.lt, hs.mem, hs.top, hs.aA, hs.apart, ?_⟩
   have := uw (E := E) params.toList hx hr
   rw [← Array.foldl_toList, Array.toList_zip]
   exact this
  refine wpIn_mono (h l E w hs.top E w _ (dn.refl E w) jn (.nil _ _ _)) ?_
  rintro ex a1 w1 ⟨E1, st1, h1, h2, Yp, rfl, LV, p1, Jn, Jo, fC, h3⟩
  obtain ⟨l1, W9, LW, Xa, re, P9, zO, QZ⟩ := h1.mem k _ fC
  have Ns : E1.aK k 0 = some (l, 0, 0) := h2.le.aK _ _ _ hb
  rw [Ns] at re; cases re
  have only : ∀ (W : World) (o : Obj), n9 W { W with heap := W.heap.setIfInBounds l o } l := fun W o => ⟨rfl, rfl, rfl, by simp, fun b hb => Array.getElem?_setIfInBounds_ne (fun e => hb e.symm)⟩
  have az : ∀ {W : World} {o : Obj}, W.heap[l]? = some o → l < W.heap.size := fun {W o} hW => (Array.getElem?_eq_some_iff.1 hW).1
  have t1 := h1.xp fC rfl (B' := .loop .busy none LV p1 Jn Jo) rfl Ns QZ (only w1 (.loop { state := .busy, pending := none, fn := W9, tmps := LW, params := p1, assign := Jn, body := Jo, defers := Xa }))
   ⟨l, W9, LW, Xa, Ns, by simp [az P9], zO, QZ⟩
  refine ⟨_, by simp [Instr.beginRound, eR P9, xJ P9]; rfl, ?_⟩
  refine wpIn_mono (h3 E w hs.top E1 _ a1 (h2.trans t1.2) t1.1 ?_) ?_
  ·exact Yp.E5 t1.2
  ·rintro ex a2 w2 ⟨E2, st2, h4, h5, -, n, jump, s2, TL, Jp, p2, FK, FL, qO, hj, jl, IE, hR⟩
   obtain ⟨l2, UL, FM, UM, rV, LM, qN, TI⟩ := h4.mem k _ jl
   have Nt : E2.aK k 0 = some (l, 0, 0) := h5.le.aK _ _ _ hb
   rw [Nt] at rV; cases rV
   have t2 := h4.xp jl rfl (B' := .loop (if jump.isNone then .ready else .done) jump Jp p2 FK FL) rfl Nt TI
    (only w2 (.loop { state := if jump.isNone then .ready else .done, pending := jump, fn := UL, tmps := FM, params := p2, assign := FK, body := FL, defers := UM })) ⟨l, UL, FM, UM, Nt, by simp [az LM], qN, TI⟩
   have run : (Instr.endRound l jump).run P w2 = .ok (.bool jump.isNone) { w2 with heap := w2.heap.setIfInBounds l (.loop { state := if jump.isNone then .ready else .done, pending := jump, fn := UL, tmps := FM, params := p2, assign := FK, body := FL, defers := UM }) } := by
    simp [Instr.endRound, eR LM, xJ LM]
   have fin : ∃ v w', (Instr.endRound l jump).run P w2 = .ok v w' ∧ ∃ E' b aD, Ending.returned v = .returned (.bool b) ∧ R b aD ∧ dn E w E' w' ∧ aZ E' w' { tmps := #[], defers := [] } { fr := [], mem := aD } :=
    ⟨_, _, run, E2.cut n, _, _, rfl, hR, (h5.trans t2.2).cut (fun k hk v => hs.top k (Nat.le_trans qO hk) v), t2.1.bare.cut (by rfl) IE⟩
   cases ex <;> simp only [zX,Option.some.injEq,reduceCtorEq] at hj <;> subst hj <;> exact fin


theorem sh {P : Program} {n0 : Nat} {st : St} {Q : Exit → St → Prop} {f : Operand} {params : Array Tmp} {assign body : Code} {g : FuncId} {vs : List V} {R : V → List aw → Prop} (hc : bf (st.eval f) [.gY st.mem.length] = some (g, vs))
  (IJ : gA P g vs (st.mem ++ [.loop .ready none st.fr params assign body]) R)
  (hq : ∀ r zY, R r zY → ∃ s iY TN LX LY LZ, zY[st.mem.length]? = some (.loop s iY TN LX LY LZ) ∧ s ≠ .busy ∧ (match iY with | none => Q .normal { st with mem := zY.set st.mem.length .dead } | some c => gx P none n0 c { st with mem := zY.set st.mem.length .dead } Q)) :
  gx P none n0 (.rangeFunc f params assign body) st Q := fun E0 w0 h0 E w a he hs fK => by
 refine wpIn_rangeFunc fun fn _ => ?_
 -- dP UN block, dP UO record
 let w1 : World := w.alloc (.deferred (some []))
 let L : Loop := { state := .ready, pending := none, fn := fn, tmps := a.tmps, params := params, assign := assign, body := body, defers := w.heap.size }
 let w2 : World := w1.alloc (.loop L)
 have eQ : ∀ v, E.aK st.mem.length v = none := hs.top _ (Nat.le_refl _)
 have hle : E.le (E.with st.mem.length 0 (w.heap.size + 1, 0, 0)) := Env.gu (eQ 0) _
 have ca : (E.with st.mem.length 0 (w.heap.size + 1, 0, 0)).aK st.mem.length 0 = some (w.heap.size + 1, 0, 0) := if_pos ⟨rfl, rfl⟩
 have hblk : ∀ k v, ¬ (k = st.mem.length ∧ v = 0) → (E.with st.mem.length 0 (w.heap.size + 1, 0, 0)).aK k v = E.aK k v := fun k v h => if_neg h
 have hold : ∀ b, b < w.heap.size → w2.heap[b]? = w.heap[b]? := fun b hb => (Go.RowKit.Below.heap_alloc w1 _ b (by simp [w1]; omega)).trans (Go.RowKit.Below.heap_alloc w _ b hb)
 have DA : w2.heap[w.heap.size + 1]? = some (.loop L) := by
  have : w1.heap.size = w.heap.size + 1 := by simp [w1]
  show (w1.alloc (.loop L)).heap[w.heap.size + 1]? = _
  rw [← this]; exact heap_alloc_new w1 _
 have dq : dn E w (E.with st.mem.length 0 (w.heap.size + 1, 0, 0)) w2 := by
  refine ⟨hle, fun k v g e c hk => ?_, fun ad x hx => .inl hx, rfl, rfl, rfl, by simp [w2, w1]; omega, fun b hb _ => hold b hb⟩
  by_cases bO : k = st.mem.length ∧ v = 0
  ·obtain ⟨rfl, rfl⟩ := bO; rw [ca] at hk; cases hk; exact .inr (by omega)
  ·rw [hblk k v bO] at hk; exact .inl ⟨_, _, _, _, hk⟩
 have Yq : ∀ o, E.F ⟨w.heap.size + 1, o, none⟩ = none := fun o => by
  cases hx : E.F ⟨w.heap.size + 1, o, none⟩ with
  | none => rfl
  | some x => have := World.block_lt_of_cell? w _ (hs.F _ _ hx); simp at this; omega
 have gE : aZ (E.with st.mem.length 0 (w.heap.size + 1, 0, 0)) w2 { tmps := #[], defers := [] } { fr := [], mem := st.mem ++ [.loop .ready none st.fr params assign body] } := by
  have eR : ∀ {k : Nat} {B : aw}, (st.mem ++ [aw.loop .ready none st.fr params assign body])[k]? = some B → (k < st.mem.length ∧ st.mem[k]? = some B) ∨ (k = st.mem.length ∧ B = .loop .ready none st.fr params assign body) := fun {k B} h => by
   rw [List.getElem?_append] at h
   split at h
   ·rename_i az; exact .inl ⟨az, h⟩
   ·have L0 : k - st.mem.length = 0 := by
     rcases Nat.eq_zero_or_pos (k - st.mem.length) with h0 | h0
     ·exact h0
     ·rw [List.getElem?_eq_none (by simp; omega)] at h; cases h
    rw [L0] at h; simp at h
    exact .inr ⟨by omega, h.symm⟩
  refine ⟨fun ad x hx => ?_, fun k v g e c hk => ?_, fun k B hk => ?_, fun k hk v => ?_, fun k B hk v hv => ?_, fun k k' v v' g e1 c1 e2 c2 h5 h6 => ?_, .nil _⟩
  ·have hc := hs.F ad x hx
   rw [← hc]; simp [World.cell?, hold _ (World.block_lt_of_cell? w ad hc)]
  ·by_cases bO : k = st.mem.length ∧ v = 0
   ·obtain ⟨rfl, rfl⟩ := bO; rw [ca] at hk; cases hk; simp [w2, w1]
   ·rw [hblk k v bO] at hk; have := hs.lt _ _ _ _ _ hk; simp [w2, w1]; omega
  ·rcases eR hk with ⟨az, eP⟩ | ⟨rfl, rfl⟩
   ·exact (hs.mem k B eP).mono hle (fun v h => by rw [hblk k v (by omega)]; exact h) (fun g e c h => hold g (hs.lt _ _ _ _ _ h)) fun _ _ _ _ _ h => h
   ·exact ⟨w.heap.size + 1, fn, a.tmps, w.heap.size, ca, DA, hs.fr.mono hle, Yq⟩
  ·dsimp only at hk
   simp at hk
   rw [hblk k v (by omega)]; exact hs.top k (by omega) v
  ·rcases eR hk with ⟨az, eP⟩ | ⟨rfl, rfl⟩
   ·rw [hblk k v (by omega)]; exact hs.aA k B eP v hv
   ·rw [hblk _ v (by simp [aw.aA] at hv; omega)]; exact eQ v
  ·by_cases bO : k = st.mem.length ∧ v = 0 <;> by_cases vo : k' = st.mem.length ∧ v' = 0
   ·rw [bO.1, vo.1]
   ·obtain ⟨rfl, rfl⟩ := bO; rw [ca] at h5; cases h5; rw [hblk k' _ vo] at h6; have := hs.lt _ _ _ _ _ h6; omega
   ·obtain ⟨rfl, rfl⟩ := vo; rw [ca] at h6; cases h6; rw [hblk k _ bO] at h5; have := hs.lt _ _ _ _ _ h5; omega
   ·rw [hblk k _ bO] at h5; rw [hblk k' _ vo] at h6
    exact hs.apart _ _ _ _ _ _ _ _ _ h5 h6
 have Dl : aP (E.with st.mem.length 0 (w.heap.size + 1, 0, 0)) [.gY st.mem.length] (#[Value.func (.yield (w.heap.size + 1)) #[] #[]] : Array Value).toList := .cons (.gY _ _ _ 0 0 ca) (.nil _)
 obtain ⟨d, ys, hy, M9, Dy⟩ := r7 (P := P) (w := w2) ((hs.eval f).mono hle) Dl hc
 have Q6 := fK.E5 dq
 refine ⟨w.heap.size + 1, [{ target := .collected w.heap.size, args := #[] }], w2, d, w2, g, ys, w2, ?_, ?_, fun _ _ => trivial, Dy.trans (IJ.1 ys w2), fun h => by simp [WF] at h, ?_⟩
 ·exact run_enterLoop_outer _ _ _ _ _
 ·refine Eq.trans ?_ M9
  simp only [rangeCall,resolve]
  simp [Act.eval]
 ·refine r8 ((IJ.2 _ w2 ys gE hy).mono ?_)
  rintro e w3 ⟨E3, x, r, zY, rfl, Yr, FN, Qf, -⟩
  obtain ⟨s, iY, TN, LX, LY, LZ, Nu, Q7, L1⟩ := hq r zY Yr
  obtain ⟨l3, TO, BZ, TP, Qg, UP, Z0, UH⟩ := Qf.mem _ _ Nu
  have Q8 : E3.aK st.mem.length 0 = some (w.heap.size + 1, 0, 0) := FN.le.aK _ _ _ ca
  rw [Q8] at Qg; cases Qg
  have Ys : w.heap.size + 1 < w3.heap.size := (Array.getElem?_eq_some_iff.1 UP).1
  have Yt : (s == LoopState.busy) = false := by cases s <;> first | rfl | exact absurd rfl Q7
  have UQ := hs.xD Qf (Env.le_trans hle FN.le)
  have t := UQ.xp Nu rfl (B' := .dead) rfl Q8 UH (w' := { w3 with heap := w3.heap.setIfInBounds (w.heap.size + 1) (.loop { state := .exhausted, pending := iY, fn := TO, tmps := BZ, params := LX, assign := LY, body := LZ, defers := TP }) })
   ⟨rfl, rfl, rfl, by simp, fun b hb => Array.getElem?_setIfInBounds_ne (fun e => hb e.symm)⟩ trivial
  have Q9 : dn E0 w0 E3 _ := (he.trans (dq.trans FN)).trans t.2
  have Ra : Marks E3 { w3 with heap := w3.heap.setIfInBounds (w.heap.size + 1) (.loop { state := .exhausted, pending := iY, fn := TO, tmps := BZ, params := LX, assign := LY, body := LZ, defers := TP }) } w0.heap.size ({ target := .collected w.heap.size, args := #[] } :: a.defers) := by
   obtain ⟨rs, m1, m2, m3⟩ := (Q6.E5 FN).E5 t.2
   have Rb : w2.heap[w.heap.size]? = some (.deferred (some [])) := (Go.RowKit.Below.heap_alloc w1 _ _ (by simp [w1])).trans (heap_alloc_new w _)
   have IF : ∀ k v e c, (E.with st.mem.length 0 (w.heap.size + 1, 0, 0)).aK k v ≠ some (w.heap.size, e, c) := fun k v e c hk => by
    by_cases bO : k = st.mem.length ∧ v = 0
    ·obtain ⟨rfl, rfl⟩ := bO; rw [ca] at hk; simp at hk
    ·rw [hblk k v bO] at hk; have := hs.lt _ _ _ _ _ hk; omega
   have one : Marks (E.with st.mem.length 0 (w.heap.size + 1, 0, 0)) w2 w0.heap.size [{ target := .collected w.heap.size, args := #[] }] := ⟨[w.heap.size], rfl, by simp, fun r hr => by
    simp at hr; subst hr; exact ⟨he.size, Rb, IF⟩⟩
   obtain ⟨rs', n1, n2, n3⟩ := (one.E5 FN).E5 t.2
   have MU : rs' = [w.heap.size] := by
    match rs', n1 with
    | [r], h => simp at h; rw [h]
    | [], h => simp at h
    | _ :: _ :: _, h => simp at h
   subst MU
   refine ⟨w.heap.size :: rs, by rw [m1]; rfl, ?_, fun r hr => ?_⟩
   ·rw [List.nodup_cons]
    refine ⟨fun fS => ?_, m2⟩
    -- an elder mark bj below
    obtain ⟨TF, q1, q2, q3⟩ := fK
    have uf : rs = TF := by
     have := m1.symm.trans q1
     have inj : ∀ (xs ys : List Nat), xs.map (fun r => ({ target := .collected r, args := #[] } : Deferred)) = ys.map (fun r => { target := .collected r, args := #[] }) → xs = ys := by
      intro xs
      induction xs with
      | nil => intro ys h; cases ys with | nil => rfl | cons y ys => simp at h
      | cons x xs ih => intro ys h; cases ys with | nil => simp at h | cons y ys => simp at h; rw [h.1, ih ys (by simpa using h.2)]
     exact inj _ _ this
    subst uf
    have := (q3 _ fS).2.1
    rw [Array.getElem?_eq_none (Nat.le_refl _)] at this; cases this
   ·rcases List.mem_cons.1 hr with rfl | hr
    ·exact n3 _ (by simp)
    ·exact m3 r hr
  refine ⟨iY, { w3 with heap := w3.heap.setIfInBounds (w.heap.size + 1) (.loop { state := .exhausted, pending := iY, fn := TO, tmps := BZ, params := LX, assign := LY, body := LZ, defers := TP }) }, ?_, ?_⟩
  ·have hg : (Instr.getLoop (w.heap.size + 1)).run P w3 = .ok { state := s, pending := iY, fn := TO, tmps := BZ, params := LX, assign := LY, body := LZ, defers := TP } w3 := by
    simp [Instr.getLoop, getObj, Sem.run, UP, bind, Sem.bind, pure]
   simp only [Instr.endLoop,Sem.run_bind,hg,Result.andThen_ok,Yt,Bool.false_eq_true,if_false]
   simp [setObj, Sem.run, UP]
  ·cases iY with
   | none => exact ⟨E3, _, ⟨t.1.F, t.1.lt, t.1.mem, t.1.top, t.1.aA, t.1.apart, t.1.fr⟩, Q9, Ra, L1⟩
   | some c => exact L1 E0 w0 h0 E3 _ { a with defers := { target := .collected w.heap.size, args := #[] } :: a.defers } Q9 ⟨t.1.F, t.1.lt, t.1.mem, t.1.top, t.1.aA, t.1.apart, t.1.fr⟩ Ra
end Go.Eng
end

section
namespace Go.Eng
variable [aE]
open Go.RowKit (Below)

inductive Jq where
 | n | r | a | w | s | b | z | e
 deriving DecidableEq
structure Pl where
 cls : Jq
 key : Nat
 mask : List Nat
 L2 : List Nat := []
 abs : List Nat := []

def xM (m : List aw) (k : Nat) : List aw := match m[k]? with
 | some B => if B.aA = 0 then m.set k .dead else m
 | none => m
def di : List Nat → List aw → List aw
 | [], m => m
 | k :: r, m => di r (xM m k)
def gH (b : Bool) (B : aw) : aw := if b = true ∧ B.aA = 0 then .dead else B
theorem DB (m : List aw) (k q : Nat) : (xM m k)[q]? = (m[q]?).map (gH (q == k)) := by
 unfold xM
 by_cases hq : q = k
 ·subst hq
  cases h : m[q]? with
  | none => simp [h]
  | some B =>
   have az : q < m.length := (List.getElem?_eq_some_iff.1 h).1
   simp only [beq_self_eq_true,Option.map_some,gH,true_and]
   split
   ·rename_i hv; simp [List.getElem?_set, az]
   ·rename_i hv; exact h
 ·have hb : (q == k) = false := by simpa using hq
  have hid : (m[q]?).map (gH (q == k)) = m[q]? := by rw [hb]; cases m[q]? <;> simp [gH]
  rw [hid]
  cases h : m[k]? with
  | none => rfl
  | some B =>
   dsimp only
   split
   ·exact List.getElem?_set_ne (fun e => hq e.symm)
   ·rfl
theorem tR (b c : Bool) (B : aw) : gH b (gH c B) = gH (b || c) B := by
 have hd : aw.dead.aA = 0 := rfl
 unfold gH
 cases b <;> cases c <;> by_cases hv : B.aA = 0 <;> simp [hv, hd]
theorem l5 : ∀ (ks : List Nat) (m : List aw) (q : Nat), (di ks m)[q]? = (m[q]?).map (gH (ks.contains q))
 | [], m, q => by cases h : m[q]? <;> simp [di, h, gH]
 | k :: r, m, q => by
  rw [di, l5 r, DB]
  cases m[q]? with
  | none => rfl
  | some B =>
   simp only [Option.map_some,tR,List.contains_cons]
   rw [Bool.or_comm]
theorem oo : ∀ (ks : List Nat) (m : List aw), (di ks m).length = m.length
 | [], m => rfl
 | k :: r, m => by
  rw [di, oo r]
  unfold xM
  split
  ·split <;> simp
  ·rfl
theorem l6 {ks : List Nat} {m : List aw} {k : Nat} {B0 B : aw} (hk : k ∈ ks) (hm : m[k]? = some B0) (h0 : B0.aA = 0) (hB : B.aA = 0) : di ks (m.set k B) = di ks m := by
 refine List.ext_getElem? fun q => ?_
 rw [l5, l5]
 by_cases hq : q = k
 ·subst hq
  have az : q < m.length := (List.getElem?_eq_some_iff.1 hm).1
  have hc : ks.contains q = true := by simpa using hk
  rw [List.getElem?_set, if_pos rfl, if_pos az, hm]
  simp [gH, hB, h0, hk]
 ·rw [List.getElem?_set_ne (fun e => hq e.symm)]

theorem aZ.di {E : Env} {w : World} {a : Act} {st : St} (hs : aZ E w a st) (ks : List Nat) : aZ E w a { st with mem := Eng.di ks st.mem } := by
 have get : ∀ {k : Nat} {B : aw}, (Eng.di ks st.mem)[k]? = some B → ∃ B0 : aw, st.mem[k]? = some B0 ∧ (B = B0 ∨ B = aw.dead ∧ B0.aA = 0) := fun {k B} h => by
  rw [l5] at h
  cases h0 : st.mem[k]? with
  | none => rw [h0] at h; cases h
  | some B0 =>
   rw [h0] at h
   simp only [Option.map_some,Option.some.injEq] at h
   refine ⟨B0, rfl, ?_⟩
   unfold gH at h
   split at h
   ·rename_i hc; exact .inr ⟨h.symm, hc.2⟩
   ·exact .inl h.symm
 refine ⟨hs.F, hs.lt, fun k B hk => ?_, fun k hk => hs.top k (by simpa [oo] using hk), fun k B hk v hv => ?_, hs.apart, hs.fr⟩
 ·obtain ⟨B0, h0, rfl | ⟨rfl, -⟩⟩ := get hk
  ·exact hs.mem k _ h0
  ·trivial
 ·obtain ⟨B0, h0, rfl | ⟨rfl, h1⟩⟩ := get hk
  ·exact hs.aA k _ h0 v hv
  ·exact hs.aA k _ h0 v (by rw [h1]; exact hv)

/-! ### what one operation makes -/

def vO (P : Program) (f : FuncId) (vs : List V) (r : V) : Prop := aQ P f vs r ∨ r6 P f vs r
def Rc (P : Program) (f : FuncId) (vs : List V) (Q : V → Prop) : Prop := ∃ vs' r, cy [] vs = some vs' ∧ vO P f vs' r ∧ Q r

def qP (P : Program) (tt : Table) (o : Oper) (st : St) : Option V :=
 match o.op with
 | .build T parts => gG P tt T parts.toList st.eval
 | .buildSlice T len parts => match o6 tt T len parts.toList st.eval with
  | some (_, rs) => some (.slice rs)
  | none => none
 | _ => fJ P tt st o
def mw (P : Program) (tt : Table) (o : Oper) (st : St) (Q : V → Prop) : Prop :=
 match o.op with
 | .call { callee := .value f, args := xs, .. } => match bf (st.eval f) (xs.toList.map st.eval) with
  | some (g, vs) => Rc P g vs Q
  | none => False
 | _ => match qP P tt o st with
  | some v => Q v
  | none => False
def Re (P : Program) (f : FuncId) (vs : List V) (st : St) (dst : Option Tmp) (Q : St → Prop) : Prop := ∃ vs' r, cy [] vs = some vs' ∧ vO P f vs' r ∧ Q (st.put dst r)
def vP (P : Program) (tt : Table) (o : Oper) (tS st : St) (Q : St → Prop) : Prop :=
 match o.op with
 | .call { callee := .value f, args := xs, .. } => match bf (tS.eval f) (xs.toList.map tS.eval) with
  | some (g, vs) => Re P g vs st o.dst Q
  | none => False
 | _ => match qP P tt o tS with
  | some v => Q (st.put o.dst v)
  | none => False
theorem rf {P : Program} {tt : Table} {o : Oper} {tS st : St} {Q : St → Prop} : vP P tt o tS st Q = mw P tt o tS fun v => Q (st.put o.dst v) := by
 unfold vP mw
 split <;> rfl
def ef (tt : Table) (o : Oper) (key : Nat) (st : St) : Option (aw × V) :=
 match o.op with
 | .alloc T => match tt T with
  | some i => some (.box (i.zero.map V.sc), .ptr key 0)
  | none => none
 | .box _ x => match fy (st.eval x) with
  | some cs => some (.box cs, .ptr key 0)
  | none => none
 | .buildSlice T len parts => match o6 tt T len parts.toList st.eval with
  | some (size, rs) => some (.rows 0 size rs, .ms key 0 0 len)
  | none => none
 | .makeMap _ none => some (.map [] 0, .mp key)
 | .makeSlice T l c => match mO tt T (st.eval l) (st.eval c) with
  | some (size, rs, _) => some (.rows 0 size rs, .ms key 0 0 rs.length)
  | none => none
 | _ => none
def oq (P : Program) (tt : Table) (key : Nat) (o : Oper) (st : St) : Option (List aw × V) :=
 match o.op with
 | .store T p x => match gF tt st.mem T (st.eval p) (st.eval x) with
  | some aD => some (aD, .sc undef)
  | none => none
 | .call { callee := .builtin .append, args := xs, argTypes := ts } => match xs.toList.map st.eval with
  | [s, x] => match dr tt st.mem ts.toList s x with
   | some (size, nR, rows) => some (cu st.mem key size rows nR)
   | none => none
  | _ => none
 | .mapUpdate T m k x => match cn P st.mem T (st.eval m) (st.eval k) (st.eval x) with
  | some aD => some (aD, .sc undef)
  | none => none
 | .insert T m k x => match cn P st.mem T (st.eval m) (st.eval k) (st.eval x) with
  | some aD => some (aD, .sc undef)
  | none => none
 | _ => none
def qQ (tt : Table) (key : Nat) (o : Oper) (st : St) : Option (List aw) :=
 match o.op with
 | .store T p x => match st.eval p with
  | .ptr b off => if b = key then gF tt st.mem T (.ptr key off) (st.eval x) else none
  | _ => none
 | _ => none
def isHole (mem : List aw) (k : Nat) : Bool := match mem[k]? with | some .hole => true | _ => false
theorem fU {mem : List aw} {k : Nat} : isHole mem k = true ↔ mem[k]? = some .hole := by
 unfold isHole
 split
 ·rename_i h; simp [h]
 ·rename_i h; simp; exact fun e => h e

def si (P : Program) (f : FuncId) (vs : List V) (e : Nat) (rs : List V) : Prop := ∃ v, aT P f vs [] (.ms 0 v 0 rs.length) [.rows v e rs]
def kI (P : Program) (o : Oper) (ev : Operand → V) (Q : Nat → List V → Prop) : Prop :=
 match o.op with
 | .call { callee := .value f, args := xs, .. } => match bf (ev f) (xs.toList.map ev) with
  | some (g, vs) => ∃ vs' e rs, cy [] vs = some vs' ∧ si P g vs' e rs ∧ Q e rs
  | none => False
 | _ => False
theorem gZ {P : Program} {o : Oper} {ev : Operand → V} {Q : Nat → List V → Prop} : kI P o ev Q ↔ ∃ e rs, kI P o ev (fun e' rs' => e' = e ∧ rs' = rs) ∧ Q e rs := by
 unfold kI
 split
 ·split
  ·constructor
   ·rintro ⟨vs', e, rs, h1, h2, h3⟩; exact ⟨e, rs, ⟨vs', e, rs, h1, h2, rfl, rfl⟩, h3⟩
   ·rintro ⟨e, rs, ⟨vs', e', rs', h1, h2, h3, h4⟩, h5⟩; subst h3; subst h4; exact ⟨vs', _, _, h1, h2, h5⟩
  ·exact ⟨fun h => h.elim, fun ⟨_, _, h, _⟩ => h⟩
 ·exact ⟨fun h => h.elim, fun ⟨_, _, h, _⟩ => h⟩
def sj (st : St) (key : Nat) (dst : Option Tmp) (e : Nat) (rs : List V) : St := { st with mem := st.mem.set key (.rows 0 e rs) }.put dst (.ms key 0 0 rs.length)
def Rf (P : Program) (f : FuncId) (vs : List V) (st : St) (key : Nat) (dst : Option Tmp) (Q : St → Prop) : Prop := ∃ vs' e rs, cy [] vs = some vs' ∧ si P f vs' e rs ∧ Q (sj st key dst e rs)
def ng (P : Program) (o : Oper) (key : Nat) (st : St) (Q : St → Prop) : Prop :=
 match o.op with
 | .call { callee := .value f, args := xs, .. } => match bf (st.eval f) (xs.toList.map st.eval) with
  | some (g, vs) => Rf P g vs st key o.dst Q
  | none => False
 | _ => False
theorem ux {P : Program} {o : Oper} {key : Nat} {st : St} {Q : St → Prop} : ng P o key st Q = kI P o st.eval fun e rs => Q (sj st key o.dst e rs) := by
 unfold ng kI
 split <;> rfl
def cU : aw → aw
 | .box cs => .box cs
 | _ => .dead
def kJ (tt : Table) (o : Oper) (st : St) : Option V :=
 match o.op with
 | .load T x => kC tt (st.mem.map cU) T (st.eval x)
 | _ => none
def isApp (o : Oper) : Bool := match o.op with | .call { callee := .builtin .append, .. } => true | _ => false
def B6 (o : Oper) : Bool := match o.op with | .alloc _ => false | .box _ _ => false | _ => true
theorem DC {P : Program} {tt : Table} {o : Oper} {st : St} {v : V} (h : kJ tt o st = some v) : fJ P tt st o = some v := by
 unfold kJ at h
 split at h
 ·rename_i T x ho
  unfold fJ
  rw [ho]
  dsimp only
  unfold kC at h ⊢
  split
  ·rename_i b off he
   rw [he] at h
   dsimp only at h
   rw [List.getElem?_map] at h
   cases hb : st.mem[b]? with
   | none => rw [hb] at h; simp at h
   | some B =>
    rw [hb] at h
    cases B <;> simp [cU] at h <;> exact h
  ·rename_i b aA i off he
   rw [he] at h
   dsimp only at h
   have : rowOf (st.mem.map cU) b aA i = none := by
    unfold rowOf
    rw [List.getElem?_map]
    cases hb : st.mem[b]? with
    | none => rfl
    | some B => cases B <;> rfl
   rw [this] at h; cases h
  ·rename_i cs he
   rw [he] at h; exact h
  ·rename_i h1 h2 h3
   split at h
   ·rename_i he; exact absurd he (h1 _ _)
   ·rename_i he; exact absurd he (h2 _ _ _ _)
   ·rename_i he; exact absurd he (h3 _)
   ·cases h
 ·cases h
theorem xN {tt : Table} {mem : List aw} {ts : List TypeId} {s x : V} {size b aA : Nat} {rows : List V} (h : dr tt mem ts s x = some (size, some (b, aA), rows)) : ∃ e rs, mem[b]? = some (.rows aA e rs) := by
 have hl : ∀ {sz : Nat} {rs : List V}, kY mem sz s = some (some (b, aA), rs) → ∃ e rs, mem[b]? = some (.rows aA e rs) := fun {sz rs} h => by
  unfold kY at h
  split at h
  ·cases h
  ·split at h <;> cases h
  ·split at h
   ·rename_i v' e rs' hb
    split at h
    ·rename_i hc
     simp only [Option.some.injEq,Prod.mk.injEq] at h
     obtain ⟨⟨rfl, rfl⟩, rfl⟩ := h
     exact ⟨_, _, by rw [hb, hc.1]⟩
    ·cases h
   ·cases h
  ·cases h
 unfold dr at h
 split at h
 ·split at h
  ·split at h
   ·split at h
    ·split at h
     ·split at h
      ·split at h
       ·rename_i nR rs UR
        split at h
        ·split at h
         ·split at h
          case isFalse => cases h
          simp only [Option.some.injEq,Prod.mk.injEq] at h
          obtain ⟨-, rfl, -⟩ := h
          exact hl UR
         ·cases h
        ·cases h
       ·cases h
      ·cases h
     ·cases h
    ·cases h
   ·cases h
  ·cases h
 ·cases h
theorem FO {P : Program} {tt : Table} {key : Nat} {o : Oper} {st : St} {m : List aw} {v : V} (ha : isApp o = true) (hh : st.mem[key]? = some .hole) (h : oq P tt key o st = some (m, v)) : m.map cU = st.mem.map cU := by
 have xJ : ∀ (k : Nat) (B0 B : aw), st.mem[k]? = some B0 → cU B = cU B0 → (st.mem.set k B).map cU = st.mem.map cU := fun k B0 B h0 hB => by
  apply List.ext_getElem?
  intro q
  rw [List.getElem?_map, List.getElem?_map, List.getElem?_set]
  split
  ·rename_i hq; subst hq
   rw [if_pos (List.getElem?_eq_some_iff.1 h0).1, h0, Option.map_some, Option.map_some, hB]
  ·rfl
 unfold isApp at ha
 split at ha
 ·rename_i ho
  unfold oq at h
  rw [ho] at h
  dsimp only at h
  split at h
  ·split at h
   ·rename_i size nR rows US
    simp only [Option.some.injEq] at h
    cases nR with
    | none =>
     simp only [cu,Prod.mk.injEq] at h
     obtain ⟨rfl, -⟩ := h
     unfold bc
     rw [if_pos (List.getElem?_eq_some_iff.1 hh).1]
     exact xJ _ _ _ hh rfl
    | some p =>
     obtain ⟨b, aA⟩ := p
     simp only [cu,Prod.mk.injEq] at h
     obtain ⟨rfl, -⟩ := h
     have hb : ∃ e rs, st.mem[b]? = some (.rows aA e rs) := by
      exact xN US
     obtain ⟨e, rs, hb⟩ := hb
     exact xJ _ _ _ hb rfl
   ·cases h
  ·cases h
 ·cases ha
def lh (P : Program) (o : Oper) (st : St) (Q : St → Prop) : Prop :=
 match o.op with
 | .call { callee := .value f, args := xs, .. } => match bf (st.eval f) (xs.toList.map st.eval) with
  | some (g, vs) => ∃ vs' r, cy st.mem vs = some vs' ∧ aQ P g vs' r ∧ Q ({ st with mem := cK st.mem (vs.flatMap cp) r }.put o.dst r)
  | none => False
 | _ => False
theorem sk {P : Program} {o : Oper} {st : St} {K K' : St → Prop} (h : lh P o st K) (hk : ∀ s, K s → K' s) : lh P o st K' := by
 unfold lh at h ⊢
 split at h
 ·split at h
  ·obtain ⟨vs', r, h1, h2, h3⟩ := h
   exact ⟨vs', r, h1, h2, hk _ h3⟩
  ·exact h.elim
 ·exact h.elim
def zZ (P : Program) (g : FuncId) (vs : List V) (k : Nat) (st : St) (dst : Option Tmp) (Q : St → Prop) : Prop :=
 ∃ v B0 B, B0.aA = 0 ∧ B.aA = 0 ∧ st.mem[k]? = some B0 ∧ (∀ mem : List aw, mem[k]? = some B0 → aT P g vs mem v (mem.set k B)) ∧ Q ({ st with mem := st.mem.set k B }.put dst v)
def uy (P : Program) (o : Oper) (k : Nat) (st : St) (Q : St → Prop) : Prop :=
 match o.op with
 | .call { callee := .value f, args := xs, .. } => match bf (st.eval f) (xs.toList.map st.eval) with
  | some (g, vs) => zZ P g vs k st o.dst Q
  | none => False
 | _ => False
def tT (P : Program) (o : Oper) (k : Nat) (st : St) (v : V) (m : List aw) : Prop :=
 match o.op with
 | .call { callee := .value f, args := xs, .. } => match bf (st.eval f) (xs.toList.map st.eval) with
  | some (g, vs) => ∃ B0 B, B0.aA = 0 ∧ B.aA = 0 ∧ st.mem[k]? = some B0 ∧ (∀ mem : List aw, mem[k]? = some B0 → aT P g vs mem v (mem.set k B)) ∧ m = st.mem.set k B
  | none => False
 | _ => False
theorem DD {P : Program} {o : Oper} {k : Nat} {st : St} {Q : St → Prop} : uy P o k st Q ↔ ∃ v m, tT P o k st v m ∧ Q ({ st with mem := m }.put o.dst v) := by
 unfold uy tT
 split
 ·split
  ·constructor
   ·rintro ⟨v, B0, B, h1, h2, h3, h4, h5⟩; exact ⟨v, _, ⟨B0, B, h1, h2, h3, h4, rfl⟩, h5⟩
   ·rintro ⟨v, m, ⟨B0, B, h1, h2, h3, h4, rfl⟩, h5⟩; exact ⟨v, B0, B, h1, h2, h3, h4, h5⟩
  ·exact ⟨fun h => h.elim, fun ⟨_, _, h, _⟩ => h.elim⟩
 ·exact ⟨fun h => h.elim, fun ⟨_, _, h, _⟩ => h.elim⟩
theorem z6 {P : Program} {o : Oper} {k : Nat} {st st' : St} {v : V} {m : List aw} (h : ∀ x ∈ o.op.operands, st.eval x = st'.eval x) (hm : st.mem = st'.mem) : tT P o k st v m = tT P o k st' v m := by
 unfold tT
 split
 ·rename_i f xs ts heq
  rw [heq] at h
  have iS : xs.toList.map st.eval = xs.toList.map st'.eval := List.map_congr_left fun x hx => h x (by simp [Op.operands, Call.operands]; exact .inr (by simpa using hx))
  have hf : st.eval f = st'.eval f := h f (by simp [Op.operands, Call.operands])
  rw [iS, hf, hm]
 ·rfl
theorem FP {P : Program} {o : Oper} {k : Nat} {st : St} {v : V} {m : List aw} (h : tT P o k st v m) : ∃ B0 B : aw, B0.aA = 0 ∧ B.aA = 0 ∧ st.mem[k]? = some B0 ∧ m = st.mem.set k B ∧ ∀ mem : List aw, mem[k]? = some B0 → tT P o k { st with mem := mem } v (mem.set k B) := by
 have ev : ∀ (mem : List aw), St.eval { st with mem := mem } = st.eval := fun mem => funext fun x => by cases x <;> rfl
 unfold tT at h
 split at h
 ·rename_i f xs ts heq
  split at h
  ·rename_i g vs hg
   obtain ⟨B0, B, h1, h2, h3, h4, h5⟩ := h
   refine ⟨B0, B, h1, h2, h3, h5, fun mem hm => ?_⟩
   unfold tT
   simp only [heq,ev,hg]
   exact ⟨B0, B, h1, h2, hm, h4, rfl⟩
  ·exact h.elim
 ·exact h.elim
def dI (P : Program) (tt : Table) (all : Array Oper) (base : Nat) (o : Oper) (p : Pl) (st : St) (Q : St → Prop) : Prop :=
 match cT all st.fr o with
 | some true => match p.cls with
  | .n => vP P tt o { st with mem := [] } st Q
  | .r => vP P tt o { st with mem := di (p.mask.map (base + ·) ++ p.abs) st.mem } st Q
  | .a => isHole st.mem (base + p.key) = true ∧ match ef tt o (base + p.key) st with
   | some (B, v) => Q ({ st with mem := st.mem.set (base + p.key) B }.put o.dst v)
   | none => ng P o (base + p.key) st Q
  | .w => isHole st.mem (base + p.key) = true ∧ match oq P tt (base + p.key) o st with
   | some (m, v) => Q ({ st with mem := m }.put o.dst v)
   | none => False
  | .s => match qQ tt (base + p.key) o st with
   | some m => Q ({ st with mem := m }.put o.dst (.sc undef))
   | none => False
  | .b => match kJ tt o st with
   | some v => Q (st.put o.dst v)
   | none => False
  | .z => lh P o st Q
  | .e => uy P o p.key st Q
 | some false => Q (st.put o.dst (.sc undef))
 | none => False

def kO (P : Program) (tt : Table) (all : Array Oper) (base : Nat) (o : Oper) (p : Pl) (st : St) (v : V) (m : List aw) : Prop :=
 match cT all st.fr o with
 | some true => match p.cls with
  | .n => mw P tt o { st with mem := [] } (fun u => u = v) ∧ m = st.mem
  | .r => mw P tt o { st with mem := di (p.mask.map (base + ·) ++ p.abs) st.mem } (fun u => u = v) ∧ m = st.mem
  | .a => isHole st.mem (base + p.key) = true ∧ ∃ B, (ef tt o (base + p.key) st = some (B, v) ∨ ef tt o (base + p.key) st = none ∧ kI P o st.eval (fun e rs => B = .rows 0 e rs ∧ v = .ms (base + p.key) 0 0 rs.length)) ∧ m = st.mem.set (base + p.key) B
  | .w => isHole st.mem (base + p.key) = true ∧ oq P tt (base + p.key) o st = some (m, v)
  | .s => v = .sc undef ∧ qQ tt (base + p.key) o st = some m
  | .b => kJ tt o st = some v ∧ m = st.mem
  | .z => False
  | .e => tT P o p.key st v m
 | some false => v = .sc undef ∧ m = st.mem
 | none => False

theorem xO {P : Program} {tt : Table} {o : Oper} {st : St} {Q : V → Prop} : mw P tt o st Q ↔ ∃ v, mw P tt o st (fun u => u = v) ∧ Q v := by
 unfold mw
 split
 ·split
  ·constructor
   ·rintro ⟨vs', r, h1, h2, h3⟩; exact ⟨r, ⟨vs', r, h1, h2, rfl⟩, h3⟩
   ·rintro ⟨v, ⟨vs', r, h1, h2, rfl⟩, h3⟩; exact ⟨vs', r, h1, h2, h3⟩
  ·exact ⟨fun h => h.elim, fun ⟨_, h, _⟩ => h⟩
 ·split
  ·exact ⟨fun h => ⟨_, rfl, h⟩, fun ⟨_, h, hq⟩ => by subst h; exact hq⟩
  ·exact ⟨fun h => h.elim, fun ⟨_, h, _⟩ => h⟩

theorem dX {P : Program} {tt : Table} {all : Array Oper} {base : Nat} {o : Oper} {p : Pl} {st : St} {Q : St → Prop} (hz : p.cls ≠ .z) :
  dI P tt all base o p st Q ↔ ∃ v m, kO P tt all base o p st v m ∧ Q ({ st with mem := m }.put o.dst v) := by
 unfold dI kO
 split
 ·split
  ·rw [rf, xO]; exact ⟨fun ⟨v, h1, h2⟩ => ⟨v, st.mem, ⟨h1, rfl⟩, h2⟩, fun ⟨v, m, ⟨h1, h2⟩, h3⟩ => ⟨v, h1, by subst h2; exact h3⟩⟩
  ·rw [rf, xO]; exact ⟨fun ⟨v, h1, h2⟩ => ⟨v, st.mem, ⟨h1, rfl⟩, h2⟩, fun ⟨v, m, ⟨h1, h2⟩, h3⟩ => ⟨v, h1, by subst h2; exact h3⟩⟩
  ·split
   ·rename_i B v hb
    refine ⟨fun ⟨h1, h2⟩ => ⟨v, _, ⟨h1, B, .inl hb, rfl⟩, h2⟩, fun ⟨u, m, ⟨h1, B', h2, h3⟩, h4⟩ => ?_⟩
    rcases h2 with h2 | ⟨h2, -⟩
    ·rw [hb] at h2; cases h2; subst h3; exact ⟨h1, h4⟩
    ·rw [hb] at h2; cases h2
   ·rename_i hb
    rw [ux]
    constructor
    ·rintro ⟨h1, h2⟩
     obtain ⟨e, rs, h3, h4⟩ := gZ.1 h2
     exact ⟨_, _, ⟨h1, .rows 0 e rs, .inr ⟨hb, gZ.2 ⟨e, rs, h3, rfl, rfl⟩⟩, rfl⟩, h4⟩
    ·rintro ⟨u, m, ⟨h1, B', h2, h3⟩, h4⟩
     rcases h2 with h2 | ⟨-, h2⟩
     ·rw [hb] at h2; cases h2
     ·obtain ⟨e, rs, h5, h6, h7⟩ := gZ.1 h2
      subst h6; subst h7; subst h3
      exact ⟨h1, gZ.2 ⟨e, rs, h5, h4⟩⟩
  ·split
   ·rename_i m v hb; exact ⟨fun ⟨h1, h2⟩ => ⟨v, m, ⟨h1, hb⟩, h2⟩, fun ⟨u, m', ⟨h1, h2⟩, h4⟩ => by rw [hb] at h2; cases h2; exact ⟨h1, h4⟩⟩
   ·rename_i hb; exact ⟨fun h => h.2.elim, fun ⟨_, _, ⟨_, h⟩, _⟩ => by rw [hb] at h; cases h⟩
  ·split
   ·rename_i m hb; exact ⟨fun h => ⟨_, m, ⟨rfl, hb⟩, h⟩, fun ⟨u, m', ⟨h1, h2⟩, h4⟩ => by rw [hb] at h2; cases h2; subst h1; exact h4⟩
   ·rename_i hb; exact ⟨fun h => h.elim, fun ⟨_, _, ⟨_, h⟩, _⟩ => by rw [hb] at h; cases h⟩
  ·split
   ·rename_i v hb; exact ⟨fun h => ⟨v, st.mem, ⟨hb, rfl⟩, h⟩, fun ⟨u, m', ⟨h1, h2⟩, h4⟩ => by rw [hb] at h1; cases h1; subst h2; exact h4⟩
   ·rename_i hb; exact ⟨fun h => h.elim, fun ⟨_, _, ⟨h, _⟩, _⟩ => by rw [hb] at h; cases h⟩
  ·rename_i hc; exact absurd hc hz
  ·exact DD
 ·exact ⟨fun h => ⟨_, _, ⟨rfl, rfl⟩, h⟩, fun ⟨v, m, ⟨h1, h2⟩, h3⟩ => by subst h1; subst h2; exact h3⟩
 ·exact ⟨fun h => h.elim, fun ⟨_, _, h, _⟩ => h⟩

/-! ### what an operation looks at -/

theorem dY {ρ ρ' : Operand → V} {xs : Array Operand} (h : ∀ x ∈ xs, ρ x = ρ' x) : xs.toList.map ρ = xs.toList.map ρ' :=
 List.map_congr_left fun x hx => h x (by simpa using hx)
theorem qp {br : List (Nat × Nat)} {ρ ρ' : Operand → V} : ∀ {ps : List (Nat × Operand)} {cs : List V}, (∀ p ∈ ps, ρ p.2 = ρ' p.2) → oh br ρ ps cs = oh br ρ' ps cs
 | [], cs, _ => rfl
 | (i, x) :: r, cs, h => by
  simp only [oh,h (i,x) (by simp)]
  split
  ·split
   ·split
    ·exact qp fun p hp => h p (by simp [hp])
    ·rfl
   ·rfl
  ·rfl
theorem lj {ρ ρ' : Operand → V} : ∀ {ps : List (Nat × Operand)}, (∀ p ∈ ps, ρ p.2 = ρ' p.2) → gC ρ ps = gC ρ' ps
 | [], _ => rfl
 | (i, x) :: r, h => by
  simp only [gC,h (i,x) (by simp)]
  rw [lj fun p hp => h p (by simp [hp])]
theorem vQ {P : Program} {tt : Table} {T : TypeId} {ρ ρ' : Operand → V} {ps : List (Nat × Operand)} (h : ∀ p ∈ ps, ρ p.2 = ρ' p.2) : gG P tt T ps ρ = gG P tt T ps ρ' := by
 unfold gG
 split
 ·rw [qp h, lj h]
 ·rfl
theorem sm {tt : Table} {T : TypeId} {len : Nat} {ρ ρ' : Operand → V} {ps : List (Nat × Operand)} (h : ∀ p ∈ ps, ρ p.2 = ρ' p.2) : o6 tt T len ps ρ = o6 tt T len ps ρ' := by
 unfold o6
 have : (ps.map fun p => ρ p.2) = ps.map fun p => ρ' p.2 := List.map_congr_left h
 rw [this]

theorem DE {P : Program} {tt : Table} {o : Oper} {st st' : St} (h : ∀ x ∈ o.op.operands, st.eval x = st'.eval x) (hm : st.mem = st'.mem) : fJ P tt st o = fJ P tt st' o := by
 obtain ⟨dst, op, type, pos, after, guard⟩ := o
 cases op <;> simp only [Op.operands] at h <;> try rfl
 case slice T x lo hi mx =>
  cases mx <;> cases lo <;> cases hi <;> try rfl
  all_goals (simp only [fJ]; simp_all)
 case makeFunc fn first captured =>
  simp only [fJ]
  rw [dY (xs := first) fun x hx => h x (by simp [hx]), dY (xs := captured) fun x hx => h x (by simp [hx])]
 case call c =>
  obtain ⟨callee, args, ts⟩ := c
  have iS : args.toList.map st.eval = args.toList.map st'.eval := dY fun x hx => h x (by simp [Call.operands, hx])
  cases callee with
  | builtin b => cases b <;> simp only [fJ,iS,hm]
  | _ => rfl
 all_goals (simp only [fJ]; simp_all)
theorem z7 {P : Program} {tt : Table} {o : Oper} {st st' : St} (h : ∀ x ∈ o.op.operands, st.eval x = st'.eval x) (hm : st.mem = st'.mem) : qP P tt o st = qP P tt o st' := by
 have h0 := DE (P := P) (tt := tt) h hm
 obtain ⟨dst, op, type, pos, after, guard⟩ := o
 cases op <;> try exact h0
 case build T ps => exact vQ fun p hp => h p.2 (by simp only [Op.operands]; simpa using ⟨p.1, by simpa using hp⟩)
 case buildSlice T len ps =>
  simp only [qP]
  rw [sm fun p hp => h p.2 (by simp only [Op.operands]; simpa using ⟨p.1, by simpa using hp⟩)]
theorem sn {P : Program} {tt : Table} {o : Oper} {st st' : St} {Q : V → Prop} (h : ∀ x ∈ o.op.operands, st.eval x = st'.eval x) (hm : st.mem = st'.mem) : mw P tt o st Q = mw P tt o st' Q := by
 have h0 := z7 (P := P) (tt := tt) h hm
 unfold mw
 rw [h0]
 split
 ·rename_i f xs ts heq
  rw [heq] at h
  have iS : xs.toList.map st.eval = xs.toList.map st'.eval := dY fun x hx => h x (by simp [Op.operands, Call.operands, hx])
  have hf : st.eval f = st'.eval f := h f (by simp [Op.operands, Call.operands])
  rw [iS, hf]
 ·rfl
theorem ot {tt : Table} {o : Oper} {key : Nat} {st st' : St} (h : ∀ x ∈ o.op.operands, st.eval x = st'.eval x) : ef tt o key st = ef tt o key st' := by
 obtain ⟨dst, op, type, pos, after, guard⟩ := o
 cases op <;> try rfl
 case makeMap t r => cases r <;> rfl
 case makeSlice t l c => simp only [ef]; rw [h l (by simp [Op.operands]), h c (by simp [Op.operands])]
 case box T x => simp only [ef]; rw [h x (by simp [Op.operands])]
 case buildSlice T len ps =>
  simp only [ef]
  rw [sm fun p hp => h p.2 (by simp only [Op.operands]; simpa using ⟨p.1, by simpa using hp⟩)]
theorem qq {P : Program} {o : Oper} {ρ ρ' : Operand → V} {Q : Nat → List V → Prop} (h : ∀ x ∈ o.op.operands, ρ x = ρ' x) : kI P o ρ Q = kI P o ρ' Q := by
 unfold kI
 split
 ·rename_i f xs ts heq
  rw [heq] at h
  have iS : xs.toList.map ρ = xs.toList.map ρ' := dY fun x hx => h x (by simp [Op.operands, Call.operands, hx])
  have hf : ρ f = ρ' f := h f (by simp [Op.operands, Call.operands])
  rw [iS, hf]
 ·rfl
theorem z8 {P : Program} {tt : Table} {o : Oper} {key : Nat} {st st' : St} (h : ∀ x ∈ o.op.operands, st.eval x = st'.eval x) (hm : st.mem = st'.mem) : oq P tt key o st = oq P tt key o st' := by
 obtain ⟨dst, op, type, pos, after, guard⟩ := o
 cases op <;> try rfl
 case store T p x => simp only [oq,hm]; rw [h p (by simp [Op.operands]), h x (by simp [Op.operands])]
 case mapUpdate T m k x => simp only [oq,hm]; rw [h m (by simp [Op.operands]), h k (by simp [Op.operands]), h x (by simp [Op.operands])]
 case insert T m k x => simp only [oq,hm]; rw [h m (by simp [Op.operands]), h k (by simp [Op.operands]), h x (by simp [Op.operands])]
 case call c =>
  obtain ⟨callee, args, ts⟩ := c
  have iS : args.toList.map st.eval = args.toList.map st'.eval := dY fun x hx => h x (by simp [Op.operands, Call.operands, hx])
  cases callee with
  | builtin b => cases b <;> simp only [oq,iS,hm]
  | _ => rfl

theorem Aa {tt : Table} {o : Oper} {key : Nat} {st st' : St} (h : ∀ x ∈ o.op.operands, st.eval x = st'.eval x) (hm : st.mem = st'.mem) : qQ tt key o st = qQ tt key o st' := by
 obtain ⟨dst, op, type, pos, after, guard⟩ := o
 cases op <;> try rfl
 case store T p x => simp only [qQ,hm]; rw [h p (by simp [Op.operands]), h x (by simp [Op.operands])]
theorem FQ {tt : Table} {o : Oper} {key : Nat} {st : St} {m : List aw} (h : qQ tt key o st = some m) :
  ∃ B0 B : aw, B0.aA = 0 ∧ B.aA = 0 ∧ st.mem[key]? = some B0 ∧ m = st.mem.set key B ∧ ∀ mem : List aw, mem[key]? = some B0 → qQ tt key o { st with mem := mem } = some (mem.set key B) := by
 have ev : ∀ (mem : List aw) (x : Operand), St.eval { st with mem := mem } x = st.eval x := fun mem x => by cases x <;> rfl
 unfold qQ at h ⊢
 obtain ⟨dst, op, type, pos, after, guard⟩ := o
 cases op <;> try (cases h)
 case store T p x =>
  simp only [ev]
  dsimp only at h
  split at h
  ·rename_i b off hp
   split at h
   ·rename_i hb
    subst hb
    unfold gF at h
    split at h
    ·cases h
    ·rename_i new hn
     split at h
     ·rename_i jL
      dsimp only at h
      split at h
      ·rename_i cs tD
       split at h
       ·rename_i hle
        cases h
        refine ⟨.box cs, .box (b8 cs off new), rfl, rfl, tD, rfl, fun mem hm => ?_⟩
        simp only [hp,if_true]
        unfold gF
        simp only [hn,jL,if_true,hm,hle]
       ·cases h
      ·cases h
     ·cases h
   ·cases h
  ·cases h

theorem eval_put {st : St} {dst : Option Tmp} {v : V} {x : Operand} (h : ∀ d, dst = some d → x ≠ .tmp d) : (st.put dst v).eval x = st.eval x := by
 cases dst with
 | none => rfl
 | some d =>
  cases x with
  | tmp t =>
   have bL : d ≠ t := fun e => h d rfl (e ▸ rfl)
   simp [St.eval, St.put, List.getD, List.getElem?_set_ne bL]
  | _ => rfl
theorem Jr (st : St) (dst : Option Tmp) (v : V) : (st.put dst v).mem = st.mem := by cases dst <;> rfl
theorem tU {all : Array Oper} {o : Oper} {d : Tmp} (h : d ∉ o.looksAt all) : ∀ x ∈ o.op.operands, x ≠ .tmp d := by
 rintro x hx rfl
 exact h (by unfold Oper.looksAt; exact List.mem_append_left _ (List.mem_filterMap.2 ⟨.tmp d, by simpa using hx, rfl⟩))
theorem xP {all : Array Oper} {o : Oper} {st : St} {dst : Option Tmp} {v : V} (h : ∀ d, dst = some d → d ∉ o.looksAt all) : cT all (st.put dst v).fr o = cT all st.fr o := by
 cases dst with
 | none => rfl
 | some d =>
  have hd := h d rfl
  unfold cT
  split
  ·rfl
  ·rename_i j want hg
   split
   ·rfl
   ·rename_i e he
    have bL : d ≠ e := by
     rintro rfl
     exact hd (by unfold Oper.looksAt; exact List.mem_append_right _ (by rw [hg]; simp only []; rw [he]; simp))
    simp only [St.put,List.getElem?_set_ne bL]

section
variable {P : Program} {tt : Table} {all : Array Oper} {base : Nat}
theorem xQ {o : Oper} {st st' : St} (h : ∀ x ∈ o.op.operands, st.eval x = st'.eval x) (hm : st.mem = st'.mem) : kJ tt o st = kJ tt o st' := by
 unfold kJ
 split
 ·rename_i T x ho
  rw [hm, h x (by rw [ho]; simp [Op.operands])]
 ·rfl
theorem DF {o : Oper} {p : Pl} {st st' : St} {v : V} {m : List aw} (hw : cT all st.fr o = cT all st'.fr o) (h : ∀ x ∈ o.op.operands, st.eval x = st'.eval x) (hm : st.mem = st'.mem) :
  kO P tt all base o p st v m = kO P tt all base o p st' v m := by
 have e1 : ∀ (mem : List aw) (x : Operand), St.eval { st with mem := mem } x = st.eval x := fun mem x => by cases x <;> rfl
 have e2 : ∀ (mem : List aw) (x : Operand), St.eval { st' with mem := mem } x = st'.eval x := fun mem x => by cases x <;> rfl
 unfold kO
 rw [hw, ot h, z8 h hm, Aa h hm, xQ h hm, z6 h hm, hm]
 simp only [qq h]
 rw [sn (st := { st with mem := [] }) (st' := { st' with mem := [] }) (fun x hx => by rw [e1, e2]; exact h x hx) rfl,
  sn (st := { st with mem := di (p.mask.map (base + ·) ++ p.abs) st'.mem }) (st' := { st' with mem := di (p.mask.map (base + ·) ++ p.abs) st'.mem }) (fun x hx => by rw [e1, e2]; exact h x hx) rfl]
theorem B7 {o : Oper} {p : Pl} {st : St} {dst : Option Tmp} {u v : V} {m : List aw} (h : ∀ d, dst = some d → d ∉ o.looksAt all) : kO P tt all base o p (st.put dst u) v m = kO P tt all base o p st v m :=
 DF (xP h) (fun x hx => eval_put fun d hd => tU (h d hd) x hx) (Jr _ _ _)

def pf (all : Array Oper) (x : Oper) (px : Pl) (y : Oper) (py : Pl) : Bool :=
 px.cls != .z && py.cls != .z && x.apart all y && (px.cls == .n || py.cls == .n || (px.cls == .r && py.cls == .r) || ((px.cls == .a || px.cls == .s) && py.cls == .r && py.mask.contains px.key) || (px.cls == .r && (py.cls == .a || py.cls == .s) && px.mask.contains py.key) || ((px.cls == .a || px.cls == .s) && (py.cls == .a || py.cls == .s) && px.key != py.key) || (px.cls == .b && (py.cls == .r || py.cls == .b || (py.cls == .w && isApp y) || (py.cls == .a && B6 y))) || (py.cls == .b && (px.cls == .r || (px.cls == .w && isApp x) || (px.cls == .a && B6 x))) || (px.cls == .e && py.cls == .r && py.abs.contains px.key) || (px.cls == .r && py.cls == .e && px.abs.contains py.key))

theorem Ab {o : Oper} {key : Nat} {st : St} {B : aw} {v : V} (h : ef tt o key st = some (B, v)) : B.aA = 0 := by
 unfold ef at h
 split at h
 ·split at h <;> cases h <;> rfl
 ·split at h <;> cases h <;> rfl
 ·split at h <;> cases h <;> rfl
 ·cases h; rfl
 ·split at h <;> cases h <;> rfl
 ·cases h

theorem pg {o : Oper} {p : Pl} (hp : p.cls = .n) {st : St} {v : V} {m : List aw} (h : kO P tt all base o p st v m) (mem : List aw) : m = st.mem ∧ kO P tt all base o p { st with mem := mem } v mem := by
 unfold kO at h ⊢
 dsimp only
 split at h
 ·rename_i hw
  rw [hp] at h
  simp only [hw,hp]
  exact ⟨h.2, h.1, trivial⟩
 ·rename_i hw; simp only [hw]; exact ⟨h.2, h.1, trivial⟩
 ·exact h.elim
theorem c7 {o : Oper} {p : Pl} (hp : p.cls = .r) {st : St} {v : V} {m : List aw} (h : kO P tt all base o p st v m) {mem : List aw} (hm : di (p.mask.map (base + ·) ++ p.abs) mem = di (p.mask.map (base + ·) ++ p.abs) st.mem) :
  m = st.mem ∧ kO P tt all base o p { st with mem := mem } v mem := by
 unfold kO at h ⊢
 dsimp only
 split at h
 ·rename_i hw
  rw [hp] at h
  simp only [hw,hp]
  exact ⟨h.2, by rw [hm]; exact h.1, trivial⟩
 ·rename_i hw; simp only [hw]; exact ⟨h.2, h.1, trivial⟩
 ·exact h.elim
theorem l7 {o : Oper} {p : Pl} (hp : p.cls = .a ∨ p.cls = .s) {st : St} {v : V} {m : List aw} (h : kO P tt all base o p st v m) :
  (m = st.mem ∧ ∀ mem, kO P tt all base o p { st with mem := mem } v mem) ∨
  ∃ B0 B : aw, B0.aA = 0 ∧ B.aA = 0 ∧ st.mem[base + p.key]? = some B0 ∧ m = st.mem.set (base + p.key) B ∧ ∀ mem : List aw, mem[base + p.key]? = some B0 → kO P tt all base o p { st with mem := mem } v (mem.set (base + p.key) B) := by
 unfold kO at h
 split at h
 ·rename_i hw
  rcases hp with hp | hp
  ·rw [hp] at h
   obtain ⟨h1, B, h2, h3⟩ := h
   have QK : B.aA = 0 := by
    rcases h2 with h2 | ⟨-, h2⟩
    ·exact Ab h2
    ·obtain ⟨e, rs, -, h5, -⟩ := gZ.1 h2
     rw [h5]; rfl
   refine .inr ⟨.hole, B, rfl, QK, fU.1 h1, h3, fun mem hm => ?_⟩
   unfold kO
   simp only [hw,hp]
   refine ⟨fU.2 hm, B, ?_, rfl⟩
   have e0 : ef tt o (base + p.key) { st with mem := mem } = ef tt o (base + p.key) st := ot fun x _ => by cases x <;> rfl
   rw [e0]
   have e1 : ∀ Q, kI P o (St.eval { st with mem := mem }) Q = kI P o st.eval Q := fun Q => qq fun x _ => by cases x <;> rfl
   rw [e1]
   exact h2
  ·rw [hp] at h
   obtain ⟨h1, h2⟩ := h
   obtain ⟨B0, B, h3, h4, h5, h6, h7⟩ := FQ h2
   refine .inr ⟨B0, B, h3, h4, h5, h6, fun mem hm => ?_⟩
   unfold kO
   simp only [hw,hp]
   exact ⟨h1, h7 mem hm⟩
 ·rename_i hw
  refine .inl ⟨h.2, fun mem => ?_⟩
  unfold kO
  simp only [hw]
  exact ⟨h.1, trivial⟩
 ·exact h.elim

theorem uz {o : Oper} {p : Pl} (hp : p.cls = .e) {st : St} {v : V} {m : List aw} (h : kO P tt all base o p st v m) :
  (m = st.mem ∧ ∀ mem, kO P tt all base o p { st with mem := mem } v mem) ∨
  ∃ B0 B : aw, B0.aA = 0 ∧ B.aA = 0 ∧ st.mem[p.key]? = some B0 ∧ m = st.mem.set p.key B ∧ ∀ mem : List aw, mem[p.key]? = some B0 → kO P tt all base o p { st with mem := mem } v (mem.set p.key B) := by
 unfold kO at h
 split at h
 ·rename_i hw
  rw [hp] at h
  obtain ⟨B0, B, h1, h2, h3, h4, h5⟩ := FP h
  refine .inr ⟨B0, B, h1, h2, h3, h4, fun mem hm => ?_⟩
  unfold kO
  simp only [hw,hp]
  exact h5 mem hm
 ·rename_i hw
  refine .inl ⟨h.2, fun mem => ?_⟩
  unfold kO
  simp only [hw]
  exact ⟨h.1, trivial⟩
 ·exact h.elim

theorem ph {o : Oper} {p : Pl} (hp : p.cls = .b) {st : St} {v : V} {m : List aw} (h : kO P tt all base o p st v m) :
  m = st.mem ∧ ∀ mem : List aw, mem.map cU = st.mem.map cU → kO P tt all base o p { st with mem := mem } v mem := by
 unfold kO at h ⊢
 dsimp only
 split at h
 ·rename_i hw
  rw [hp] at h
  simp only [hw,hp]
  refine ⟨h.2, fun mem hm => ⟨?_, trivial⟩⟩
  have h1 := h.1
  unfold kJ at h1 ⊢
  split at h1
  ·rename_i T x ho
   have e : St.eval { st with mem := mem } x = st.eval x := by cases x <;> rfl
   show kC tt (mem.map cU) T (St.eval { st with mem := mem } x) = some v
   rw [hm, e]; exact h1
  ·cases h1
 ·rename_i hw; simp only [hw]; exact ⟨h.2, fun _ _ => ⟨h.1, trivial⟩⟩
 ·exact h.elim
theorem uA {o : Oper} {p : Pl} (hp : p.cls = .w) (ha : isApp o = true) {st : St} {v : V} {m : List aw} (h : kO P tt all base o p st v m) : m.map cU = st.mem.map cU := by
 unfold kO at h
 split at h
 ·rw [hp] at h
  exact FO ha (fU.1 h.1) h.2
 ·rw [h.2]
 ·exact h.elim
theorem so {o : Oper} {p : Pl} (hp : p.cls = .a) (ha : B6 o = true) {st : St} {v : V} {m : List aw} (h : kO P tt all base o p st v m) : m.map cU = st.mem.map cU := by
 unfold kO at h
 split at h
 ·rw [hp] at h
  obtain ⟨h1, B, h2, rfl⟩ := h
  have hB : cU B = .dead := by
   rcases h2 with h2 | ⟨-, h2⟩
   ·unfold ef at h2
    unfold B6 at ha
    split at h2
    ·rename_i he; rw [he] at ha; cases ha
    ·rename_i he; rw [he] at ha; cases ha
    ·split at h2 <;> cases h2; rfl
    ·cases h2; rfl
    ·split at h2 <;> cases h2; rfl
    ·cases h2
   ·obtain ⟨e, rs, -, h5, -⟩ := gZ.1 h2
    rw [h5]; rfl
  have hh := fU.1 h1
  apply List.ext_getElem?
  intro q
  rw [List.getElem?_map, List.getElem?_map, List.getElem?_set]
  split
  ·rename_i hq; subst hq
   rw [if_pos (List.getElem?_eq_some_iff.1 hh).1, hh, Option.map_some, Option.map_some, hB]; rfl
  ·rfl
 ·rw [h.2]
 ·exact h.elim
theorem St.put_comm (st : St) {x y : Option Tmp} (v u : V) (h : ∀ d, x = some d → y ≠ some d) : (st.put x v).put y u = (st.put y u).put x v := by
 cases x with
 | none => rfl
 | some d =>
  cases y with
  | none => rfl
  | some e =>
   have bL : d ≠ e := fun he => h d rfl (he ▸ rfl)
   simp [St.put, List.set_comm _ _ bL]
theorem xR (st : St) (x : Option Tmp) (v : V) (m : List aw) : { st.put x v with mem := m } = St.put { st with mem := m } x v := by cases x <;> rfl

theorem Ac {x y : Oper} {px py : Pl} (bK : pf all x px y py = true) {st : St} {Q : St → Prop} (h : dI P tt all base x px st fun st' => dI P tt all base y py st' Q) :
  dI P tt all base y py st fun st' => dI P tt all base x px st' Q := by
 unfold pf at bK
 rw [Bool.and_eq_true, Bool.and_eq_true, Bool.and_eq_true] at bK
 obtain ⟨⟨⟨TQ, TR⟩, US⟩, jo⟩ := bK
 have TQ : px.cls ≠ .z := by simpa using TQ
 have TR : py.cls ≠ .z := by simpa using TR
 obtain ⟨Yu, L3, UT⟩ := Oper.apart_spec US
 obtain ⟨v, m1, h1, h2⟩ := (dX TQ).1 h
 obtain ⟨u, m2, h3, h4⟩ := (dX TR).1 h2
 rw [B7 Yu] at h3
 have fin : ∀ Rg , kO P tt all base y py st u Rg → kO P tt all base x px { st with mem := Rg } v m2 → dI P tt all base y py st fun st' => dI P tt all base x px st' Q := fun Rg h5 h6 => by
  refine (dX TR).2 ⟨u, Rg, h5, (dX TQ).2 ⟨v, m2, by rw [B7 UT]; exact h6, ?_⟩⟩
  have e1 : ({ (St.put { st with mem := m1 } x.dst v) with mem := m2 } : St).put y.dst u = ({ (St.put { st with mem := Rg } y.dst u) with mem := m2 } : St).put x.dst v := by
   rw [xR, xR]
   exact St.put_comm _ _ _ L3
  rw [← e1]; exact h4
 have back : ∀ (m : List aw) (z : Oper) (pz : Pl) (c : V) (m' : List aw), kO P tt all base z pz { ({ st with mem := m } : St) with mem := st.mem } c m' = kO P tt all base z pz st c m' := fun _ _ _ _ _ => rfl
 simp only [Bool.or_eq_true,Bool.and_eq_true,beq_iff_eq,bne_iff_ne] at jo
 rcases jo with ((((((((hn | hn) | ⟨hr, tF⟩) | ⟨⟨ha, hr⟩, hm⟩) | ⟨⟨hr, ha⟩, hm⟩) | ⟨⟨ha, Rh⟩, bL⟩) | ⟨hb, hy⟩) | ⟨hb, hx⟩) | ⟨⟨he, hr⟩, hm⟩) | ⟨⟨hr, he⟩, hm⟩
 ·-- x IY not look
  obtain ⟨rfl, -⟩ := pg hn h1 []
  exact fin m2 h3 (pg hn h1 m2).2
 ·-- y IY not look
  obtain ⟨h5, h6⟩ := pg hn h3 st.mem
  dsimp only at h5; subst h5
  exact fin st.mem h6 h1
 ·obtain ⟨rfl, -⟩ := c7 hr h1 rfl
  obtain ⟨h5, h6⟩ := c7 tF h3 (mem := st.mem) rfl
  dsimp only at h5; subst h5
  exact fin st.mem h6 h1
 ·rcases l7 ha h1 with ⟨rfl, -⟩ | ⟨B0, B, EY, hv, hh, rfl, -⟩
  ·obtain ⟨h5, h6⟩ := c7 hr h3 (mem := st.mem) rfl
   dsimp only at h5; subst h5
   exact fin st.mem h6 h1
  ·have fK : di (py.mask.map (base + ·) ++ py.abs) (st.mem.set (base + px.key) B) = di (py.mask.map (base + ·) ++ py.abs) st.mem := l6 (List.mem_append_left _ (List.mem_map.2 ⟨_, by simpa using hm, rfl⟩)) hh EY hv
   obtain ⟨h5, h6⟩ := c7 hr h3 (mem := st.mem) fK.symm
   dsimp only at h5; subst h5
   exact fin st.mem h6 h1
 ·obtain ⟨rfl, -⟩ := c7 hr h1 rfl
  rcases l7 ha h3 with ⟨h5, h6⟩ | ⟨B0, B, EY, hv, hh, h5, h6⟩
  ·dsimp only at h5; subst h5
   exact fin st.mem h3 h1
  ·dsimp only at h5 hh; subst h5
   have fK : di (px.mask.map (base + ·) ++ px.abs) (st.mem.set (base + py.key) B) = di (px.mask.map (base + ·) ++ px.abs) st.mem := l6 (List.mem_append_left _ (List.mem_map.2 ⟨_, by simpa using hm, rfl⟩)) hh EY hv
   exact fin _ h3 (c7 hr h1 fK).2
 ·rcases l7 ha h1 with ⟨rfl, hx⟩ | ⟨B0, B, EY, hv, hh, rfl, hx⟩
  ·exact fin m2 h3 (hx m2)
  ·rcases l7 Rh h3 with ⟨h5, h6⟩ | ⟨qR, B', Yv, qJ, IG, h5, h6⟩
   ·dsimp only at h5; subst h5
    exact fin st.mem (h6 st.mem) h1
   ·dsimp only at h5 IG; subst h5
    have Fh : base + px.key ≠ base + py.key := by omega
    rw [List.getElem?_set_ne Fh] at IG
    have h7 := h6 st.mem IG
    have h8 := hx (st.mem.set (base + py.key) B') (by rw [List.getElem?_set_ne (fun e => Fh e.symm)]; exact hh)
    refine fin _ h7 ?_
    rw [List.set_comm _ _ Fh]
    exact h8
 ·obtain ⟨rfl, h5⟩ := ph hb h1
  refine fin m2 h3 (h5 m2 ?_)
  rcases hy with ((hy | hy) | ⟨hy, ha⟩) | ⟨hy, ha⟩
  ·rw [(c7 hy h3 rfl).1]
  ·rw [(ph hy h3).1]
  ·exact uA hy ha h3
  ·exact so hy ha h3
 ·obtain ⟨h5, h6⟩ := ph hb h3
  dsimp only at h5; subst h5
  refine fin st.mem (h6 st.mem ?_) h1
  rcases hx with (hx | ⟨hx, ha⟩) | ⟨hx, ha⟩
  ·rw [(c7 hx h1 rfl).1]
  ·exact (uA hx ha h1).symm
  ·exact (so hx ha h1).symm
 ·rcases uz he h1 with ⟨rfl, -⟩ | ⟨B0, B, EY, hv, hh, rfl, -⟩
  ·obtain ⟨h5, h6⟩ := c7 hr h3 (mem := st.mem) rfl
   dsimp only at h5; subst h5
   exact fin st.mem h6 h1
  ·have fK : di (py.mask.map (base + ·) ++ py.abs) (st.mem.set px.key B) = di (py.mask.map (base + ·) ++ py.abs) st.mem := l6 (List.mem_append_right _ (by simpa using hm)) hh EY hv
   obtain ⟨h5, h6⟩ := c7 hr h3 (mem := st.mem) fK.symm
   dsimp only at h5; subst h5
   exact fin st.mem h6 h1
 ·obtain ⟨rfl, -⟩ := c7 hr h1 rfl
  rcases uz he h3 with ⟨h5, h6⟩ | ⟨B0, B, EY, hv, hh, h5, h6⟩
  ·dsimp only at h5; subst h5
   exact fin st.mem h3 h1
  ·dsimp only at h5 hh; subst h5
   have fK : di (px.mask.map (base + ·) ++ px.abs) (st.mem.set py.key B) = di (px.mask.map (base + ·) ++ px.abs) st.mem := l6 (List.mem_append_right _ (by simpa using hm)) hh EY hv
   exact fin _ h3 (c7 hr h1 fK).2
end
end Go.Eng
end

section
namespace Go.Eng
variable [aE]
open Go.RowKit (Below)

theorem l8 {mem : List aw} {size : Nat} {l : Int} {h : Option Int} {x v : V} (hc : cutAt [] size l h x = some v) : cutAt mem size l h x = some v := by
 unfold cutAt at hc ⊢
 split at hc
 ·exact hc
 ·simp [eJ] at hc
 ·cases hc
theorem FR {P : Program} {tt : Table} {mem : List aw} {T : TypeId} {x v : V} {lo hi : Option V} (hc : rE P tt [] T x lo hi = some v) : rE P tt mem T x lo hi = some v := by
 unfold rE at hc ⊢
 split
 ·exact hc
 ·rename_i bL
  split at hc
  ·exact absurd rfl (bL _)
  ·split at hc
   ·cases hc
   ·split at hc
    ·cases hc
    ·split at hc
     ·split at hc
      ·exact l8 hc
      ·split at hc
       ·exact l8 hc
       ·cases hc
     ·split at hc
      ·cases hc
      ·split at hc
       ·exact l8 hc
       ·split at hc
        ·exact l8 hc
        ·cases hc
theorem DG {tt : Table} {mem : List aw} {T : TypeId} {p v : V} (h : kC tt [] T p = some v) : kC tt mem T p = some v := by
 cases p <;> simp [kC, rowOf] at h ⊢
 exact h
theorem Ad {tt : Table} {mem : List aw} {T : TypeId} {p i v : V} (h : ik tt [] T p i = some v) : ik tt mem T p i = some v := by
 unfold ik at h ⊢
 split at h
 ·split at h
  ·split at h
   ·cases p <;> simp [indexAt, eJ] at h ⊢
    exact h
   ·cases h
  ·cases h
 ·cases h
theorem Ae {tt : Table} {mem : List aw} {T : TypeId} {b o : Nat} {i : V} : ik tt mem T (.ptr b o) i = none := by
 unfold ik
 split
 ·split
  ·split <;> rfl
  ·rfl
 ·rfl
theorem Af {P : Program} {tt : Table} {mem : List aw} {T : TypeId} {p i v : V} (h : (match ik tt [] T p i with | some v => some v | none => rH P tt T p i) = some v) : (match ik tt mem T p i with | some v => some v | none => rH P tt T p i) = some v := by
 split at h
 ·rename_i u hu
  cases h
  rw [Ad hu]
 ·have hp : ∃ b o, p = .ptr b o := by
   unfold rH at h
   split at h
   ·exact ⟨_, _, rfl⟩
   ·cases h
  obtain ⟨b, o, rfl⟩ := hp
  rw [Ae]; exact h
theorem xS {P : Program} {mem : List aw} {T : TypeId} {m i v : V} {ok : Bool} (h : df P [] T m i ok = some v) : df P mem T m i ok = some v := by
 unfold df at h ⊢
 split at h
 ·split at h
  ·split at h
   ·rename_i hk
    rw [if_pos hk]
    unfold nW at h ⊢
    split at h
    ·simp at h
    ·exact h
    ·cases h
   ·cases h
  ·cases h
 ·cases h
theorem FT {mem : List aw} {it v : V} (h : Dm [] it = some v) : Dm mem it = some v := by
 unfold Dm at h
 split at h
 ·simp at h
 ·cases h
theorem FU {P : Program} {tt : Table} {mem : List aw} {ts : Array TypeId} {ty : TypeId} {xs : List V} {v : V} (h : (match nX [] ts P xs with | some v => some v | none => qL P tt ts ty xs) = some v) :
  (match nX mem ts P xs with | some v => some v | none => qL P tt ts ty xs) = some v := by
 by_cases hx : ∃ b, xs = [.mp b]
 ·obtain ⟨b, rfl⟩ := hx
  simp [nX, qL, cI, iZ, bw] at h
 ·have hn : ∀ m, nX m ts P xs = none := fun m => by
   unfold nX
   split
   ·exact absurd ⟨_, rfl⟩ hx
   ·rfl
  rw [hn] at h ⊢
  exact h
theorem DH (st : St) (mem : List aw) (x : Operand) : St.eval { st with mem := mem } x = st.eval x := by cases x <;> rfl
theorem cg (st : St) (mem : List aw) : St.eval { st with mem := mem } = st.eval := funext fun x => DH st mem x
theorem DI {P : Program} {mem : List aw} {s d : TypeId} {x v : V} (h : kF P [] s d x = some v) : kF P mem s d x = some v := by
 cases x <;> first | exact h | (simp [kF] at h)
theorem Js {P : Program} {tt : Table} {st : St} {o : Oper} {v : V} (h : fJ P tt { st with mem := [] } o = some v) : fJ P tt st o = some v := by
 obtain ⟨dst, op, type, pos, after, guard⟩ := o
 cases op
 case load T x => simp only [fJ,cg] at h ⊢; exact DG h
 case indexAddr T x i => simp only [fJ,cg] at h ⊢; exact Af h
 case entry it => simp only [fJ,cg] at h ⊢; exact FT h
 case convert s d x => simp only [fJ,cg] at h ⊢; exact DI h
 case lookup T x i ok => simp only [fJ,cg] at h ⊢; exact xS h
 case slice T x lo hi mx =>
  cases mx
  ·simp only [fJ,cg] at h ⊢; exact FR h
  ·cases lo <;> cases hi <;> simp only [fJ,cg,reduceCtorEq] at h ⊢
   exact h
 case call c =>
  obtain ⟨callee, args, ts⟩ := c
  cases callee with
  | builtin b => cases b <;> first | (simp only [fJ,cg] at h ⊢; exact h) | (simp only [fJ,cg] at h ⊢; exact FU h) | (simp [fJ] at h)
  | _ => simp [fJ] at h
 all_goals first | (simp only [fJ,cg] at h ⊢; exact h) | (simp [fJ] at h)

theorem qs {mem : List aw} {v v' : V} (h : bU [] v = some v') : bU mem v = some v' ∧ ek v = [] := by
 unfold bU at h
 split at h
 ·exact ⟨h, rfl⟩
 ·exact ⟨h, rfl⟩
 ·exact ⟨h, rfl⟩
 ·exact ⟨h, rfl⟩
 ·exact ⟨h, rfl⟩
 ·exact ⟨h, rfl⟩
 ·simp at h
 ·exact ⟨h, rfl⟩
 ·cases h
theorem ou {mem : List aw} : ∀ {vs vs' : List V}, dg [] vs = some vs' → dg mem vs = some vs' ∧ vs.flatMap ek = []
 | [], vs', h => ⟨h, rfl⟩
 | c :: r, vs', h => by
  simp only [dg] at h ⊢
  split at h
  ·rename_i c' hc
   split at h
   ·rename_i r' hr
    obtain ⟨h1, h2⟩ := qs (mem := mem) hc
    obtain ⟨h3, h4⟩ := ou (mem := mem) hr
    rw [h1, h3]
    exact ⟨h, by simp [List.flatMap_cons, h2, h4]⟩
   ·cases h
  ·cases h
theorem FV {mem : List aw} {v v' : V} (h : fi [] v = some v') : fi mem v = some v' ∧ cp v = [] := by
 unfold fi at h
 split at h
 ·rename_i cs
  split at h
  ·rename_i l hl
   obtain ⟨h1, h2⟩ := ou (mem := mem) hl
   exact ⟨by simp only [fi,h1]; exact h, h2⟩
  ·cases h
 ·rename_i bL
  obtain ⟨h1, h2⟩ := qs (mem := mem) h
  exact ⟨by cases v <;> first | exact h1 | exact absurd rfl (bL _), by cases v <;> first | exact h2 | exact absurd rfl (bL _)⟩
theorem ov {mem : List aw} : ∀ {vs vs' : List V}, cy [] vs = some vs' → cy mem vs = some vs' ∧ vs.flatMap cp = []
 | [], vs', h => ⟨h, rfl⟩
 | c :: r, vs', h => by
  simp only [cy] at h ⊢
  split at h
  ·rename_i c' hc
   split at h
   ·rename_i r' hr
    obtain ⟨h1, h2⟩ := FV (mem := mem) hc
    obtain ⟨h3, h4⟩ := ov (mem := mem) hr
    rw [h1, h3]
    exact ⟨h, by simp [List.flatMap_cons, h2, h4]⟩
   ·cases h
  ·cases h
theorem kK {v v' : V} (h : bU [] v = some v') {E : Env} {x : Value} (hr : aW E v x) : aW E v' x := by
 unfold bU at h
 split at h
 ·cases h; exact hr
 ·cases h; exact oc hr
 ·cases h; exact hr
 ·cases h; cases hr with | full _ _ _ h => exact h
 ·cases h; exact hr
 ·cases h; exact hr
 ·simp at h
 ·cases h
  cases hr with
  | fM _ f _ _ xs ys hx hy h1 h2 =>
   have e1 : xs = #[] := by simpa using hx.symm
   have e2 : ys = #[] := by simpa using hy.symm
   subst e1; subst e2; exact .sc _ _
 ·cases h
theorem ju {E : Env} : ∀ {vs vs' : List V} {xs : List Value}, dg [] vs = some vs' → aP E vs xs → aP E vs' xs
 | [], vs', xs, h, hr => by cases h; exact hr
 | c :: r, vs', xs, h, hr => by
  obtain ⟨x, ys, rfl, h1, h2⟩ := hr.of_cons
  simp only [dg] at h
  split at h
  ·rename_i c' hc
   split at h
   ·rename_i r' tF
    cases h
    exact .cons (kK hc h1) (ju tF h2)
   ·cases h
  ·cases h
theorem vR {v v' : V} (h : fi [] v = some v') {E : Env} {x : Value} (hr : aW E v x) : aW E v' x := by
 unfold fi at h
 split at h
 ·rename_i cs
  split at h
  ·rename_i l hl
   cases h
   cases hr with
   | agg _ _ xs hlen hh =>
    have := ju hl (E := E) (xs := xs.toList) ⟨by simpa using hlen, fun i c x hc hx => hh i c x hc (by simpa using hx)⟩
    exact .agg _ _ _ (by simpa using this.1) fun i c x hc hx => this.2 i c x hc (by simpa using hx)
  ·cases h
 ·exact kK h hr
theorem ow {E : Env} : ∀ {vs vs' : List V} {xs : List Value}, cy [] vs = some vs' → aP E vs xs → aP E vs' xs
 | [], vs', xs, h, hr => by cases h; exact hr
 | c :: r, vs', xs, h, hr => by
  obtain ⟨x, ys, rfl, h1, h2⟩ := hr.of_cons
  simp only [cy] at h
  split at h
  ·rename_i c' hc
   split at h
   ·rename_i r' tF
    cases h
    exact .cons (vR hc h1) (ow tF h2)
   ·cases h
  ·cases h
theorem ox (mem : List aw) (r : V) : cK mem [] r = mem := by unfold cK; split <;> rfl

theorem si.hole {P : Program} {f : FuncId} {vs vs' : List V} {e : Nat} {rs : List V} (hp : cy [] vs = some vs') (h : si P f vs' e rs) {mem : List aw} {key : Nat} (ca : mem[key]? = some .hole) :
  aT P f vs mem (.ms key 0 0 rs.length) (mem.set key (.rows 0 e rs)) := by
 obtain ⟨v0, h⟩ := h
 refine ⟨h.1, fun E w xs hs hx => ?_⟩
 obtain ⟨LU, hk⟩ := ov (mem := mem) hp
 have h1 := fT hs (keys := []) hx LU (by rw [hk]; simp)
 have hE : (E.jM w []).pure = ⟨E.F, fun _ _ => none, E.gl⟩ := by
  refine Env.Dj (funext fun ad => ?_) rfl
  simp only [Env.pure,Env.jM]
  cases hh : E.F ad <;> simp
 rw [hE] at h1
 have Ri : key < mem.length := (List.getElem?_eq_some_iff.1 ca).1
 have eQ : ∀ v, E.aK key v = none := hs.mem key _ ca
 have jn : aZ ⟨E.F, fun _ _ => none, E.gl⟩ w { tmps := #[], defers := [] } { fr := [], mem := [] } :=
  ⟨hs.F, (fun k v g e c h => by cases h), (fun k B h => by simp at h), (fun k _ v => rfl), (fun k B h => by simp at h), (fun k k' v v' g e c e' c' h => by cases h), .nil _⟩
 refine (h.2 _ w xs jn h1).mono ?_
 rintro en w' ⟨E', x, rfl, dq, kR, hr⟩
 have im : ∀ k v g e c, E'.aK k v = some (g, e, c) → w.heap.size ≤ g := fun k v g e c hb => by
  rcases dq.aK _ _ _ _ _ hb with ⟨_, _, _, _, h⟩ | h
  ·cases h
  ·exact h
 have hold : ∀ b, b < w.heap.size → w'.heap[b]? = w.heap[b]? := fun b hb => dq.heap b hb fun _ _ _ _ h => by cases h
 have Rj : ∀ ad y, E'.F ad = some y → E.F ad = some y ∨ w.heap.size ≤ ad.block := fun ad y hy => by
  rcases dq.F _ _ hy with h | h | ⟨_, _, _, _, h⟩
  ·exact .inl h
  ·exact .inr h
  ·cases h
 have Jt : (⟨E'.F, fun k v => if k = key then (if v = 0 then E'.aK 0 v0 else none) else E.aK k v, E'.gl⟩ : Env).aK key 0 = E'.aK 0 v0 := by simp
 have Nv : ∀ v, v ≠ 0 → (⟨E'.F, fun k v => if k = key then (if v = 0 then E'.aK 0 v0 else none) else E.aK k v, E'.gl⟩ : Env).aK key v = none := fun v hv => by simp [hv]
 have kD : ∀ k v, k ≠ key → (⟨E'.F, fun k v => if k = key then (if v = 0 then E'.aK 0 v0 else none) else E.aK k v, E'.gl⟩ : Env).aK k v = E.aK k v := fun k v hk => if_neg hk
 generalize Rk : (⟨E'.F, fun k v => if k = key then (if v = 0 then E'.aK 0 v0 else none) else E.aK k v, E'.gl⟩ : Env) = E2 at Jt Nv kD
 have ee : E2.F = E'.F := by rw [← Rk]
 have ug : E2.pure = E'.pure := Env.Dj ee rfl
 have B8 : ∀ v t, E2.aK key v = some t → v = 0 ∧ E'.aK 0 v0 = some t := fun v t ht => by
  by_cases hv : v = 0
  ·subst hv; exact ⟨rfl, Jt ▸ ht⟩
  ·rw [Nv v hv] at ht; cases ht
 have hle : E.le E2 := ⟨fun ad y hy => by rw [ee]; exact dq.le.F _ _ hy, fun k v t hk => by
  by_cases bO : k = key
  ·subst bO; rw [eQ v] at hk; cases hk
  ·rw [kD k v bO]; exact hk⟩
 refine ⟨E2, x, rfl, ⟨hle, fun k v g e c hk => ?_, fun ad y hy => ?_, dq.os, dq.tape, dq.output, dq.size, fun b hb _ => hold b hb⟩, ⟨fun ad y hy => kR.F _ _ (by rw [← ee]; exact hy), fun k v g e c hk => ?_, fun k B hk => ?_, fun k hk v => ?_, fun k B hk v hv => ?_, fun k k' v v' g e1 c1 e2 c2 h5 h6 => ?_, .nil _⟩, ?_⟩
 ·by_cases bO : k = key
  ·subst bO; obtain ⟨-, h⟩ := B8 _ _ hk; exact .inr (im _ _ _ _ _ h)
  ·rw [kD k v bO] at hk; exact .inl ⟨k, v, e, c, hk⟩
 ·rw [ee] at hy
  rcases Rj ad y hy with h | h
  ·exact .inl h
  ·exact .inr (.inl h)
 ·by_cases bO : k = key
  ·subst bO; obtain ⟨-, h⟩ := B8 _ _ hk; exact kR.lt _ _ _ _ _ h
  ·rw [kD k v bO] at hk; have := hs.lt _ _ _ _ _ hk; have := dq.size; omega
 ·rw [List.getElem?_set] at hk
  by_cases bO : key = k
  ·subst bO
   simp only [if_true,Ri] at hk
   cases hk
   have h0 := kR.mem 0 _ rfl
   rcases h0 with ⟨h1, h2⟩ | ⟨g, T, ys, c, h1, h2, h3, h4, h5, h6⟩
   ·exact .inl ⟨h1, by rw [Jt]; exact h2⟩
   ·exact .inr ⟨g, T, ys, c, by rw [Jt]; exact h1, h2, h3, h4, by rw [ug]; exact h5, fun o => by rw [ee]; exact h6 o⟩
  ·rw [if_neg bO] at hk
   refine (hs.mem k B hk).mono hle (fun v hv => by rw [kD k v (fun e => bO e.symm)]; exact hv) (fun g e c hb => hold g (hs.lt _ _ _ _ _ hb)) fun g e c o hb hn => ?_
   rw [ee]
   cases hy : E'.F ⟨g, o, none⟩ with
   | none => rfl
   | some y =>
    rcases Rj _ y hy with h | h
    ·rw [hn] at h; cases h
    ·have := hs.lt _ _ _ _ _ hb; simp at h; omega
 ·dsimp only at hk
  rw [List.length_set] at hk
  rw [kD k v (by omega)]; exact hs.top k (by dsimp only; omega) v
 ·rw [List.getElem?_set] at hk
  by_cases bO : key = k
  ·subst bO
   simp only [if_true,Ri] at hk
   cases hk
   exact Nv v (by simp [aw.aA] at hv; omega)
  ·rw [if_neg bO] at hk
   rw [kD k v (fun e => bO e.symm)]; exact hs.aA k B hk v hv
 ·by_cases fC : k = key <;> by_cases jl : k' = key
  ·rw [fC, jl]
  ·subst fC
   obtain ⟨-, h⟩ := B8 _ _ h5
   rw [kD k' _ jl] at h6
   have := hs.lt _ _ _ _ _ h6; have := im _ _ _ _ _ h; omega
  ·subst jl
   obtain ⟨-, h⟩ := B8 _ _ h6
   rw [kD k _ fC] at h5
   have := hs.lt _ _ _ _ _ h5; have := im _ _ _ _ _ h; omega
  ·rw [kD k _ fC] at h5; rw [kD k' _ jl] at h6
   exact hs.apart _ _ _ _ _ _ _ _ _ h5 h6
 ·rcases vA hr with ⟨h0, rfl⟩ | ⟨g, e, c, aa, cap, rfl, hb, hl, h0, hc⟩
  ·rw [h0]; exact .dc _ _ _ _
  ·exact .ms _ _ _ _ _ g e c _ _ (by rw [Jt]; exact hb) hl h0 hc

theorem aZ.FW {E : Env} {w : World} {a : Act} {st : St} (hs : aZ E w a st) {xs : Array Value} {rs : List V} {e c : Nat} (T : TypeId) (hl : rs.length ≤ c) (hr : fu E.pure e rs (fun o => xs[o]?)) :
  ∃ E', aZ E' (w.alloc (.cells xs T (0, 0))) a st ∧ dn E w E' (w.alloc (.cells xs T (0, 0))) ∧ aW E' (.slice rs) (.slice (some ⟨w.heap.size, 0, none⟩) rs.length c) := by
 have kZ : ∀ o, (w.alloc (.cells xs T (0, 0))).cell? ⟨w.heap.size, o, none⟩ = xs[o]? := fun o => iL (heap_alloc_new w _) o
 have hle : E.le ⟨fun ad => match E.F ad with | some x => some x | none => if ad.block = w.heap.size ∧ ad.spot = none then xs[ad.off]? else none, E.aK, E.gl.mono fun ad x h => by simp only [h]⟩ := ⟨fun ad x h => by dsimp only; rw [h], fun _ _ _ h => h⟩
 refine ⟨⟨fun ad => match E.F ad with | some x => some x | none => if ad.block = w.heap.size ∧ ad.spot = none then xs[ad.off]? else none, E.aK, E.gl.mono fun ad x h => by simp only [h]⟩, ⟨fun ad x hx => ?_, fun k v g e c h => ?_, fun k B hB => ?_, hs.top, hs.aA, hs.apart, hs.fr.mono hle⟩, ⟨hle, fun k v g e c h => .inl ⟨k, v, e, c, h⟩, fun ad x hx => ?_, rfl, rfl, rfl, by simp, fun b hb _ => Go.RowKit.Below.heap_alloc w _ b hb⟩, ?_⟩
 ·dsimp only at hx
  split at hx
  ·rename_i y hy; cases hx
   rw [World.cell?_alloc_lt w _ ad (World.block_lt_of_cell? w ad (hs.F ad _ hy))]; exact hs.F ad _ hy
  ·split at hx
   ·rename_i hc
    obtain ⟨b, o, el⟩ := ad
    obtain ⟨rfl, rfl⟩ := hc
    rw [kZ]; exact hx
   ·cases hx
 ·have := hs.lt _ _ _ _ _ h; simp; omega
 ·refine (hs.mem k B hB).mono hle (fun v h => h) (fun g e' c' hb => Go.RowKit.Below.heap_alloc w _ g (hs.lt _ _ _ _ _ hb)) fun g e c o hb hn => ?_
  dsimp only
  rw [hn]
  have := hs.lt _ _ _ _ _ hb
  simp; intro h; omega
 ·dsimp only at hx
  split at hx
  ·rename_i y hy; cases hx; exact .inl hy
  ·split at hx
   ·rename_i hc; exact .inr (.inl (by rw [hc.1]; exact Nat.le_refl _))
   ·cases hx
 ·have hn : ∀ o, E.F ⟨w.heap.size, o, none⟩ = none := fun o => by
   cases hx : E.F ⟨w.heap.size, o, none⟩ with
   | none => rfl
   | some x => have := World.block_lt_of_cell? w _ (hs.F _ _ hx); simp at this
  refine .slice _ rs _ c e ⟨w.heap.size, 0, none⟩ (fun i j => (xs[i * e + j]?).getD undef) (fun _ => rfl) hl (fun i row hi => (hr i row hi).1) (fun i row j cc hi hj => ?_) (fun i row j cc hi hj => ?_) fun i row j cc hi hj => ?_
  ·obtain ⟨x, hx, h1, h2⟩ := (hr i row hi).2 j cc hj
   rw [add_lit, Nat.zero_add]
   simp only [hn,true_and,if_true,and_self]
   dsimp only at hx; rw [hx]; rfl
  ·obtain ⟨x, hx, h1, h2⟩ := (hr i row hi).2 j cc hj
   dsimp only at hx ⊢; rw [hx]; exact h1
  ·obtain ⟨x, hx, h1, h2⟩ := (hr i row hi).2 j cc hj
   dsimp only at hx ⊢; rw [hx]; exact h2.mono (Env.fq hle)

section
variable {P : Program} {tt : Table} (ht : TT P tt)
include ht
theorem sr {E : Env} {w : World} {a : Act} {st : St} (hs : aZ E w a st) {o : Oper} {mem : List aw} {Q : V → Prop} {R : St → Prop} (h : mw P tt o { st with mem := mem } Q) (hQ : ∀ v, Q v → R (st.put o.dst v))
  (jN : ∀ v, fJ P tt { st with mem := mem } o = some v → ∃ x, (execOp a.eval o).run P w = .ok (.value x) w ∧ aW E v x)
  {ρ : Option Nat} {n : Nat} {next : Act → World → Prop} {Q' : Exit → Act → World → Prop} (hn : ∀ v w', xF E w a o.dst R v w' → next (a.put o.dst v) w') : o.wpIn (WF ρ) n P a w next Q' := by
 obtain ⟨dst, op, type, pos, after, guard⟩ := o
 have gen : ∀ (jX : ∀ c, op ≠ .defer c), (∀ f xs ts, op ≠ .call { callee := .value f, args := xs, argTypes := ts }) → (∀ T ps, op ≠ .build T ps) → (∀ T l ps, op ≠ .buildSlice T l ps) → Oper.wpIn (WF ρ) n P { dst := dst, op := op, type := type, pos := pos, after := after, guard := guard } a w next Q' := by
  intro jX h1 h2 h3
  have hv : ∃ v, fJ P tt { st with mem := mem } { dst := dst, op := op, type := type, pos := pos, after := after, guard := guard } = some v ∧ Q v := by
   unfold mw at h
   split at h
   ·rename_i heq; exact absurd heq (h1 _ _ _)
   ·unfold qP at h
    dsimp only at h
    split at h
    ·rename_i v hv
     split at hv
     ·exact absurd rfl (h2 _ _)
     ·exact absurd rfl (h3 _ _ _)
     ·exact ⟨v, hv, h⟩
    ·exact h.elim
  obtain ⟨v, hv, hq⟩ := hv
  obtain ⟨x, h4, h5⟩ := jN v hv
  exact bd jX h4 (hn _ _ ⟨E, _, hs.put dst h5, dn.refl E w, hQ _ hq⟩)
 cases op
 case defer c => simp [mw, qP, fJ] at h
 case build T ps =>
  simp only [mw,qP,cg] at h
  split at h
  ·rename_i v hv
   obtain ⟨x, h1, h2⟩ := oi ht hs hv
   exact bd (by simp) (ba h1) (hn _ _ ⟨E, _, hs.put dst h2, dn.refl E w, hQ _ h⟩)
  ·exact h.elim
 case buildSlice T len ps =>
  simp only [mw,qP,cg] at h
  split at h
  ·rename_i v hv
   split at hv
   ·rename_i size rs hl
    cases hv
    obtain ⟨Z, e, h1, h2, h3, h4⟩ := vz ht (fun p _ => hs.eval p.2) hl
    obtain ⟨E', h5, h6, h7⟩ := hs.FW (xs := Z) (rs := rs) (c := len) e (by omega) h4
    rw [h3] at h7
    exact bd (by simp) (dH h1) (hn _ _ ⟨E', _, h5.put dst h7, h6, hQ _ h⟩)
   ·cases hv
  ·exact h.elim
 case call c =>
  obtain ⟨callee, args, ts⟩ := c
  cases callee with
  | value f =>
   simp only [mw,cg] at h
   split at h
   ·rename_i g vs hg
    obtain ⟨vs', r, h1, h2, h3⟩ := h
    obtain ⟨h4, h5⟩ := ov (mem := st.mem) h1
    obtain ⟨ys, h6, h7⟩ := lb (P := P) (w := w) (hs.eval f) (hs.jq args) hg
    have hc : uq P g vs st dst R := by
     rcases h2 with h2 | h2
     ·exact .inl ⟨vs', r, h4, h2, by rw [h5, ox]; exact hQ _ h3⟩
     ·refine .inr (.inr (.inr ⟨r, fun E1 w1 Yw zS rK => ?_, hQ _ h3⟩))
      obtain ⟨x, g1, g2⟩ := h2 E1 w1 Yw zS (ow h1 rK)
      exact ⟨x, g1, g2⟩
    rcases qm hs hc h6 with ⟨h8, h9⟩ | ⟨v, h8, h9⟩
    ·refine qk (by simp) (f := g) (xs := ys) ?_ h9 fun e w' ⟨v, hv, ha⟩ => ⟨v, hv, hn _ _ ha⟩
     rw [← h8, ← h7]
     simp only [execOp,resolve]
    ·refine bd (by simp) (v := v) ?_ (hn _ _ h9)
     rw [← h8, ← h7]
     simp only [execOp,resolve]
   ·exact h.elim
  | _ => exact gen (by simp) (by simp) (by simp) (by simp)
 all_goals exact gen (by simp) (by simp) (by simp) (by simp)

omit ht in
theorem oy {mem : List aw} {k : Nat} (h : mem[k]? = some .hole) (B : aw) : bc mem k B = mem.set k B := by
 unfold bc; rw [if_pos (List.getElem?_eq_some_iff.1 h).1]

theorem xT {all : Array Oper} {base : Nat} {E : Env} {w : World} {a : Act} {st : St} (hs : aZ E w a st) {i : Nat} {o : Oper} {p : Pl} {Q : St → Prop} (hi : all[i]? = some o) (h : dI P tt all base o p st Q)
  {ρ : Option Nat} {n : Nat} {next : Act → World → Prop} {Q' : Exit → Act → World → Prop} (hn : ∀ v w', xF E w a o.dst Q v w' → next (a.put o.dst v) w') : wpOpIn (WF ρ) n P all Q' i next a w := by
 unfold wpOpIn
 rw [hi]
 dsimp only
 unfold dI at h
 split at h
 ·rename_i hw
  rw [if_pos (gw hs hw)]
  split at h
  ·rw [rf] at h; exact sr ht hs h (fun _ h => h) (fun v hv => lY ht hs (Js hv)) hn
  ·rw [rf] at h; exact sr ht hs h (fun _ h => h) (fun v hv => lY ht (hs.di _) hv) hn
  ·obtain ⟨hh, h⟩ := h
   rw [fU] at hh
   split at h
   ·rename_i B v hb
    refine dh ht hs (key := base + p.key) (.inl hh) ?_ hn
    unfold ef at hb
    unfold bD
    split at hb
    ·rename_i T heq
     rw [heq]
     dsimp only
     split at hb
     ·rename_i i hi; cases hb; rw [hi]; dsimp only; rw [oy hh]; exact h
     ·cases hb
    ·rename_i heq
     rw [heq]
     dsimp only
     split at hb
     ·rename_i i hi; cases hb; rw [hi]; dsimp only; rw [oy hh]; exact h
     ·cases hb
    ·rename_i heq
     rw [heq]
     dsimp only
     split at hb
     ·rename_i i hi; cases hb; rw [hi]; dsimp only; rw [oy hh]; exact h
     ·cases hb
    ·rename_i heq
     rw [heq]
     dsimp only
     cases hb; rw [oy hh]; exact h
    ·rename_i heq
     rw [heq]
     dsimp only
     split at hb
     ·rename_i i hi; cases hb; rw [hi]; dsimp only; rw [oy hh]; exact h
     ·cases hb
    ·cases hb
   ·rw [ux] at h
    unfold kI at h
    split at h
    ·rename_i f xs ts heq
     split at h
     ·rename_i g vs hg
      obtain ⟨vs', e, rs, h1, h2, h3⟩ := h
      refine dh ht hs (key := base + p.key) (.inl hh) ?_ hn
      unfold bD
      rw [heq]
      dsimp only
      split
      ·rename_i k hk; rw [hk] at hg; simp [bf] at hg
      ·rw [hg]
       exact .inr (.inl ⟨_, _, h2.hole h1 hh, h3⟩)
     ·exact h.elim
    ·exact h.elim
  ·obtain ⟨hh, h⟩ := h
   rw [fU] at hh
   split at h
   ·rename_i m v hb
    refine dh ht hs (key := base + p.key) (.inl hh) ?_ hn
    unfold oq at hb
    unfold bD
    split at hb
    ·rename_i heq
     rw [heq]
     dsimp only
     split at hb
     ·rename_i i hi; cases hb; rw [hi]; exact h
     ·cases hb
    ·rename_i xs ts heq
     rw [heq]
     dsimp only
     split at hb
     ·rename_i s x Jf
      rw [Jf]
      dsimp only
      split at hb
      ·rename_i size nR rows ha
       rw [ha]
       simp only [Option.some.injEq] at hb
       dsimp only
       rw [hb]; exact h
      ·cases hb
     ·cases hb
    ·rename_i heq
     rw [heq]
     dsimp only
     split at hb
     ·rename_i i hi; cases hb; rw [hi]; exact h
     ·cases hb
    ·rename_i heq
     rw [heq]
     dsimp only
     split at hb
     ·rename_i i hi; cases hb; rw [hi]; exact h
     ·cases hb
    ·cases hb
   ·exact h.elim
  ·split at h
   ·rename_i m hb
    refine dh ht hs (key := st.mem.length) (.inr rfl) ?_ hn
    unfold qQ at hb
    unfold bD
    split at hb
    ·rename_i heq
     rw [heq]
     dsimp only
     split at hb
     ·rename_i b off hp
      split at hb
      ·rename_i hk
       subst hk
       rw [hp, hb]; exact h
      ·cases hb
     ·cases hb
    ·cases hb
   ·exact h.elim
  ·split at h
   ·rename_i v hb
    refine dh ht hs (key := st.mem.length) (.inr rfl) ?_ hn
    have ho := DC (P := P) hb
    unfold kJ at hb
    unfold bD
    split at hb
    ·rename_i heq
     rw [heq]
     dsimp only
     rw [ho]; exact h
    ·cases hb
   ·exact h.elim
  ·refine dh ht hs (key := st.mem.length) (.inr rfl) ?_ hn
   unfold lh at h
   unfold bD
   split at h
   ·rename_i f xs ts heq
    split at h
    ·rename_i g vs hg
     obtain ⟨vs', r, h1, h2, h3⟩ := h
     rw [heq]
     dsimp only
     split
     ·rename_i k hk; rw [hk] at hg; simp [bf] at hg
     ·rw [hg]
      exact .inl ⟨vs', r, h1, h2, h3⟩
    ·exact h.elim
   ·exact h.elim
  ·refine dh ht hs (key := st.mem.length) (.inr rfl) ?_ hn
   unfold uy at h
   unfold bD
   split at h
   ·rename_i f xs ts heq
    split at h
    ·rename_i g vs hg
     obtain ⟨v, B0, B, -, -, h1, h2, h3⟩ := h
     rw [heq]
     dsimp only
     split
     ·rename_i k hk; rw [hk] at hg; simp [bf] at hg
     ·rw [hg]
      exact .inr (.inl ⟨_, _, h2 _ h1, h3⟩)
    ·exact h.elim
   ·exact h.elim
 ·rename_i hw
  rw [if_neg (by rw [gw hs hw]; simp)]
  exact ⟨fun _ _ => trivial, hn _ _ ⟨E, _, hs.put o.dst (.sc _ _), dn.refl E w, h⟩⟩
 ·exact h.elim
end
end Go.Eng
end

section
namespace Go.Eng
variable [aE]

def TS : Pl := ⟨.n, 0, [], [], []⟩
def iy (o : Oper) (k : Nat) : Bool := o.after.any fun e => Region.binds .any e && e.on == k
def ll (all : Array Oper) (y : Oper) (py : Pl) : Nat → List Oper → List Pl → Bool
 | _, [], _ => true
 | k, x :: r, px => (iy y k || py.L2.contains k || pf all x (px.headD TS) y py) && ll all y py (k + 1) r px.tail
def Ag (o : Oper) (i : Nat) : Bool := o.after.all fun e => !Region.binds .any e || decide (e.on < i)
def ln (plan : List Pl) (i : Nat) : Pl := (plan[i]?).getD TS
def FX (plan : List Pl) (y : Oper) (py : Pl) : Bool := py.L2.all fun k => iy y k || y.after.any fun e => Region.binds .any e && (ln plan e.on).L2.contains k
def rh (all : Array Oper) (plan : List Pl) : Nat → List Oper → List Pl → Bool
 | _, [], _ => true
 | i, y :: r, py => Ag y i && FX plan y (py.headD TS) && ll all y (py.headD TS) 0 (all.toList.take i) plan && rh all plan (i + 1) r py.tail
def ss (all : Array Oper) (plan : List Pl) : Bool := rh all plan 0 all.toList plan

theorem nh {α : Type} (l : List α) (i : Nat) (d : α) : (l.drop i).headD d = (l[i]?).getD d := by
 rw [List.headD_eq_head?_getD, List.head?_drop]

theorem oz {all : Array Oper} {y : Oper} {py : Pl} {plan : List Pl} : ∀ {l : List Oper} {n : Nat}, ll all y py n l (plan.drop n) = true → ∀ k x, l[k]? = some x → (iy y (n + k) = true ∨ (n + k) ∈ py.L2) ∨ pf all x (ln plan (n + k)) y py = true
 | [], n, _, k, x, h => by simp at h
 | z :: r, n, h, k, x, hk => by
  simp only [ll,Bool.and_eq_true,Bool.or_eq_true,nh] at h
  cases k with
  | zero => simp at hk; subst hk; simpa [ln] using h.1
  | succ k =>
   have h2 := h.2
   rw [List.tail_drop] at h2
   have := oz h2 k x (by simpa using hk)
   rw [Nat.add_assoc, Nat.add_comm 1 k] at this
   exact this
theorem qt {all : Array Oper} {plan : List Pl} : ∀ {l : List Oper} {n : Nat}, rh all plan n l (plan.drop n) = true → ∀ k y, l[k]? = some y → (Ag y (n + k) = true ∧ FX plan y (ln plan (n + k)) = true) ∧ ll all y (ln plan (n + k)) 0 (all.toList.take (n + k)) plan = true
 | [], n, _, k, x, h => by simp at h
 | z :: r, n, h, k, x, hk => by
  simp only [rh,Bool.and_eq_true,nh] at h
  cases k with
  | zero => simp at hk; subst hk; exact h.1
  | succ k =>
   have h2 := h.2
   rw [List.tail_drop] at h2
   have := qt h2 k x (by simpa using hk)
   rw [Nat.add_assoc, Nat.add_comm 1 k] at this
   exact this
theorem jv {all : Array Oper} {plan : List Pl} (h : ss all plan = true) {i : Nat} {y : Oper} (hi : all[i]? = some y) :
  (∀ e ∈ y.after, Region.binds .any e = true → e.on < i) ∧ (∀ k ∈ (ln plan i).L2, iy y k = true ∨ ∃ e ∈ y.after, Region.binds .any e = true ∧ k ∈ (ln plan e.on).L2) ∧ ∀ k x, k < i → all[k]? = some x → (iy y k = true ∨ k ∈ (ln plan i).L2) ∨ pf all x (ln plan k) y (ln plan i) = true := by
 have := qt (n := 0) h i y (by simpa using hi)
 rw [Nat.zero_add] at this
 obtain ⟨⟨h1, h3⟩, h2⟩ := this
 refine ⟨fun e he hb => ?_, fun k hk => ?_, fun k x hk hx => ?_⟩
 ·unfold Ag at h1
  have := Array.all_eq_true_iff_forall_mem.1 h1 e he
  simpa [hb] using this
 ·unfold FX at h3
  have := List.all_eq_true.1 h3 k hk
  rw [Bool.or_eq_true] at this
  refine this.imp id fun h => ?_
  rw [Array.any_eq_true'] at h
  obtain ⟨e, he, h⟩ := h
  rw [Bool.and_eq_true] at h
  exact ⟨e, he, h.1, by simpa using h.2⟩
 ·have := oz (n := 0) h2 k x (by rw [List.getElem?_take_of_lt hk]; simpa using hx)
  rwa [Nat.zero_add] at this

section
variable {P : Program} {tt : Table} {all : Array Oper} {plan : List Pl} {base : Nat}
def xU (P : Program) (tt : Table) (all : Array Oper) (plan : List Pl) (base : Nat) : List Nat → St → (St → Prop) → Prop
 | [], st, K => K st
 | i :: r, st, K => match all[i]? with
  | some o => dI P tt all base o (ln plan i) st fun st' => xU P tt all plan base r st' K
  | none => False
theorem su {o : Oper} {p : Pl} {st : St} {K K' : St → Prop} (h : ∀ s, K s → K' s) (hh : dI P tt all base o p st K) : dI P tt all base o p st K' := by
 by_cases hz : p.cls = .z
 ·unfold dI at hh ⊢
  split at hh
  ·rw [hz] at hh ⊢
   exact sk hh h
  ·exact h _ hh
  ·exact hh.elim
 ·obtain ⟨v, m, h1, h2⟩ := (dX hz).1 hh
  exact (dX hz).2 ⟨v, m, h1, h _ h2⟩
theorem sv {i : Nat} {o : Oper} (hi : all[i]? = some o) {K : St → Prop} {σ2 : List Nat} : ∀ {σ1 : List Nat} {st : St}, (∀ k ∈ σ1, ∀ x, all[k]? = some x → pf all x (ln plan k) o (ln plan i) = true) →
  xU P tt all plan base (σ1 ++ i :: σ2) st K → dI P tt all base o (ln plan i) st fun st' => xU P tt all plan base (σ1 ++ σ2) st' K
 | [], st, _, h => by simpa [xU, hi] using h
 | k :: r, st, hp, h => by
  simp only [List.cons_append,xU] at h ⊢
  cases hk : all[k]? with
  | none => rw [hk] at h; exact h.elim
  | some x =>
   rw [hk] at h
   dsimp only at h ⊢
   exact Ac (hp k (by simp) x hk) (su (fun s hs => sv hi (fun k' eP => hp k' (by simp [eP])) hs) h)

theorem oA {y : Oper} {k : Nat} {listed : Array Bool} (h : iy y k = true) (hl : ∀ e ∈ y.after, Region.binds .any e = true → listed.getD e.on false = true) : listed.getD k false = true := by
 unfold iy at h
 rw [Array.any_eq_true'] at h
 obtain ⟨e, he, h⟩ := h
 rw [Bool.and_eq_true, beq_iff_eq] at h
 rw [← h.2]; exact hl e he h.1

def FY (all : Array Oper) (listed : Array Bool) : Prop := ∀ (i : Nat) (o : Oper), listed.getD i false = true → all[i]? = some o → ∀ e ∈ o.after, Region.binds .any e = true → listed.getD e.on false = true
theorem Ah (bK : ss all plan = true) {listed : Array Bool} (hc : FY all listed) (jL : listed.size = all.size) : ∀ (i : Nat) (y : Oper), all[i]? = some y → (∀ e ∈ y.after, Region.binds .any e = true → listed.getD e.on false = true) → ∀ k ∈ (ln plan i).L2, listed.getD k false = true := by
 intro i
 induction i using Nat.strongRecOn with
 | _ i ih =>
  intro y hy hl k hk
  rcases (jv bK hy).2.1 k hk with h | ⟨e, he, hb, h⟩
  ·exact oA h hl
  ·have h1 := hl e he hb
   have az : e.on < all.size := by
    have : e.on < i := (jv bK hy).1 e he hb
    have := (Array.getElem?_eq_some_iff.1 hy).1
    omega
   have hz := Array.getElem?_eq_getElem az
   exact ih e.on ((jv bK hy).1 e he hb) _ hz (hc e.on _ h1 hz) k h

theorem xV (ht : TT P tt) (bK : ss all plan = true) {ρ : Option Nat} {n : Nat} {K : St → Prop} {Q' : Exit → Act → World → Prop} : ∀ (fuel : Nat) (listed : Array Bool) (σ : List Nat), listed.size = all.size → FY all listed → σ.length ≤ fuel → σ.Pairwise (· < ·) → (∀ i, i ∈ σ ↔ listed[i]? = some false) →
  ∀ {E : Env} {w : World} {a : Act} {st : St}, aZ E w a st → xU P tt all plan base σ st K → (∀ a' w', a'.defers = a.defers → (∃ E' st', aZ E' w' a' st' ∧ dn E w E' w' ∧ K st') → Q' .normal a' w') → wpAnyIn (WF ρ) n P .any all Q' fuel listed a w := by
 intro fuel
 have done : ∀ (listed : Array Bool) (σ : List Nat), listed.size = all.size → σ.Pairwise (· < ·) → (∀ i, i ∈ σ ↔ listed[i]? = some false) → Region.ready .any all listed = [] → σ = [] := by
  intro listed σ jL uB vS hr
  cases σ with
  | nil => rfl
  | cons i r =>
   exfalso
   have TU := (vS i).1 (by simp)
   have az : i < all.size := by rw [← jL]; exact (Array.getElem?_eq_some_iff.1 TU).1
   have : i ∈ Region.ready .any all listed := by
    refine mem_ready.2 ⟨by simp [Array.getD_eq_getD_getElem?, TU], all[i], Array.getElem?_eq_getElem az, fun e he hb => ?_⟩
    have MV := (jv bK (Array.getElem?_eq_getElem az)).1 e he hb
    have hs : e.on < listed.size := by omega
    cases hv : listed[e.on] with
    | true => simp [Array.getD_eq_getD_getElem?, Array.getElem?_eq_getElem hs, hv]
    | false =>
     have : e.on ∈ i :: r := (vS e.on).2 (by rw [Array.getElem?_eq_getElem hs, hv])
     rcases List.mem_cons.1 this with h | h
     ·omega
     ·have := List.rel_of_pairwise_cons uB h; omega
   rw [hr] at this; cases this
 induction fuel with
 | zero =>
  intro listed σ jL jo hlen uB vS E w a st hs h hq
  have hσ : σ = [] := List.length_eq_zero_iff.1 (by omega)
  subst hσ
  refine ⟨?_, hq _ _ rfl ⟨E, st, hs, dn.refl E w, h⟩⟩
  cases hr : Region.ready .any all listed with
  | nil => rfl
  | cons j l =>
   have hj : j ∈ Region.ready .any all listed := by rw [hr]; simp
   obtain ⟨h0, o, ho, -⟩ := mem_ready.1 hj
   have az : j < listed.size := by rw [jL]; exact (Array.getElem?_eq_some_iff.1 ho).1
   have : j ∈ ([] : List Nat) := (vS j).2 (by
    rw [Array.getElem?_eq_getElem az]; congr 1
    simpa [Array.getD_eq_getD_getElem?, Array.getElem?_eq_getElem az] using h0)
   cases this
 | succ fuel ih =>
  intro listed σ jL jo hlen uB vS E w a st hs h hq
  refine ⟨fun hr => ?_, fun i hi => ?_⟩
  ·have := done listed σ jL uB vS hr
   subst this
   exact hq _ _ rfl ⟨E, st, hs, dn.refl E w, h⟩
  ·obtain ⟨h0, o, ho, Nw⟩ := mem_ready.1 hi
   have az : i < listed.size := by rw [jL]; exact (Array.getElem?_eq_some_iff.1 ho).1
   have TU : listed[i]? = some false := by
    rw [Array.getElem?_eq_getElem az]; congr 1
    simpa [Array.getD_eq_getD_getElem?, Array.getElem?_eq_getElem az] using h0
   obtain ⟨σ1, σ2, rfl⟩ := List.append_of_mem ((vS i).2 TU)
   rw [List.pairwise_append] at uB
   obtain ⟨jn, gE, Nx⟩ := uB
   rw [List.pairwise_cons] at gE
   have kL := sv ho (σ1 := σ1) (fun k hk x hx => by
    have UU : k < i := Nx k hk i (by simp)
    rcases (jv bK ho).2.2 k x UU hx with hw | hw
    ·exfalso
     have h1 := hw.elim (fun hw => oA hw Nw) fun hw => Ah bK jo jL i o ho Nw k hw
     have h2 := (vS k).1 (by simp [hk])
     rw [Array.getD_eq_getD_getElem?, h2] at h1
     cases h1
    ·exact hw) h
   refine xT ht hs ho kL ?_
   rintro v w' ⟨E', st', h1, h2, h3⟩
   refine ih (listed.setIfInBounds i true) (σ1 ++ σ2) (by simpa using jL) ?_ ?_ ?_ ?_ h1 h3 fun a' W8 hd ⟨w4, Nb, h4, h5, h6⟩ => hq _ _ (hd.trans (put_defers _ _ _)) ⟨w4, Nb, h4, h2.trans h5, h6⟩
   ·intro j z hj hz e he hb
    by_cases Qh : j = i
    ·subst Qh
     rw [ho] at hz; cases hz
     exact getD_set_true (Nw e he hb)
    ·rw [getD_set_ne false (fun e => Qh e.symm)] at hj
     exact getD_set_true (jo j z hj hz e he hb)
   ·simp at hlen ⊢; omega
   ·rw [List.pairwise_append]
    exact ⟨jn, gE.2, fun x hx y hy => Nx x hx y (by simp [hy])⟩
   ·intro j
    rw [Array.getElem?_setIfInBounds]
    by_cases Qh : i = j
    ·subst Qh
     rw [if_pos rfl]
     constructor
     ·intro hj
      rcases List.mem_append.1 hj with h | h
      ·have := Nx i h i (by simp); omega
      ·have := gE.1 i h; omega
     ·split
      ·intro h; cases h
      ·intro h; cases h
    ·rw [if_neg Qh, ← vS j]
     simp only [List.mem_append,List.mem_cons]
     constructor
     ·rintro (h | h)
      ·exact .inl h
      ·exact .inr (.inr h)
     ·rintro (h | h | h)
      ·exact .inl h
      ·exact absurd h.symm Qh
      ·exact .inr h

def runM (P : Program) (tt : Table) (all : Array Oper) (base : Nat) : List Oper → List Pl → St → (St → Prop) → Prop
 | [], _, st, K => K st
 | o :: r, p :: ps, st, K => dI P tt all base o p st fun st' => runM P tt all base r ps st' K
 | _ :: _, [], _, _ => False
theorem F0 {K : St → Prop} : ∀ {l : List Oper} {n : Nat} {st : St}, (∀ k x, l[k]? = some x → all[n + k]? = some x) → runM P tt all base l (plan.drop n) st K → xU P tt all plan base (List.range' n l.length) st K
 | [], n, st, _, h => h
 | o :: r, n, st, aV, h => by
  have ho : all[n]? = some o := aV 0 o rfl
  rw [List.length_cons, List.range'_succ, xU, ho]
  dsimp only
  cases hd : plan.drop n with
  | nil => rw [hd] at h; exact h.elim
  | cons p ps =>
   rw [hd] at h
   have hp : ln plan n = p := by rw [ln, ← nh, hd]; rfl
   have Ju : ps = plan.drop (n + 1) := by rw [← List.tail_drop, hd]; rfl
   rw [hp]
   subst Ju
   exact su (fun s hs => F0 (fun k x hk => by have := aV (k + 1) x (by simpa using hk); rwa [show n + (k + 1) = n + 1 + k by omega] at this) hs) h

theorem aZ.Rm {E : Env} {w : World} {a : Act} {st : St} (hs : aZ E w a st) (m : Nat) : aZ E w a { st with mem := st.mem ++ List.replicate m .hole } := by
 have get : ∀ {k : Nat} {B : aw}, (st.mem ++ List.replicate m .hole)[k]? = some B → st.mem[k]? = some B ∨ (B = aw.hole ∧ st.mem.length ≤ k) := fun {k B} h => by
  rcases Nat.lt_or_ge k st.mem.length with hk | hk
  ·rw [List.getElem?_append_left hk] at h; exact .inl h
  ·rw [List.getElem?_append_right hk, List.getElem?_replicate] at h
   split at h
   ·cases h; exact .inr ⟨rfl, hk⟩
   ·cases h
 refine ⟨hs.F, hs.lt, fun k B hk => ?_, fun k hk => hs.top k (by simp at hk; omega), fun k B hk v hv => ?_, hs.apart, hs.fr⟩
 ·rcases get hk with h | ⟨rfl, bO⟩
  ·exact hs.mem k B h
  ·exact fun v => hs.top k bO v
 ·rcases get hk with h | ⟨rfl, bO⟩
  ·exact hs.aA k B h v hv
  ·exact hs.top k bO v

theorem pj (ht : TT P tt) (hm : P.follows .mixedOrders = true) {ρ : Option Nat} {n0 : Nat} {st : St} {Q : Exit → St → Prop} (plan : List Pl) (m : Nat) {id : Nat} {ops : Array Oper} (bK : ss ops plan = true)
  (h : runM P tt ops st.mem.length ops.toList plan { st with mem := st.mem ++ List.replicate m .hole } (Q .normal)) : gx P ρ n0 (.region id ops true) st Q := fun E0 w0 h0 E w a he hs fK => by
 refine wpIn_region_any hm ?_
 have hd : aZ E { w with drawn := w.drawn + 1 } a { st with mem := st.mem ++ List.replicate m .hole } := (hs.drew (w := w)).Rm m
 have hI := F0 (all := ops) (plan := plan) (n := 0) (l := ops.toList) (fun k x hk => by rw [Nat.zero_add]; simpa using hk) h
 rw [← List.range_eq_range'] at hI
 refine xV (P := P) (tt := tt) ht bK ops.size _ (List.range ops.toList.length) (by simp) (fun j z hj => by simp [Array.getD_eq_getD_getElem?, Array.getElem?_replicate] at hj; split at hj <;> simp at hj) (by simp) (List.pairwise_lt_range) (fun i => ?_) hd hI fun a' w' Rn ⟨E', st', h1, h2, h3⟩ => ⟨E', st', h1, (he.trans (dn.drew E w)).trans h2, ?_, h3⟩
 ·simp only [List.mem_range,Array.getElem?_replicate]
  simp
 ·rw [Rn]; exact (fK.E5 (dn.drew E w)).E5 h2
end
end Go.Eng
end

section
namespace Go.Eng
variable [aE]
open Go.RowKit (Below)

def kd : aw → Bool
 | .rows _ _ _ => true
 | .mv _ _ _ => true
 | .dead => true
 | .hole => true
 | _ => false

theorem aT.live {P : Program} {f : FuncId} {vs vs' : List V} {b v s l : Nat} {aD : List aw} (hp : cy [] vs = some vs') (h : aT P f vs' [] (.ms b v s l) aD) (hm : aD.all kd = true) (mem : List aw) :
  aT P f vs mem (.ms (mem.length + b) v s l) (mem ++ aD) := by
 refine ⟨h.1, fun E w xs hs hx => ?_⟩
 obtain ⟨LU, hk⟩ := ov (mem := mem) hp
 have h1 := fT hs (keys := []) hx LU (by rw [hk]; simp)
 have hE : (E.jM w []).pure = ⟨E.F, fun _ _ => none, E.gl⟩ := by
  refine Env.Dj (funext fun ad => ?_) rfl
  simp only [Env.pure,Env.jM]
  cases hh : E.F ad <;> simp
 rw [hE] at h1
 have jn : aZ ⟨E.F, fun _ _ => none, E.gl⟩ w { tmps := #[], defers := [] } { fr := [], mem := [] } :=
  ⟨hs.F, (fun k v g e c h => by cases h), (fun k B h => by simp at h), (fun k _ v => rfl), (fun k B h => by simp at h), (fun k k' v v' g e c e' c' h => by cases h), .nil _⟩
 refine (h.2 _ w xs jn h1).mono ?_
 rintro en w' ⟨E', x, rfl, dq, kR, hr⟩
 have im : ∀ k v g e c, E'.aK k v = some (g, e, c) → w.heap.size ≤ g := fun k v g e c hb => by
  rcases dq.aK _ _ _ _ _ hb with ⟨_, _, _, _, h⟩ | h
  ·cases h
  ·exact h
 have hold : ∀ b, b < w.heap.size → w'.heap[b]? = w.heap[b]? := fun b hb => dq.heap b hb fun _ _ _ _ h => by cases h
 have Rj : ∀ ad y, E'.F ad = some y → E.F ad = some y ∨ w.heap.size ≤ ad.block := fun ad y hy => by
  rcases dq.F _ _ hy with h | h | ⟨_, _, _, _, h⟩
  ·exact .inl h
  ·exact .inr h
  ·cases h
 have kD : ∀ k v, k < mem.length → (⟨E'.F, fun k v => if k < mem.length then E.aK k v else E'.aK (k - mem.length) v, E'.gl⟩ : Env).aK k v = E.aK k v := fun k v hk => if_pos hk
 have nV : ∀ k v, mem.length ≤ k → (⟨E'.F, fun k v => if k < mem.length then E.aK k v else E'.aK (k - mem.length) v, E'.gl⟩ : Env).aK k v = E'.aK (k - mem.length) v := fun k v hk => if_neg (by omega)
 generalize Rk : (⟨E'.F, fun k v => if k < mem.length then E.aK k v else E'.aK (k - mem.length) v, E'.gl⟩ : Env) = E2 at kD nV
 have ee : E2.F = E'.F := by rw [← Rk]
 have ug : E2.pure = E'.pure := Env.Dj ee rfl
 have hle : E.le E2 := ⟨fun ad y hy => by rw [ee]; exact dq.le.F _ _ hy, fun k v t hk => by
  rcases Nat.lt_or_ge k mem.length with bO | bO
  ·rw [kD k v bO]; exact hk
  ·rw [hs.top k bO v] at hk; cases hk⟩
 have get : ∀ {k : Nat} {B : aw}, (mem ++ aD)[k]? = some B → (k < mem.length ∧ mem[k]? = some B) ∨ (mem.length ≤ k ∧ aD[k - mem.length]? = some B) := fun {k B} h => by
  rcases Nat.lt_or_ge k mem.length with hk | hk
  ·rw [List.getElem?_append_left hk] at h; exact .inl ⟨hk, h⟩
  ·rw [List.getElem?_append_right hk] at h; exact .inr ⟨hk, h⟩
 refine ⟨E2, x, rfl, ⟨hle, fun k v g e c hk => ?_, fun ad y hy => ?_, dq.os, dq.tape, dq.output, dq.size, fun b hb _ => hold b hb⟩, ⟨fun ad y hy => kR.F _ _ (by rw [← ee]; exact hy), fun k v g e c hk => ?_, fun k B hk => ?_, fun k hk v => ?_, fun k B hk v hv => ?_, fun k k' v v' g e1 c1 e2 c2 h5 h6 => ?_, .nil _⟩, ?_⟩
 ·rcases Nat.lt_or_ge k mem.length with bO | bO
  ·rw [kD k v bO] at hk; exact .inl ⟨k, v, e, c, hk⟩
  ·rw [nV k v bO] at hk; exact .inr (im _ _ _ _ _ hk)
 ·rw [ee] at hy
  rcases Rj ad y hy with h | h
  ·exact .inl h
  ·exact .inr (.inl h)
 ·rcases Nat.lt_or_ge k mem.length with bO | bO
  ·rw [kD k v bO] at hk; have := hs.lt _ _ _ _ _ hk; have := dq.size; omega
  ·rw [nV k v bO] at hk; exact kR.lt _ _ _ _ _ hk
 ·rcases get hk with ⟨bO, hB⟩ | ⟨bO, hB⟩
  ·refine (hs.mem k B hB).mono hle (fun v hv => by rw [kD k v bO]; exact hv) (fun g e c hb => hold g (hs.lt _ _ _ _ _ hb)) fun g e c o hb hn => ?_
   rw [ee]
   cases hy : E'.F ⟨g, o, none⟩ with
   | none => rfl
   | some y =>
    rcases Rj _ y hy with h | h
    ·rw [hn] at h; cases h
    ·have := hs.lt _ _ _ _ _ hb; simp at h; omega
  ·have hl := List.all_eq_true.1 hm B (List.mem_of_getElem? hB)
   have h0 := kR.mem _ B hB
   cases B with
   | hole => exact fun v => by rw [nV k v bO]; exact h0 v
   | dead => trivial
   | box cs => simp [kd] at hl
   | loop s p fr ps a b => simp [kd] at hl
   | map bm clock => simp [kd] at hl
   | eh m since seen last => simp [kd] at hl
   | gJ s pos => simp [kd] at hl
   | ig => simp [kd] at hl
   | rows v e rs =>
    rcases h0 with ⟨h1, h2⟩ | ⟨g, T, ys, c, h1, h2, h3, h4, h5, h6⟩
    ·exact .inl ⟨h1, by rw [nV k v bO]; exact h2⟩
    ·exact .inr ⟨g, T, ys, c, by rw [nV k v bO]; exact h1, h2, h3, h4, by rw [ug]; exact h5, fun o => by rw [ee]; exact h6 o⟩
   | mv v e rs =>
    rcases h0 with ⟨h1, h2⟩ | ⟨g, c, h1, h2, h3⟩
    ·exact .inl ⟨h1, by rw [nV k v bO]; exact h2⟩
    ·exact .inr ⟨g, c, by rw [nV k v bO]; exact h1, h2, by rw [ug, ee]; exact h3⟩
 ·dsimp only at hk
  simp only [List.length_append] at hk
  rw [nV k v (by omega)]; exact kR.top _ (by dsimp only; omega) v
 ·rcases get hk with ⟨bO, hB⟩ | ⟨bO, hB⟩
  ·rw [kD k v bO]; exact hs.aA k B hB v hv
  ·rw [nV k v bO]; exact kR.aA _ B hB v hv
 ·rcases Nat.lt_or_ge k mem.length with fC | fC <;> rcases Nat.lt_or_ge k' mem.length with jl | jl
  ·rw [kD k _ fC] at h5; rw [kD k' _ jl] at h6
   exact hs.apart _ _ _ _ _ _ _ _ _ h5 h6
  ·rw [kD k _ fC] at h5; rw [nV k' _ jl] at h6
   have := hs.lt _ _ _ _ _ h5; have := im _ _ _ _ _ h6; omega
  ·rw [nV k _ fC] at h5; rw [kD k' _ jl] at h6
   have := hs.lt _ _ _ _ _ h6; have := im _ _ _ _ _ h5; omega
  ·rw [nV k _ fC] at h5; rw [nV k' _ jl] at h6
   have := kR.apart _ _ _ _ _ _ _ _ _ h5 h6
   omega
 ·cases hr with
  | ms _ b v s l g e c a cap hb hl h0 hc => exact .ms _ _ _ _ _ g e c _ _ (by rw [nV _ v (by omega), Nat.add_sub_cancel_left]; exact hb) hl h0 hc
  | dc => exact .dc _ _ _ _

theorem aZ.lq {E : Env} {w : World} {a : Act} {st : St} (hs : aZ E w a st) (v e : Nat) : aZ E w a { st with mem := st.mem ++ [.rows v e []] } := by
 have get : ∀ {k : Nat} {B : aw}, (st.mem ++ [aw.rows v e []])[k]? = some B → st.mem[k]? = some B ∨ (B = aw.rows v e [] ∧ st.mem.length ≤ k) := fun {k B} h => by
  rcases Nat.lt_or_ge k st.mem.length with hk | hk
  ·rw [List.getElem?_append_left hk] at h; exact .inl h
  ·rw [List.getElem?_append_right hk] at h
   cases bO : k - st.mem.length with
   | zero => rw [bO] at h; cases h; exact .inr ⟨rfl, hk⟩
   | succ j => rw [bO] at h; cases h
 refine ⟨hs.F, hs.lt, fun k B hk => ?_, fun k hk => hs.top k (by simp at hk; omega), fun k B hk v hv => ?_, hs.apart, hs.fr⟩
 ·rcases get hk with h | ⟨rfl, bO⟩
  ·exact hs.mem k B h
  ·exact .inl ⟨rfl, hs.top k bO v⟩
 ·rcases get hk with h | ⟨rfl, bO⟩
  ·exact hs.aA k B h v hv
  ·exact hs.top k bO v
theorem aZ.xW {E : Env} {w : World} {a : Act} {st : St} (hs : aZ E w a st) {i : Nat} (b v : Nat) (h : st.fr[i]? = some (.sc (.slice none 0 0))) : aZ E w a { st with fr := st.fr.set i (.ms b v 0 0) } := hs.Jg h
theorem DJ {P : Program} {ρ : Option Nat} {n0 : Nat} {c : Code} {st : St} {Q : Exit → St → Prop} (i v e : Nat) (h0 : st.fr[i]? = some (.sc (.slice none 0 0))) (h : gx P ρ n0 c { fr := st.fr.set i (.ms st.mem.length v 0 0), mem := st.mem ++ [.rows v e []] } Q) : gx P ρ n0 c st Q :=
 sd (fun E w a hs => (hs.xW (i := i) st.mem.length v h0).lq v e) h
end Go.Eng
end

section
namespace Go.Eng
variable [aE]
open Go.RowKit (Below)

theorem sw {E E' : Env} {w w' : World} {mem aD l : List aw} (hs : aZ E w { tmps := #[], defers := [] } { fr := [], mem := mem ++ l }) (UW : dn (E.cut mem.length) w E' w') (E6 : aZ E' w' { tmps := #[], defers := [] } { fr := [], mem := aD })
  (hlen : aD.length = mem.length) (hb : aD.all (aB mem.length) = true) : ∃ E2, dn E w E2 w' ∧ aZ E2 w' { tmps := #[], defers := [] } { fr := [], mem := aD ++ l } ∧ (E'.cut mem.length).le E2 := by
 have jn := E6.cut (n := mem.length) rfl (by rw [List.take_of_length_le (by dsimp only; omega)]; exact hb)
 rw [List.take_of_length_le (by dsimp only; omega)] at jn
 dsimp only at jn
 have xX : ∀ k, mem.length ≤ k → ∀ v, (E.cut mem.length).aK k v = none := fun k hk v => if_neg (by omega)
 have dq : dn (E.cut mem.length) w (E'.cut mem.length) w' := UW.cut xX
 have fS : ∀ k v t, (E.cut mem.length).aK k v = some t → k < mem.length ∧ E.aK k v = some t := fun k v t h => by
  rcases Nat.lt_or_ge k mem.length with hk | hk
  ·exact ⟨hk, (if_pos hk).symm.trans h⟩
  ·rw [xX k hk] at h; cases h
 have Ro : ∀ k v t, (E'.cut mem.length).aK k v = some t → k < mem.length := fun k v t h => by
  rcases Nat.lt_or_ge k mem.length with hk | hk
  ·exact hk
  ·have h0 : (E'.cut mem.length).aK k v = none := if_neg (by omega)
   rw [h0] at h; cases h
 generalize Yx : E'.cut mem.length = w4 at jn dq Ro
 have kD : ∀ k v, k < mem.length → (⟨w4.F, fun k v => if k < mem.length then w4.aK k v else E.aK k v, w4.gl⟩ : Env).aK k v = w4.aK k v := fun k v hk => if_pos hk
 have nV : ∀ k v, mem.length ≤ k → (⟨w4.F, fun k v => if k < mem.length then w4.aK k v else E.aK k v, w4.gl⟩ : Env).aK k v = E.aK k v := fun k v hk => if_neg (by omega)
 generalize Rk : (⟨w4.F, fun k v => if k < mem.length then w4.aK k v else E.aK k v, w4.gl⟩ : Env) = E2 at kD nV
 have ee : E2.F = w4.F := by rw [← Rk]
 have jo : ∀ k v t, k < mem.length → E.aK k v = some t → (E.cut mem.length).aK k v = some t := fun k v t hk h => (if_pos hk).trans h
 have hle : E.le E2 := ⟨fun ad y hy => by rw [ee]; exact dq.le.F _ _ hy, fun k v t hk => by
  rcases Nat.lt_or_ge k mem.length with bO | bO
  ·rw [kD k v bO]; exact dq.le.aK _ _ _ (jo _ _ _ bO hk)
  ·rw [nV k v bO]; exact hk⟩
 have Rp : w4.le E2 := ⟨fun ad y hy => by rw [ee]; exact hy, fun k v t hk => by rw [kD k v (Ro _ _ _ hk)]; exact hk⟩
 have rZ : ∀ k v g e c, mem.length ≤ k → E.aK k v = some (g, e, c) → ∀ k0 v0 e0 c0, (E.cut mem.length).aK k0 v0 ≠ some (g, e0, c0) := fun k v g e c hk hb k0 v0 e0 c0 h => by
  obtain ⟨h1, h2⟩ := fS _ _ _ h
  have := hs.apart _ _ _ _ _ _ _ _ _ h2 hb
  omega
 have get : ∀ {k : Nat} {B : aw}, (aD ++ l)[k]? = some B → (k < mem.length ∧ aD[k]? = some B) ∨ (mem.length ≤ k ∧ (mem ++ l)[k]? = some B) := fun {k B} h => by
  rcases Nat.lt_or_ge k mem.length with hk | hk
  ·rw [List.getElem?_append_left (by omega)] at h; exact .inl ⟨hk, h⟩
  ·rw [List.getElem?_append_right (by omega), hlen] at h
   exact .inr ⟨hk, by rw [List.getElem?_append_right hk]; exact h⟩
 refine ⟨E2, ⟨hle, fun k v g e c hk => ?_, fun ad y hy => ?_, dq.os, dq.tape, dq.output, dq.size, fun b hb bL => dq.heap b hb fun k v e c h => bL _ _ _ _ (fS _ _ _ h).2⟩, ⟨fun ad y hy => jn.F _ _ (by rw [← ee]; exact hy), fun k v g e c hk => ?_, fun k B hk => ?_, fun k hk v => ?_, fun k B hk v hv => ?_, fun k k' v v' g e1 c1 e2 c2 h5 h6 => ?_, .nil _⟩, Rp⟩
 ·rcases Nat.lt_or_ge k mem.length with bO | bO
  ·rw [kD k v bO] at hk
   rcases dq.aK _ _ _ _ _ hk with ⟨k0, v0, e0, c0, h⟩ | h
   ·exact .inl ⟨_, _, _, _, (fS _ _ _ h).2⟩
   ·exact .inr h
  ·rw [nV k v bO] at hk; exact .inl ⟨_, _, _, _, hk⟩
 ·rw [ee] at hy
  rcases dq.F _ _ hy with h | h | ⟨k0, v0, e0, c0, h⟩
  ·exact .inl h
  ·exact .inr (.inl h)
  ·exact .inr (.inr ⟨_, _, _, _, (fS _ _ _ h).2⟩)
 ·rcases Nat.lt_or_ge k mem.length with bO | bO
  ·rw [kD k v bO] at hk; exact jn.lt _ _ _ _ _ hk
  ·rw [nV k v bO] at hk; exact Nat.lt_of_lt_of_le (hs.lt _ _ _ _ _ hk) dq.size
 ·rcases get hk with ⟨bO, hB⟩ | ⟨bO, hB⟩
  ·exact (jn.mem k B hB).mono Rp (fun v hv => by rw [kD k v bO]; exact hv) (fun _ _ _ _ => rfl) fun g e c o _ hn => by rw [ee]; exact hn
  ·refine (hs.mem k B hB).mono hle (fun v hv => by rw [nV k v bO]; exact hv) (fun g e c hb => dq.heap g (hs.lt _ _ _ _ _ hb) fun k0 v0 e0 c0 h => rZ _ _ _ _ _ bO hb _ _ _ _ h) fun g e c o hb hn => ?_
   rw [ee]
   cases hy : w4.F ⟨g, o, none⟩ with
   | none => rfl
   | some y =>
    rcases dq.F _ _ hy with h | h | ⟨k0, v0, e0, c0, h⟩
    ·have h' : E.F ⟨g, o, none⟩ = some y := h
     rw [hn] at h'; cases h'
    ·have := hs.lt _ _ _ _ _ hb; simp at h; omega
    ·exact absurd h (rZ _ _ _ _ _ bO hb _ _ _ _)
 ·dsimp only at hk
  simp only [List.length_append] at hk
  rw [nV k v (by omega)]; exact hs.top k (by simp; omega) v
 ·rcases get hk with ⟨bO, hB⟩ | ⟨bO, hB⟩
  ·rw [kD k v bO]; exact jn.aA k B hB v hv
  ·rw [nV k v bO]; exact hs.aA k B hB v hv
 ·have mixed : ∀ k k' v v' g e1 c1 e2 c2, k < mem.length → mem.length ≤ k' → w4.aK k v = some (g, e1, c1) → E.aK k' v' = some (g, e2, c2) → k = k' := fun k k' v v' g e1 c1 e2 c2 hk eP h h' => by
   rcases dq.aK _ _ _ _ _ h with ⟨k0, v0, e0, c0, h0⟩ | h0
   ·exact absurd h0 (rZ _ _ _ _ _ eP h' _ _ _ _)
   ·have := hs.lt _ _ _ _ _ h'; omega
  rcases Nat.lt_or_ge k mem.length with fC | fC <;> rcases Nat.lt_or_ge k' mem.length with jl | jl
  ·rw [kD k _ fC] at h5; rw [kD k' _ jl] at h6
   exact jn.apart _ _ _ _ _ _ _ _ _ h5 h6
  ·rw [kD k _ fC] at h5; rw [nV k' _ jl] at h6
   exact mixed _ _ _ _ _ _ _ _ _ fC jl h5 h6
  ·rw [nV k _ fC] at h5; rw [kD k' _ jl] at h6
   exact (mixed _ _ _ _ _ _ _ _ _ jl fC h6 h5).symm
  ·rw [nV k _ fC] at h5; rw [nV k' _ jl] at h6
   exact hs.apart _ _ _ _ _ _ _ _ _ h5 h6

theorem xY {E : Env} {w : World} {mem l : List aw} (hs : aZ E w { tmps := #[], defers := [] } { fr := [], mem := mem ++ l }) (hb : mem.all (aB mem.length) = true) : aZ (E.cut mem.length) w { tmps := #[], defers := [] } { fr := [], mem := mem } := by
 have h := hs.cut (n := mem.length) rfl (by rw [List.take_left]; exact hb)
 rwa [List.take_left] at h
theorem aP.below {E : Env} {n : Nat} {vs : List V} {xs : List Value} (h : aP E vs xs) (hb : vs.all (ai n) = true) : aP (E.cut n) vs xs :=
 ⟨h.1, fun i v x hv hx => fb (h.2 i v x hv hx) (List.all_eq_true.1 hb v (List.mem_of_getElem? hv))⟩

theorem aT.frame {P : Program} {f : FuncId} {vs : List V} {r : V} {mem aD : List aw} (h : aT P f vs mem r aD) (hv : vs.all (ai mem.length) = true) (hm : mem.all (aB mem.length) = true) (hr : ai mem.length r = true) (hlen : aD.length = mem.length) (F1 : aD.all (aB mem.length) = true) (l : List aw) :
  aT P f vs (mem ++ l) r (aD ++ l) := by
 refine ⟨h.1, fun E w xs hs hx => ?_⟩
 refine (h.2 _ w xs (xY hs hm) (hx.below hv)).mono ?_
 rintro en w' ⟨E', x, rfl, dq, kR, od⟩
 obtain ⟨E2, h1, h2, h3⟩ := sw hs dq kR hlen F1
 exact ⟨E2, x, rfl, h1, h2, (fb od hr).mono h3⟩
theorem Qb.frame {P : Program} {k : Nat} {vs : List V} {mem aD : List aw} {b : Bool} (h : Qb P k vs mem b aD) (hk : k < mem.length) (hv : vs.all (ai mem.length) = true) (hm : mem.all (aB mem.length) = true) (hlen : aD.length = mem.length) (F1 : aD.all (aB mem.length) = true) (l : List aw) :
  Qb P k vs (mem ++ l) b (aD ++ l) := by
 intro E w xs lp e c hs hx hb
 obtain ⟨fn, tmps, assign, body, h1, h2⟩ := h _ w xs lp e c (xY hs hm) (hx.below hv) ((if_pos hk).trans hb)
 refine ⟨fn, tmps, assign, body, h1, h2.mono ?_⟩
 rintro en w' ⟨E', rfl, dq, kR⟩
 obtain ⟨E2, h3, h4, -⟩ := sw hs dq kR hlen F1
 exact ⟨E2, rfl, h3, h4⟩
theorem Rr : (false == true) = false := rfl
theorem Rs : (true == false) = false := rfl
theorem Jv (mem : List aw) (ts : Array TypeId) (P : Program) (r : List V) : nX mem ts P [.slice r] = none := rfl
theorem Jw (mem : List aw) (ts : Array TypeId) (P : Program) (b v s l : Nat) : nX mem ts P [.ms b v s l] = none := rfl
theorem Jx (mem : List aw) (ts : Array TypeId) (P : Program) (x : Value) : nX mem ts P [.sc x] = none := rfl
end Go.Eng
end
