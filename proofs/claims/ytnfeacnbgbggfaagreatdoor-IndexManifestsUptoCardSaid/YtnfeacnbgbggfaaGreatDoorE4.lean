/-
  THE ENGINE, V: the engine as a function: what a closed call comes to, by computing.
-/
import Derived.Test.YtnfeacnbgbggfaaGreatDoorE3
set_option linter.all false
section
namespace Go.Eng
variable [aE]

abbrev yX := Nat → Array Oper → List (List Pl × Nat)
abbrev vq := FuncId → List V → List au → Option (List (V × List au))
abbrev lP := FuncId → List V → Option V
def jw (P : Program) (nat : lP) : Prop := ∀ f vs r, nat f vs = some r → sI P f vs r
abbrev EI := Nat → List V → List au → Option (List (Bool × List au))
abbrev jM := Bool → Code → St → Option (List (Exit × St))

def jN {α β : Type} (x : Option (List α)) (f : α → Option (List β)) : Option (List β) :=
  match x with
  | none => none
  | some l => l.foldr (fun a acc => match f a, acc with | some b, some c => some (b ++ c) | _, _ => none) (some [])
theorem vr {α β : Type} {f : α → Option (List β)} : ∀ {l : List α} {out : List β}, jN (some l) f = some out → ∀ a ∈ l, ∃ b, f a = some b ∧ ∀ x ∈ b, x ∈ out
  | [], _, _, a, ha => by simp at ha
  | c :: r, out, h, a, ha => by
    simp only [jN,List.foldr_cons] at h
    split at h
    · rename_i b t hb hc
      cases h
      rcases List.mem_cons.1 ha with rfl | ha
      · exact ⟨b, hb, fun x hx => List.mem_append_left _ hx⟩
      · obtain ⟨b', h1, h2⟩ := vr (l := r) (out := t) hc a ha
        exact ⟨b', h1, fun x hx => List.mem_append_right _ (h2 x hx)⟩
    · cases h
theorem di {α β : Type} {x : Option (List α)} {f : α → Option (List β)} {out : List β} (h : jN x f = some out) : ∃ l, x = some l ∧ ∀ a ∈ l, ∃ b, f a = some b ∧ ∀ y ∈ b, y ∈ out := by
  cases x with
  | none => cases h
  | some l => exact ⟨l, rfl, vr h⟩

def G2 (st : St) (it : V) (str : Bool) : Option (List (V × List au)) :=
  match it with
  | .ptr b 0 => match st.mem[b]? with
    | some (.ed m since seen last) => match st.mem[m]? with
      | some (.map bf clock) => if str = false ∧ wG bf seen last = false then
          some ((if (sw bf seen since).isEmpty then [(sx, st.mem)] else []) ++
            (sw bf seen since ++ Gu bf seen since).map fun e => (Gv e, st.mem.set b (.ed m since (seen ++ [e.2.1]) clock)))
        else none
      | _ => none
    | some (.gZ s pos) => if str = true then (if pos < s.size then some [(MD s pos, st.mem.set b (.gZ s (pos + (Utf8.decode s pos).2)))] else some [(sx, st.mem)]) else none
    | some .iz => if str = false then some [(sx, st.mem)] else none
    | _ => none
  | _ => none
theorem cB {α : Type} {Q : α → Prop} {a : α} (h : ∀ p ∈ [a], Q p) : Q a := h a (List.mem_singleton.2 rfl)
theorem yY {st : St} {dst : Option Tmp} {it : V} {str : Bool} {outs : List (V × List au)} {Q : St → Prop} (h : G2 st it str = some outs) (hQ : ∀ p ∈ outs, Q (St.put { st with mem := p.2 } dst p.1)) : ov st dst it str Q := by
  unfold G2 at h
  unfold ov
  split at h
  · split at h
    · rename_i h1
      simp only [h1]
      split at h
      · rename_i h2
        simp only [h2]
        split at h
        · rename_i h3
          cases h
          refine ⟨h3.1, h3.2, fun he => ?_, fun e he => ?_⟩
          · have := hQ (sx, st.mem) (by rw [he]; exact List.mem_append_left _ (List.mem_singleton.2 rfl)); exact this
          · have := hQ _ (List.mem_append_right _ (List.mem_map.2 ⟨e, he, rfl⟩)); exact this
        · cases h
      · cases h
    · rename_i h1
      simp only [h1]
      split at h
      · rename_i h3
        refine ⟨h3, ?_⟩
        split at h
        · rename_i h4; cases h; rw [if_pos h4]; exact (by have h9 := cB hQ; exact h9)
        · rename_i h4; cases h; rw [if_neg h4]; exact (by have h9 := cB hQ; exact h9)
      · cases h
    · rename_i h1
      simp only [h1]
      split at h
      · rename_i h3
        cases h
        exact ⟨h3, (by have h9 := cB hQ; exact h9)⟩
      · cases h
    · cases h
  · cases h

def R7 (jx : FuncId → List V → Option V) (g : FuncId) (vs : List V) (st : St) : Option (V × List au) :=
  match cj st.mem vs with
  | some vs' => match jx g vs' with
    | some r => some (r, cI st.mem (vs.flatMap ck) r)
    | none => none
  | none => none
def tc (P : Program) (jx : FuncId → List V → Option V) : Prop := ∀ f vs r, jx f vs = some r → aP P f vs r
def G3 (P : Program) (tt : Table) (nat : lP) (jx : FuncId → List V → Option V) (call : vq) (ik : EI) (key : Nat) (o : Oper) (st : St) : Option (List (V × List au)) :=
  match o.op with
  | .alloc T => match tt T with
    | some i => some [((.ptr key 0), aX st.mem key (.box (i.zero.map V.sc)))]
    | none => none
  | .box _ x => match fH (st.eval x) with
    | some cs => some [((.ptr key 0), aX st.mem key (.box cs))]
    | none => none
  | .build T parts => match gV P tt T parts.toList st.eval with
    | some v => some [(v, st.mem)]
    | none => none
  | .buildSlice T len parts => match pE tt T len parts.toList st.eval with
    | some (size, rs) => some [((.ms key 0 0 len), aX st.mem key (.rows 0 size rs))]
    | none => match ny tt T len parts.toList st with
      | some (size, rs) => some [((.ms key 0 0 len), aX (bL st.mem (fh st.eval parts.toList)) key (.rows 0 size rs))]
      | none => none
  | .store T p x => match gU tt st.mem T (st.eval p) (st.eval x) with
    | some aA => some [((.sc undef), aA)]
    | none => match wJ tt st.mem T (st.eval p) (st.eval x) with
      | some aA => some [((.sc undef), aA)]
      | none => none
  | .call { callee := .builtin .append, args := xs, argTypes := ts } => match xs.toList.map st.eval with
    | [s, x] => match dn tt st.mem ts.toList s x with
      | some (size, nZ, rows) => some [((ct st.mem key size rows nZ).2, (ct st.mem key size rows nZ).1)]
      | none => none
    | _ => none
  | .call { callee := .value f, args := xs, .. } => match st.eval f with
    | .ik k => match ik k (xs.toList.map st.eval) st.mem with
      | some outs => some (outs.map fun p => ((.sc (.bool p.1)), p.2))
      | none => none
    | fv => match ba fv (xs.toList.map st.eval) with
      | some (g, vs) => match R7 jx g vs st with
        | some (r, aA) => some [(r, aA)]
        | none => match call g vs st.mem with
          | some outs => some (outs.map fun p => (p.1, p.2))
          | none => match nat g vs with
            | some r => some [(r, st.mem)]
            | none => none
      | none => none
  | .makeSlice T l c => match qF tt T (st.eval l) (st.eval c) with
    | some (size, rs, _) => some [((.ms key 0 0 rs.length), aX st.mem key (.rows 0 size rs))]
    | none => none
  | .makeMap _ none => some [((.mp key), aX st.mem key (.map [] 0))]
  | .mapUpdate T m k x => match ch P st.mem T (st.eval m) (st.eval k) (st.eval x) with
    | some aA => some [((.sc undef), aA)]
    | none => none
  | .insert T m k x => match ch P st.mem T (st.eval m) (st.eval k) (st.eval x) with
    | some aA => some [((.sc undef), aA)]
    | none => none
  | .mapEntry T m k => match pF P st.mem T (st.eval m) (st.eval k) with
    | some (aA, v) => some [(v, aA)]
    | none => none
  | .entryStore _ m s x => match pG st.mem (st.eval m) (st.eval s) (st.eval x) with
    | some aA => some [((.sc undef), aA)]
    | none => none
  | .call { callee := .builtin .delete, args := xs, argTypes := ts } => match ml P st.mem ts (xs.toList.map st.eval) with
    | some aA => some [((.sc (.tuple #[])), aA)]
    | none => none
  | .range T x => match jI P st.mem T (st.eval x) with
    | some B => some [((.ptr key 0), aX st.mem key B)]
    | none => none
  | .next it str => G2 st (st.eval it) str
  | .binOp op T x y _ => match jv tt op T (st.eval x) (st.eval y) with
    | some n => if n = 0 then some [((.sc (.bool (kq op false))), st.mem), ((.sc (.bool (kq op true))), st.mem)] else some [((.sc (.bool (kq op false))), st.mem)]
    | none => match fR P tt st o with
      | some v => some [(v, st.mem)]
      | none => none
  | _ => match fR P tt st o with
    | some v => some [(v, st.mem)]
    | none => none

def Bi (P : Program) (call : vq) : Prop := ∀ f vs mem outs, call f vs mem = some outs → gH P f vs mem fun r m => (r, m) ∈ outs
def G4 (P : Program) (ik : EI) : Prop := ∀ k vs mem outs, ik k vs mem = some outs → Eu P k vs mem fun b m => (b, m) ∈ outs

theorem yZ {P : Program} {tt : Table} {nat : lP} {jx : FuncId → List V → Option V} {call : vq} {ik : EI} (C8 : tc P jx) (vt : jw P nat) (hc : Bi P call) (hy : G4 P ik) {key : Nat} {o : Oper} {st : St} {outs : List (V × List au)} {Q : St → Prop} (h : G3 P tt nat jx call ik key o st = some outs) (hQ : ∀ p ∈ outs, Q (St.put { st with mem := p.2 } o.dst p.1)) :
    bx P tt key o st Q := by
  unfold G3 at h
  unfold bx
  split at h
  · rename_i heq; rw [heq]; dsimp only
    split at h
    · rename_i h1; cases h; rw [h1]; exact (by have h9 := cB hQ; exact h9)
    · cases h
  · rename_i heq; rw [heq]; dsimp only
    split at h
    · rename_i h1; cases h; rw [h1]; exact (by have h9 := cB hQ; exact h9)
    · cases h
  · rename_i heq; rw [heq]; dsimp only
    split at h
    · rename_i h1; cases h; rw [h1]; exact (by have h9 := cB hQ; exact h9)
    · cases h
  · rename_i heq; rw [heq]; dsimp only
    split at h
    · rename_i h1; cases h; rw [h1]; exact (by have h9 := cB hQ; exact h9)
    · rename_i h0
      rw [h0]; dsimp only
      split at h
      · rename_i h1; cases h; rw [h1]; exact (by have h9 := cB hQ; exact h9)
      · cases h
  · rename_i heq; rw [heq]; dsimp only
    split at h
    · rename_i h1; cases h; rw [h1]; exact (by have h9 := cB hQ; exact h9)
    · rename_i h0
      rw [h0]; dsimp only
      split at h
      · rename_i h1; cases h; rw [h1]; exact (by have h9 := cB hQ; exact h9)
      · cases h
  · rename_i heq; rw [heq]; dsimp only
    split at h
    · rename_i h0
      rw [h0]; dsimp only
      split at h
      · rename_i h1; cases h; rw [h1]; exact (by have h9 := cB hQ; exact h9)
      · cases h
    · cases h
  · rename_i heq; rw [heq]; dsimp only
    split at h
    · rename_i k hk
      rw [hk]; dsimp only
      split at h
      · rename_i os ho
        cases h
        exact .inr ⟨_, hy _ _ _ _ ho, fun b m hm => (by have := hQ _ (List.mem_map.2 ⟨_, hm, rfl⟩); exact this)⟩
      · cases h
    · rename_i fv QQ
      split at h
      · rename_i g vs hg
        split at h
        · rename_i r aA EJ
          cases h
          unfold R7 at EJ
          split at EJ
          · rename_i vs' Ug
            split at EJ
            · rename_i r1 AV
              cases EJ
              split
              · rename_i k hk; exact absurd hk (QQ k)
              · rw [hg]; exact .inl ⟨vs', _, Ug, C8 _ _ _ AV, (by have h9 := cB hQ; exact h9)⟩
            · cases EJ
          · cases EJ
        · split at h
          · rename_i os ho
            cases h
            split
            · rename_i k hk; exact absurd hk (QQ k)
            · rw [hg]; exact .inr (.inr (.inl ⟨_, hc _ _ _ _ ho, fun b m hm => (by have := hQ _ (List.mem_map.2 ⟨_, hm, rfl⟩); exact this)⟩))
          · split at h
            · rename_i r hr
              cases h
              split
              · rename_i k hk; exact absurd hk (QQ k)
              · rw [hg]; exact .inr (.inr (.inr ⟨r, vt _ _ _ hr, (by have h9 := cB hQ; exact h9)⟩))
            · cases h
      · cases h
  · rename_i heq; rw [heq]; dsimp only
    split at h
    · rename_i h1; cases h; rw [h1]; exact (by have h9 := cB hQ; exact h9)
    · cases h
  · rename_i heq; rw [heq]; dsimp only; cases h; exact (by have h9 := cB hQ; exact h9)
  · rename_i heq; rw [heq]; dsimp only
    split at h
    · rename_i h1; cases h; rw [h1]; exact (by have h9 := cB hQ; exact h9)
    · cases h
  · rename_i heq; rw [heq]; dsimp only
    split at h
    · rename_i h1; cases h; rw [h1]; exact (by have h9 := cB hQ; exact h9)
    · cases h
  · rename_i heq; rw [heq]; dsimp only
    split at h
    · rename_i h1; cases h; rw [h1]; exact (by have h9 := cB hQ; exact h9)
    · cases h
  · rename_i heq; rw [heq]; dsimp only
    split at h
    · rename_i h1; cases h; rw [h1]; exact (by have h9 := cB hQ; exact h9)
    · cases h
  · rename_i heq; rw [heq]; dsimp only
    split at h
    · rename_i h1; cases h; rw [h1]; exact (by have h9 := cB hQ; exact h9)
    · cases h
  · rename_i heq; rw [heq]; dsimp only
    split at h
    · rename_i h1; cases h; rw [h1]; exact (by have h9 := cB hQ; exact h9)
    · cases h
  · rename_i heq; rw [heq]; dsimp only
    exact yY h hQ
  · rename_i heq; rw [heq]; dsimp only
    split at h
    · rename_i n hn
      rw [hn]; dsimp only
      intro b hb
      split at h
      · cases h; cases b
        · have := hQ _ (List.mem_cons_self ..); exact this
        · have := hQ _ (List.mem_cons_of_mem _ (List.mem_singleton.2 rfl)); exact this
      · rename_i h0; cases h; rw [hb h0]; exact (by have h9 := cB hQ; exact h9)
    · rename_i hn
      rw [hn]; dsimp only
      split at h
      · rename_i h1; cases h; rw [h1]; exact (by have h9 := cB hQ; exact h9)
      · cases h
  · split at h
    · rename_i h1
      cases h
      split <;> first | (rw [h1]; exact (by have h9 := cB hQ; exact h9)) | (exfalso; solve_by_elim)
    · cases h

/-! ### what is computed is written out before it is handed on (the kernel would reckon it anew at each look) -/
def G5 {α β : Type} : List α → (List α → β) → β
  | [], k => k []
  | c :: r, k => G5 r fun r' => k (c :: r')
theorem kE {α β : Type} : ∀ (l : List α) (k : List α → β), G5 l k = k l
  | [], _ => rfl
  | c :: r, k => by rw [G5, kE r]
def gX {β : Type} (n : Nat) (k : Nat → β) : β := Nat.casesOn n (k 0) fun m => k (Nat.succ m)
theorem dG {β : Type} (n : Nat) (k : Nat → β) : gX n k = k n := by cases n <;> rfl
def Oj {β : Type} (n : Int) (k : Int → β) : β := match n with | .ofNat m => gX m fun m' => k (.ofNat m') | .negSucc m => gX m fun m' => k (.negSucc m')
theorem Ks {β : Type} (n : Int) (k : Int → β) : Oj n k = k n := by cases n <;> simp only [Oj,dG]
def Bj {β : Type} (s : ByteArray) (k : ByteArray → β) : β := G5 s.data.toList fun l => k ⟨⟨l⟩⟩
theorem EK {β : Type} (s : ByteArray) (k : ByteArray → β) : Bj s k = k s := by rw [Bj, kE]
def Kt {β : Type} (v : Value) (k : Value → β) : β :=
  match v with
  | .bool true => k (.bool true)
  | .bool false => k (.bool false)
  | .int t n => Oj n fun n' => k (.int t n')
  | .string s => Bj s fun s' => k (.string s')
  | v => k v
theorem C9 {β : Type} (v : Value) (k : Value → β) : Kt v k = k v := by
  unfold Kt
  split
  · rfl
  · rfl
  · rw [Ks]
  · rw [EK]
  · rfl
def fW {β : Type} (v : V) (k : V → β) : β :=
  match v with
  | .undef => k .undef
  | .sc v => k (.sc v)
  | .agg cs => k (.agg cs)
  | .slice r => k (.slice r)
  | .ms a b c d => k (.ms a b c d)
  | .ptr a b => k (.ptr a b)
  | .cY a b c d => k (.cY a b c d)
  | .cg cs => k (.cg cs)
  | .fU f a b => k (.fU f a b)
  | .bt l => k (.bt l)
  | .ik a => k (.ik a)
  | .mp a => k (.mp a)
  | .gn => k .gn
  | .full r => k (.full r)
theorem MV {β : Type} (v : V) (k : V → β) : fW v k = k v := by cases v <;> rfl
def QV {β : Type} : List V → (List V → β) → β
  | [], k => k []
  | c :: r, k => fW c fun c' => QV r fun r' => k (c' :: r')
theorem wV {β : Type} : ∀ (l : List V) (k : List V → β), QV l k = k l
  | [], _ => rfl
  | c :: r, k => by rw [QV, MV, wV r]
mutual
def fV {β : Type} : V → (V → β) → β
  | .undef, k => k .undef
  | .gn, k => k .gn
  | .sc v, k => Kt v fun v' => k (.sc v')
  | .agg cs, k => Da cs fun mZ => k (.agg mZ)
  | .bt cs, k => Da cs fun mZ => k (.bt mZ)
  | .slice cs, k => Da cs fun mZ => k (.slice mZ)
  | .full cs, k => Da cs fun mZ => k (.full mZ)
  | .cg cs, k => Da cs fun mZ => k (.cg mZ)
  | .fU f a b, k => Da a fun a' => Da b fun b' => k (.fU f a' b')
  | .ms a b c d, k => gX a fun a' => gX b fun b' => gX c fun c' => gX d fun d' => k (.ms a' b' c' d')
  | .ptr a b, k => gX a fun a' => gX b fun b' => k (.ptr a' b')
  | .cY a b c d, k => gX a fun a' => gX b fun b' => gX c fun c' => gX d fun d' => k (.cY a' b' c' d')
  | .ik a, k => gX a fun a' => k (.ik a')
  | .mp a, k => gX a fun a' => k (.mp a')
def Da {β : Type} : List V → (List V → β) → β
  | [], k => k []
  | c :: r, k => fV c fun c' => Da r fun r' => k (c' :: r')
end
mutual
theorem y0 {β : Type} : ∀ (v : V) (k : V → β), fV v k = k v
  | .undef, _ => by rw [fV]
  | .gn, _ => by rw [fV]
  | .sc v, k => by rw [fV, C9]
  | .agg cs, k => by rw [fV, kF cs]
  | .bt cs, k => by rw [fV, kF cs]
  | .slice cs, k => by rw [fV, kF cs]
  | .full cs, k => by rw [fV, kF cs]
  | .cg cs, k => by rw [fV, kF cs]
  | .fU f a b, k => by rw [fV, kF a, kF b]
  | .ms a b c d, k => by rw [fV, dG, dG, dG, dG]
  | .ptr a b, k => by rw [fV, dG, dG]
  | .cY a b c d, k => by rw [fV, dG, dG, dG, dG]
  | .ik a, k => by rw [fV, dG]
  | .mp a, k => by rw [fV, dG]
theorem kF {β : Type} : ∀ (l : List V) (k : List V → β), Da l k = k l
  | [], _ => by rw [Da]
  | c :: r, k => by rw [Da, y0 c, kF r]
end
def Ku {β : Type} : List (Value × Nat × V) → (List (Value × Nat × V) → β) → β
  | [], k => k []
  | (a, n, v) :: r, k => Kt a fun a' => gX n fun n' => fV v fun v' => Ku r fun r' => k ((a', n', v') :: r')
theorem Db {β : Type} : ∀ (l : List (Value × Nat × V)) (k : List (Value × Nat × V) → β), Ku l k = k l
  | [], _ => rfl
  | (a, n, v) :: r, k => by rw [Ku, C9, dG, y0, Db r]
def fB {β : Type} (B : au) (k : au → β) : β :=
  match B with
  | .hole => k .hole
  | .dead => k .dead
  | .iz => k .iz
  | .box cs => Da cs fun mZ => k (.box mZ)
  | .rows v e rs => gX v fun v' => gX e fun e' => Da rs fun rs' => k (.rows v' e' rs')
  | .mO v e rs => gX v fun v' => gX e fun e' => Da rs fun rs' => k (.mO v' e' rs')
  | .loop s p fr ps a b => k (.loop s p fr ps a b)
  | .map bf c => Ku bf fun kvs' => gX c fun c' => k (.map kvs' c')
  | .ed a b c d => gX a fun a' => gX b fun b' => G5 c fun c' => gX d fun d' => k (.ed a' b' c' d')
  | .gZ s p => gX p fun p' => k (.gZ s p')
theorem R9 {β : Type} (B : au) (k : au → β) : fB B k = k B := by
  cases B <;> simp only [fB,kF,dG,Db,kE]
def Bl {β : Type} : List Nat → List au → (List au → β) → β
  | [], m, k => G5 m k
  | i :: r, m, k => match m[i]? with
    | some B => fB B fun B' => Bl r (m.set i B') k
    | none => Bl r m k
theorem oJ {β : Type} : ∀ (ks : List Nat) (m : List au) (k : List au → β), Bl ks m k = k m
  | [], m, k => kE m k
  | i :: r, m, k => by
    simp only [Bl]
    split
    · rename_i B hB
      rw [R9, oJ r]
      congr 1
      apply List.ext_getElem?
      intro j
      rw [List.getElem?_set]
      split
      · rename_i sv; subst sv
        split
        · exact hB.symm
        · rename_i aF; rw [List.getElem?_eq_none (by omega)]
      · rfl
    · exact oJ r m k
def vu (o : Oper) : Bool :=
  match o.op with
  | .move _ | .assign _ | .pick .. | .load .. | .extract .. | .nilCheck _ | .field .. => true
  | _ => false
def fD {β : Type} (b : Bool) (v : V) (k : V → β) : β := match b with | true => fW v k | false => fV v k
theorem MW {β : Type} (b : Bool) (v : V) (k : V → β) : fD b v k = k v := by cases b <;> simp only [fD,MV,y0]
def Kv {β : Type} (b : Bool) (d : Option Tmp) (ks : List Nat) (s : St) (k : St → β) : β :=
  match d with
  | some d => fD b (s.fr.getD d .undef) fun v => G5 (if d < s.fr.length then s.fr.set d v else s.fr) fun fr => Bl ks s.mem fun mem => k { fr := fr, mem := mem }
  | none => G5 s.fr fun fr => Bl ks s.mem fun mem => k { fr := fr, mem := mem }
theorem nC {β : Type} (b : Bool) (d : Option Tmp) (ks : List Nat) (s : St) (k : St → β) : Kv b d ks s k = k s := by
  unfold Kv
  split
  · rename_i d
    rw [MW, kE, oJ]
    congr 1
    split
    · rename_i hd
      obtain ⟨fr, mem⟩ := s
      dsimp only at hd ⊢
      congr 1
      apply List.ext_getElem?
      intro j
      rw [List.getElem?_set]
      split
      · rename_i sv; subst sv
        rw [List.getD_eq_getElem?_getD, List.getElem?_eq_getElem hd]; rfl
      · rfl
    · rfl
  · rw [kE, oJ]
def Kw {β : Type} : List V → Nat → V → (List V → β) → β
  | [], _, _, k => k []
  | _ :: r, 0, v, k => k (v :: r)
  | c :: r, d + 1, v, k => Kw r d v fun r' => k (c :: r')
theorem Dc {β : Type} : ∀ (l : List V) (d : Nat) (v : V) (k : List V → β), Kw l d v k = k (l.set d v)
  | [], _, _, _ => rfl
  | _ :: _, 0, _, _ => rfl
  | c :: r, d + 1, v, k => by rw [Kw, Dc r]; rfl
def Dd {β : Type} (ks : List Nat) (m : List au) (k : List au → β) : β := match ks with | [] => k m | _ :: _ => Bl ks m k
theorem y5 {β : Type} (ks : List Nat) (m : List au) (k : List au → β) : Dd ks m k = k m := by
  unfold Dd
  split
  · rfl
  · rw [oJ]
def Ol {β : Type} (b : Bool) (d : Option Tmp) (ks : List Nat) (st : St) (v : V) (m : List au) (k : St → β) : β :=
  match d with
  | some d => fD b v fun v => Kw st.fr d v fun fr => Dd ks m fun mem => k { fr := fr, mem := mem }
  | none => Dd ks m fun mem => k { fr := st.fr, mem := mem }
theorem Kx {β : Type} (b : Bool) (d : Option Tmp) (ks : List Nat) (st : St) (v : V) (m : List au) (k : St → β) : Ol b d ks st v m k = k (St.put { st with mem := m } d v) := by
  unfold Ol
  split
  · rw [MW, Dc, y5]; rfl
  · rw [y5]; rfl
def G6 : V → List Nat
  | .ptr b _ => [b]
  | .cY b _ _ _ => [b]
  | .ms b _ _ _ => [b]
  | .mp b => [b]
  | _ => []
def De (key : Nat) (o : Oper) (st : St) : List Nat :=
  match o.op with
  | .alloc _ | .box .. | .buildSlice .. | .makeMap .. | .makeSlice .. | .range .. => [key]
  | .store _ p _ => G6 (st.eval p)
  | .call { callee := .builtin .append, args := xs, .. } => match xs.toList with | s :: _ => key :: G6 (st.eval s) | _ => []
  | .call { callee := .builtin .delete, args := xs, .. } => match xs.toList with | s :: _ => G6 (st.eval s) | _ => []
  | .mapUpdate _ m _ _ | .insert _ m _ _ | .mapEntry _ m _ | .entryStore _ m _ _ => G6 (st.eval m)
  | .call { callee := .value _, .. } => [0]
  | .next it _ => G6 (st.eval it)
  | _ => []

def G7 (P : Program) (tt : Table) (nat : lP) (jx : FuncId → List V → Option V) (call : vq) (ik : EI) (all : Array Oper) : List Oper → St → Option (List St)
  | [], st => some [st]
  | o :: r, st => match cO all st.fr o with
    | some true => jN (G3 P tt nat jx call ik st.mem.length o st) fun p => Ol (vu o) o.dst (De st.mem.length o st) st p.1 p.2 fun s' => G7 P tt nat jx call ik all r s'
    | some false => G7 P tt nat jx call ik all r (st.put o.dst (.sc undef))
    | none => none
theorem nD {P : Program} {tt : Table} {nat : lP} {jx : FuncId → List V → Option V} (C8 : tc P jx) {call : vq} {ik : EI} (vt : jw P nat) (hc : Bi P call) (hy : G4 P ik) {all : Array Oper} {Q : St → Prop} : ∀ {l : List Oper} {st : St} {outs : List St}, G7 P tt nat jx call ik all l st = some outs → (∀ s ∈ outs, Q s) → dt P tt all l st Q
  | [], st, outs, h, hQ => by cases h; exact hQ _ (by simp)
  | o :: r, st, outs, h, hQ => by
    simp only [G7] at h
    simp only [dt]
    split at h
    · rename_i hw
      rw [hw]
      obtain ⟨l, h1, h2⟩ := di h
      refine yZ C8 vt hc hy h1 fun s hs => ?_
      obtain ⟨b, h3, h4⟩ := h2 s hs
      rw [Kx] at h3
      exact nD C8 vt hc hy h3 fun s' lr => hQ _ (h4 _ lr)
    · rename_i hw
      rw [hw]
      exact nD C8 vt hc hy h hQ
    · cases h

/-! ### all rows frozen -/
def cJ : Nat → List au → List (Nat × Nat)
  | _, [] => []
  | i, .rows v _ _ :: r => (i, v) :: cJ (i + 1) r
  | i, .mO v _ _ :: r => (i, v) :: cJ (i + 1) r
  | i, _ :: r => cJ (i + 1) r
theorem kG : ∀ {m : List au} {n k v e : Nat} {rs : List V}, (m[k]? = some (.rows v e rs) ∨ m[k]? = some (.mO v e rs)) → (n + k, v) ∈ cJ n m
  | [], n, k, v, e, rs, h => by simp at h
  | B :: r, n, 0, v, e, rs, h => by
    simp only [List.getElem?_cons_zero,Option.some.injEq] at h
    rcases h with rfl | rfl <;> simp [cJ]
  | B :: r, n, k + 1, v, e, rs, h => by
    simp only [List.getElem?_cons_succ] at h
    have := kG (n := n + 1) h
    rw [show n + 1 + k = n + (k + 1) from by omega] at this
    cases B <;> simp only [cJ] <;> first | exact this | exact List.mem_cons_of_mem _ this
def gC (mem : List au) (v : V) : V := match bz mem v with | some v' => v' | none => v
def Om (mem : List au) : V → V
  | .agg cs => .agg (cs.map (gC mem))
  | .bt vs => .bt (vs.map fun v => match v with | .agg cs => .agg (cs.map (gC mem)) | v => gC mem v)
  | v => gC mem v
def Bm (mem : List au) : au → au
  | .box cs => .box (cs.map (gC mem))
  | B => B
def Df (st : St) : Option St :=
  let keys := cJ 0 st.mem
  match cj st.mem (keys.map fun (k : Nat × Nat) => V.ms k.1 k.2 0 0) with
  | some _ => some { fr := st.fr.map (Om st.mem), mem := (bL st.mem keys).map (Bm st.mem) }
  | none => none
theorem Dg : ∀ (keys : List (Nat × Nat)), (keys.map fun (k : Nat × Nat) => V.ms k.1 k.2 0 0).flatMap ck = keys
  | [] => rfl
  | k :: r => by simp [ck, eg, Dg r]
theorem EL {mem : List au} {B : au} (h : ∀ cs, B ≠ .box cs) : Bm mem B = B := by
  cases B <;> first | rfl | exact absurd rfl (h _)
theorem Bn (mem : List au) (B : au) : (Bm mem B).ay = B.ay := by cases B <;> rfl
theorem y6 {E : Env} {w : World} {a : Act} {st st' : St} (hs : aV E w a st) (h : Df st = some st') : ∃ E', aV E' w a st' ∧ dk E w E' w := by
  unfold Df at h
  dsimp only at h
  split at h
  · rename_i vs' hp
    cases h
    obtain ⟨ks, F2⟩ : ∃ ks, ks = ((cJ 0 st.mem).map (fun (k : Nat × Nat) => V.ms k.1 k.2 0 0)).flatMap ck := ⟨_, rfl⟩
    have Sa : dk E w (E.kg w ks) w ∧ aV (E.kg w ks) w a { st with mem := bL st.mem ks } := by
      subst F2
      obtain ⟨hg, h1, h2⟩ := sF hs hp (F' := (E.kg w (((cJ 0 st.mem).map (fun (k : Nat × Nat) => V.ms k.1 k.2 0 0)).flatMap ck)).F) (fun _ _ h => h) (fun ad y h => Env.C0 hs.F h) (fun _ _ h => .inl h) (Go.RowKit.Below.refl _ w)
      exact ⟨h1, h2⟩
    rw [Dg] at F2
    subst F2
    obtain ⟨dm, eS⟩ := Sa
    have lB : ∀ {v : V} {x : Value}, aT E v x → aT (E.kg w (cJ 0 st.mem)) (gC st.mem v) x := fun {v x} hr => by
      unfold gC
      split
      · rename_i v' hv
        refine (ju hs hr hv fun k hk => ?_).mono (Env.mf _)
        cases v <;> simp only [eg,List.mem_singleton,List.not_mem_nil] at hk
        subst hk
        simp only [bz] at hv
        split at hv
        · rename_i hm
          split at hv
          · rename_i hc; have := kG (n := 0) (.inl hm); rw [Nat.zero_add, hc.1] at this; exact this
          · cases hv
        · rename_i hm
          split at hv
          · rename_i hc; have := kG (n := 0) (.inr hm); rw [Nat.zero_add, hc.1] at this; exact this
          · cases hv
        · cases hv
      · exact hr.mono (Env.pH E w _)
    have J5 : ∀ {cs : List V} {xs : List Value}, aO E cs xs → aO (E.kg w (cJ 0 st.mem)) (cs.map (gC st.mem)) xs := fun {cs xs} hr => by
      refine ⟨by simpa using hr.1, fun i c x hc hx => ?_⟩
      simp only [List.getElem?_map,Option.map_eq_some_iff] at hc
      obtain ⟨c0, Bo, rfl⟩ := hc
      exact lB (hr.2 i c0 x Bo hx)
    have h1 : ∀ {v : V} {x : Value}, aT E v x → aT (E.kg w (cJ 0 st.mem)) (match v with | .agg cs => .agg (cs.map (gC st.mem)) | v => gC st.mem v) x := fun {v x} hr => by
      split
      · rename_i cs
        cases hr with
        | agg _ cs xs hl hh =>
          have := J5 (cs := cs) (xs := xs.toList) ⟨by simpa using hl, fun i c x hc hx => hh i c x hc (by simpa using hx)⟩
          exact .agg _ _ _ (by simpa using this.1) fun i c x hc hx => this.2 i c x hc (by simpa using hx)
      · exact lB hr
    have hV : ∀ {v : V} {x : Value}, aT E v x → aT (E.kg w (cJ 0 st.mem)) (Om st.mem v) x := fun {v x} hr => by
      unfold Om
      split
      · exact h1 (v := .agg _) hr
      · rename_i vs
        cases hr with
        | bt _ vs xs hl hh =>
          refine .bt _ _ _ (by simpa using hl) fun i c x hc hx => ?_
          simp only [List.getElem?_map,Option.map_eq_some_iff] at hc
          obtain ⟨c0, Bo, rfl⟩ := hc
          exact h1 (hh i c0 x Bo hx)
      · exact lB hr
    refine ⟨_, ⟨eS.F, eS.lt, fun k B hk => ?_, fun k hk => eS.top k (by simpa using hk), fun k B hk v hv => ?_, eS.apart, ⟨by simpa using hs.fr.1, fun i v x hv hx => ?_⟩⟩, dm⟩
    · simp only [List.getElem?_map,Option.map_eq_some_iff] at hk
      obtain ⟨B0, vf, rfl⟩ := hk
      have h0 := eS.mem k B0 vf
      by_cases Sb : ∃ cs, B0 = .box cs
      · obtain ⟨cs, rfl⟩ := Sb
        have hold : st.mem[k]? = some (.box cs) := by
          rw [kp] at vf
          cases JC : st.mem[k]? with
          | none => rw [JC] at vf; simp [jk] at vf
          | some B1 =>
            rw [JC] at vf
            cases B1 <;> simp only [jk] at vf <;> first | exact vf | (split at vf <;> cases vf)
        obtain ⟨g, T, xs, q1, q2, q3, q4⟩ := h0
        obtain ⟨g', T', n5, r1, r2, r3, r4⟩ := hs.mem k _ hold
        have : g = g' := by
          have := dm.le.aG _ _ _ r1
          have e : (E.kg w (cJ 0 st.mem)).aG k 0 = some (g, 0, 0) := q1
          have e2 : (E.kg w (cJ 0 st.mem)).aG k 0 = some (g', 0, 0) := this
          rw [e] at e2; cases e2; rfl
        subst this
        rw [r2] at q2; cases q2
        exact ⟨g, T, xs, q1, r2, J5 r3, q4⟩
      · rw [EL fun cs e => Sb ⟨cs, e⟩]; exact h0
    · simp only [List.getElem?_map,Option.map_eq_some_iff] at hk
      obtain ⟨B0, vf, rfl⟩ := hk
      rw [Bn] at hv
      exact eS.ay k B0 vf v hv
    · simp only [List.getElem?_map,Option.map_eq_some_iff] at hv
      obtain ⟨v0, FX, rfl⟩ := hv
      exact hV (hs.fr.2 i v0 x FX hx)
  · cases h
theorem Bp {P : Program} {ρ : Option Nat} {n0 : Nat} {c : Code} {st st' : St} {Q : Exit → St → Prop} (hf : Df st = some st') (h : gA P ρ n0 c st' Q) : gA P ρ n0 c st Q := fun E0 w0 h0 E w a he hs uG => by
  obtain ⟨E', h1, h2⟩ := y6 hs hf
  exact h E0 w0 h0 E' w a (he.trans h2) h1 (uG.F1 h2)

/-! ### regions that draw -/
abbrev lQ := FuncId → List V → Option V
abbrev qR := FuncId → List V → Option (Nat × List V)
def wW (P : Program) (live : qR) : Prop := ∀ f vs e rs, live f vs = some (e, rs) → sS P f vs e rs
def Bq (live : qR) (o : Oper) (key : Nat) (st : St) : Option St :=
  match o.op with
  | .call { callee := .value f, args := xs, .. } => match ba (st.eval f) (xs.toList.map st.eval) with
    | some (g, vs) => match cj [] vs with
      | some vs' => match live g vs' with
        | some (e, rs) => some (sT st key o.dst e rs)
        | none => none
      | none => none
    | none => none
  | _ => none
theorem wX {P : Program} {live : qR} (hl : wW P live) {o : Oper} {key : Nat} {st s : St} {Q : St → Prop} (h : Bq live o key st = some s) (hQ : Q s) : nA P o key st Q := by
  unfold Bq at h
  unfold nA
  split at h
  · rename_i heq; rw [heq]; dsimp only
    split at h
    · rename_i g vs hg
      rw [hg]; dsimp only
      split at h
      · rename_i vs' hv
        split at h
        · rename_i e rs hr
          cases h
          exact ⟨vs', e, rs, hv, hl _ _ _ _ hr, hQ⟩
        · cases h
      · cases h
    · cases h
  · cases h
def pQ (P : Program) (pure : lQ) : Prop := ∀ f vs r, pure f vs = some r → aP P f vs r
def Ky (P : Program) (tt : Table) (nat : lP) (pure : lQ) (o : Oper) (uJ st : St) : Option St :=
  match o.op with
  | .call { callee := .value f, args := xs, .. } => match ba (uJ.eval f) (xs.toList.map uJ.eval) with
    | some (g, vs) => match cj [] vs with
      | some vs' => match pure g vs' with
        | some r => some (st.put o.dst r)
        | none => match nat g vs' with
          | some r => some (st.put o.dst r)
          | none => none
      | none => none
    | none => none
  | _ => match ry P tt o uJ with
    | some v => some (st.put o.dst v)
    | none => none
theorem td {P : Program} {tt : Table} {nat : lP} (vt : jw P nat) {pure : lQ} (hp : pQ P pure) {o : Oper} {uJ st s : St} {Q : St → Prop} (h : Ky P tt nat pure o uJ st = some s) (hQ : Q s) : wR P tt o uJ st Q := by
  unfold Ky at h
  unfold wR
  split at h
  · rename_i heq; rw [heq]; dsimp only
    split at h
    · rename_i g vs hg
      rw [hg]; dsimp only
      split at h
      · rename_i vs' hv
        split at h
        · rename_i r hr
          cases h
          exact ⟨vs', r, hv, .inl (hp _ _ _ hr), hQ⟩
        · split at h
          · rename_i r hr
            cases h
            exact ⟨vs', r, hv, .inr (vt _ _ _ hr), hQ⟩
          · cases h
      · cases h
    · cases h
  · split at h
    · rename_i h1
      cases h
      split
      · exfalso; solve_by_elim
      · rw [h1]; exact hQ
    · cases h
def Br (P : Program) (tt : Table) (nat : lP) (pure : lQ) (live : qR) (all : Array Oper) (base : Nat) (o : Oper) (p : Pl) (st : St) : Option St :=
  match cO all st.fr o with
  | some true => match p.cls with
    | .n => Ky P tt nat pure o { st with mem := [] } st
    | .r => Ky P tt nat pure o { st with mem := dc (p.mask.map (base + ·) ++ p.abs) st.mem } st
    | .a => if isHole st.mem (base + p.key) = true then (match dZ tt o (base + p.key) st with
      | some (B, v) => some (St.put { st with mem := st.mem.set (base + p.key) B } o.dst v)
      | none => Bq live o (base + p.key) st) else none
    | .w => if isHole st.mem (base + p.key) = true then (match oA P tt (base + p.key) o st with
      | some (m, v) => some (St.put { st with mem := m } o.dst v)
      | none => none) else none
    | .s => match rz tt (base + p.key) o st with
      | some m => some (St.put { st with mem := m } o.dst (.sc undef))
      | none => none
    | .b => match kX tt o st with
      | some v => some (st.put o.dst v)
      | none => none
    | .z => none
    | .e => none
  | some false => some (st.put o.dst (.sc undef))
  | none => none
theorem wY {P : Program} {tt : Table} {nat : lP} (vt : jw P nat) {pure : lQ} {live : qR} (hp : pQ P pure) (hl : wW P live) {all : Array Oper} {base : Nat} {o : Oper} {p : Pl} {st s : St} {Q : St → Prop} (h : Br P tt nat pure live all base o p st = some s) (hQ : Q s) : dC P tt all base o p st Q := by
  unfold Br at h
  unfold dC
  split at h
  · rename_i hw; rw [hw]; dsimp only
    split at h
    · rename_i kf; rw [kf]; exact td vt hp h hQ
    · rename_i kf; rw [kf]; exact td vt hp h hQ
    · rename_i kf; rw [kf]; dsimp only
      split at h
      · rename_i hh
        refine ⟨hh, ?_⟩
        split at h
        · rename_i h1; cases h; rw [h1]; exact hQ
        · rename_i h1; rw [h1]; exact wX hl h hQ
      · cases h
    · rename_i kf; rw [kf]; dsimp only
      split at h
      · rename_i hh
        refine ⟨hh, ?_⟩
        split at h
        · rename_i h1; cases h; rw [h1]; exact hQ
        · cases h
      · cases h
    · rename_i kf; rw [kf]; dsimp only
      split at h
      · rename_i h1; cases h; rw [h1]; exact hQ
      · cases h
    · rename_i kf; rw [kf]; dsimp only
      split at h
      · rename_i h1; cases h; rw [h1]; exact hQ
      · cases h
    · cases h
    · cases h
  · rename_i hw; rw [hw]; cases h; exact hQ
  · cases h
def y7 (P : Program) (tt : Table) (nat : lP) (pure : lQ) (live : qR) (all : Array Oper) (base : Nat) : List Oper → List Pl → St → Option St
  | [], _, st => some st
  | o :: r, p :: ps, st => match Br P tt nat pure live all base o p st with
    | some s => Kv (vu o) o.dst (De (base + p.key) o st) s fun s' => y7 P tt nat pure live all base r ps s'
    | none => none
  | _ :: _, [], _ => none
theorem qS {P : Program} {tt : Table} {nat : lP} (vt : jw P nat) {pure : lQ} {live : qR} (hp : pQ P pure) (hl : wW P live) {all : Array Oper} {base : Nat} {Q : St → Prop} : ∀ {l : List Oper} {ps : List Pl} {st s : St}, y7 P tt nat pure live all base l ps st = some s → Q s → runM P tt all base l ps st Q
  | [], _, st, s, h, hQ => by cases h; exact hQ
  | o :: r, p :: ps, st, s, h, hQ => by
    simp only [y7] at h
    simp only [runM]
    split at h
    · rename_i s1 h1
      rw [nC] at h
      exact wY vt hp hl h1 (qS vt hp hl h hQ)
    · cases h
  | _ :: _, [], _, _, h, _ => by simp [y7] at h

/-! ### code -/
mutual
def On : V → Nat
  | .ms b _ _ _ | .ptr b _ | .ik b | .mp b | .cY b _ _ _ => b + 1
  | .agg cs | .bt cs => EM cs
  | .fU _ a b => max (EM a) (EM b)
  | _ => 0
def EM : List V → Nat
  | [] => 0
  | c :: r => max (On c) (EM r)
end
def Vr : au → Nat
  | .box cs => EM cs
  | .loop _ _ fr _ _ _ => EM fr
  | .map bf _ => bf.foldr (fun k n => max (On k.2.2) n) 0
  | .ed m _ _ _ => m + 1
  | _ => 0
def Sc (l : List au) : Nat := l.foldr (fun B n => max (Vr B) n) 0
def Oo : Nat → Nat → List au → Nat
  | 0, n, _ => n
  | k + 1, n, mem => let m := max n (Sc (mem.take n)); if m = n then n else Oo k m mem
def Sd (lo : Nat) (r : V) (mem : List au) : Option (V × List au) :=
  let n := Oo 8 (max lo (On r)) mem
  if lo ≤ n ∧ ai n r = true ∧ (mem.take n).all (aB n) = true then some (r, mem.take n) else none

def rP : Exit → Bool
  | .ret => true
  | .normal => true
  | _ => false
def Dh : Value → Value → Bool
  | .agg a, .agg b => jl a.toList b.toList
  | .tuple a, .tuple b => jl a.toList b.toList
  | .func (.func f) a b, .func (.func g) c d => f == g && a.isEmpty && b.isEmpty && c.isEmpty && d.isEmpty
  | a, b => wM a b
theorem y8 {a b : Value} (h : Dh a b = true) : a = b := by
  unfold Dh at h
  split at h
  · rename_i x y; rw [← Array.toArray_toList (xs := x), kA h, Array.toArray_toList]
  · rename_i x y; rw [← Array.toArray_toList (xs := x), kA h, Array.toArray_toList]
  · simp only [Bool.and_eq_true,beq_iff_eq,Array.isEmpty_iff] at h
    obtain ⟨⟨⟨⟨rfl, rfl⟩, rfl⟩, rfl⟩, rfl⟩ := h
    rfl
  · exact vh h
mutual
def fm : V → V → Bool
  | .undef, .undef => true
  | .gn, .gn => true
  | .sc a, .sc b => Dh a b
  | .agg a, .agg b => fj a b
  | .bt a, .bt b => fj a b
  | .slice a, .slice b => fj a b
  | .full a, .full b => fj a b
  | .cg a, .cg b => fj a b
  | .ms a b c d, .ms a' b' c' d' => a == a' && b == b' && c == c' && d == d'
  | .ptr a b, .ptr a' b' => a == a' && b == b'
  | .cY a b c d, .cY a' b' c' d' => a == a' && b == b' && c == c' && d == d'
  | .mp a, .mp b => a == b
  | .ik a, .ik b => a == b
  | .fU (.func f) a b, .fU (.func g) c d => f == g && fj a c && fj b d
  | _, _ => false
def fj : List V → List V → Bool
  | [], [] => true
  | a :: r, b :: s => fm a b && fj r s
  | _, _ => false
end
mutual
theorem oK : ∀ {a b : V}, fm a b = true → a = b
  | .undef, b, h => by cases b <;> simp [fm] at h <;> rfl
  | .gn, b, h => by cases b <;> simp [fm] at h <;> rfl
  | .sc a, b, h => by
    cases b <;> simp only [fm,Bool.false_eq_true] at h
    rw [y8 h]
  | .agg a, b, h => by
    cases b <;> simp only [fm,Bool.false_eq_true] at h
    rw [dv h]
  | .bt a, b, h => by
    cases b <;> simp only [fm,Bool.false_eq_true] at h
    rw [dv h]
  | .slice a, b, h => by
    cases b <;> simp only [fm,Bool.false_eq_true] at h
    rw [dv h]
  | .full a, b, h => by
    cases b <;> simp only [fm,Bool.false_eq_true] at h
    rw [dv h]
  | .cg a, b, h => by
    cases b <;> simp only [fm,Bool.false_eq_true] at h
    rw [dv h]
  | .ms _ _ _ _, b, h => by
    cases b <;> simp only [fm,Bool.false_eq_true,Bool.and_eq_true,beq_iff_eq] at h
    obtain ⟨⟨⟨rfl, rfl⟩, rfl⟩, rfl⟩ := h; rfl
  | .ptr _ _, b, h => by
    cases b <;> simp only [fm,Bool.false_eq_true,Bool.and_eq_true,beq_iff_eq] at h
    obtain ⟨rfl, rfl⟩ := h; rfl
  | .cY _ _ _ _, b, h => by
    cases b <;> simp only [fm,Bool.false_eq_true,Bool.and_eq_true,beq_iff_eq] at h
    obtain ⟨⟨⟨rfl, rfl⟩, rfl⟩, rfl⟩ := h; rfl
  | .mp _, b, h => by
    cases b <;> simp only [fm,Bool.false_eq_true,beq_iff_eq] at h
    rw [h]
  | .ik _, b, h => by
    cases b <;> simp only [fm,Bool.false_eq_true,beq_iff_eq] at h
    rw [h]
  | .fU f a c, b, h => by
    cases b with
    | fU g a' c' =>
      cases f <;> cases g <;> simp only [fm,Bool.false_eq_true,Bool.and_eq_true,beq_iff_eq] at h
      obtain ⟨⟨rfl, h1⟩, h2⟩ := h
      rw [dv h1, dv h2]
    | _ => cases f <;> simp [fm] at h
theorem dv : ∀ {a b : List V}, fj a b = true → a = b
  | [], b, h => by cases b <;> simp [fj] at h <;> rfl
  | c :: r, b, h => by
    cases b with
    | nil => simp [fj] at h
    | cons d s =>
      simp only [fj,Bool.and_eq_true] at h
      rw [oK h.1, dv h.2]
end
def mv : List (Value × Nat × V) → List (Value × Nat × V) → Bool
  | [], [] => true
  | a :: r, b :: s => Dh a.1 b.1 && a.2.1 == b.2.1 && fm a.2.2 b.2.2 && mv r s
  | _, _ => false
theorem te : ∀ {a b : List (Value × Nat × V)}, mv a b = true → a = b
  | [], [], _ => rfl
  | (k, n, v) :: r, (k', n', v') :: s, h => by
    simp only [mv,Bool.and_eq_true,beq_iff_eq] at h
    obtain ⟨⟨⟨h1, h2⟩, h3⟩, h4⟩ := h
    rw [y8 h1, h2, oK h3, te h4]
  | [], _ :: _, h => by simp [mv] at h
  | _ :: _, [], h => by simp [mv] at h
def G8 : au → au → Bool
  | .hole, .hole => true
  | .dead, .dead => true
  | .iz, .iz => true
  | .box a, .box b => fj a b
  | .rows v e a, .rows v' e' b => v == v' && e == e' && fj a b
  | .mO v e a, .mO v' e' b => v == v' && e == e' && fj a b
  | .map a c, .map b d => c == d && mv a b
  | .ed a b c d, .ed a' b' c' d' => a == a' && b == b' && c == c' && d == d'
  | _, _ => false
theorem G9 {a b : au} (h : G8 a b = true) : a = b := by
  unfold G8 at h
  split at h
  · rfl
  · rfl
  · rfl
  · rw [dv h]
  · simp only [Bool.and_eq_true,beq_iff_eq] at h; obtain ⟨⟨rfl, rfl⟩, h⟩ := h; rw [dv h]
  · simp only [Bool.and_eq_true,beq_iff_eq] at h; obtain ⟨⟨rfl, rfl⟩, h⟩ := h; rw [dv h]
  · simp only [Bool.and_eq_true,beq_iff_eq] at h; obtain ⟨rfl, h⟩ := h; rw [te h]
  · simp only [Bool.and_eq_true,beq_iff_eq] at h; obtain ⟨⟨⟨rfl, rfl⟩, rfl⟩, rfl⟩ := h; rfl
  · cases h
def pR : List au → List au → Bool
  | [], [] => true
  | a :: r, b :: s => G8 a b && pR r s
  | _, _ => false
theorem vw : ∀ {a b : List au}, pR a b = true → a = b
  | [], [], _ => rfl
  | x :: r, y :: s, h => by simp only [pR,Bool.and_eq_true] at h; rw [G9 h.1, vw h.2]
  | [], _ :: _, h => by simp [pR] at h
  | _ :: _, [], h => by simp [pR] at h
def dedup : List (V × List au) → List (V × List au)
  | [] => []
  | p :: r => if (dedup r).any (fun q => fm p.1 q.1 && pR p.2 q.2) = true then dedup r else p :: dedup r
theorem pS : ∀ {l : List (V × List au)} {p : V × List au}, p ∈ l → p ∈ dedup l
  | q :: r, p, h => by
    simp only [dedup]
    split
    · rename_i NS
      rcases List.mem_cons.1 h with rfl | h
      · obtain ⟨q', h1, h2⟩ := List.any_eq_true.1 NS
        simp only [Bool.and_eq_true] at h2
        have : p = q' := Prod.ext (oK h2.1) (vw h2.2)
        rw [this]; exact h1
      · exact pS h
    · rcases List.mem_cons.1 h with rfl | h
      · exact List.mem_cons_self ..
      · exact List.mem_cons_of_mem _ (pS h)
def Se (P : Program) (tt : Table) (code : jM) : vq := fun f vs mem =>
  match P.funcs[f]? with
  | some fn => match fn.body with
    | some body => (jN (QV vs fun vs => G5 mem fun mem => Kv true none [] (eh fn vs mem) fun s => code false body s) fun o => if rP o.1 = true then (match iI tt fn.results o.2 with
      | some r => fV r fun r => match Sd mem.length r o.2.mem with | some p => G5 p.2 fun m => some [(p.1, m)] | none => none
      | none => none) else none).map dedup
    | none => none
  | none => none
def y9 (P : Program) (tt : Table) (code : jM) : lQ := fun f vs =>
  match P.funcs[f]? with
  | some fn => match fn.body with
    | some body => match jN (QV vs fun vs => Kv true none [] (eh fn vs []) fun s => code false body s) fun o => if rP o.1 = true then (match uH tt fn.results o.2 with | some r => fV r fun r => some [r] | none => none) else none with
      | some (r :: rs) => if rs.all (fm r) = true then some r else none
      | _ => none
    | none => none
  | none => none
def Bs : List (V × List au) → Option (Nat × Nat × List V)
  | [(.ms 0 v 0 l, [.rows v' e rs])] => if v' = v ∧ l = rs.length then some (v, e, rs) else none
  | [(.ms 0 v 0 0, [.rows v' e []]), (.sc (.slice none 0 0), [])] => if v' = v then some (v, e, []) else none
  | [(.sc (.slice none 0 0), []), (.ms 0 v 0 0, [.rows v' e []])] => if v' = v then some (v, e, []) else none
  | _ => none
theorem Bt {outs : List (V × List au)} {v e : Nat} {rs : List V} (h : Bs outs = some (v, e, rs)) : ∀ r m, (r, m) ∈ outs → (r = .ms 0 v 0 rs.length ∧ m = [.rows v e rs]) ∨ (r = .sc (.slice none 0 0) ∧ m = [] ∧ rs = []) := by
  unfold Bs at h
  split at h
  · split at h
    · rename_i hc; cases h; obtain ⟨rfl, rfl⟩ := hc
      intro r m hm; simp at hm; exact .inl hm
    · cases h
  · split at h
    · rename_i hc; cases h; subst hc
      intro r m hm; simp at hm
      rcases hm with ⟨rfl, rfl⟩ | ⟨rfl, rfl⟩
      · exact .inl ⟨rfl, rfl⟩
      · exact .inr ⟨rfl, rfl, rfl⟩
    · cases h
  · split at h
    · rename_i hc; cases h; subst hc
      intro r m hm; simp at hm
      rcases hm with ⟨rfl, rfl⟩ | ⟨rfl, rfl⟩
      · exact .inr ⟨rfl, rfl, rfl⟩
      · exact .inl ⟨rfl, rfl⟩
    · cases h
  · cases h
theorem gH.live {P : Program} {f : FuncId} {vs : List V} {R : V → List au → Prop} {v e : Nat} {rs : List V} (h : gH P f vs [] R) (hR : ∀ r m, R r m → (r = .ms 0 v 0 rs.length ∧ m = [.rows v e rs]) ∨ (r = .sc (.slice none 0 0) ∧ m = [] ∧ rs = [])) : sS P f vs e rs := by
  refine ⟨v, h.1, fun E w xs hs hx => (h.2 E w xs hs hx).mono ?_⟩
  rintro en w' ⟨E', x, r, m, rfl, hr, dm, lr, ot⟩
  rcases hR r m hr with ⟨rfl, rfl⟩ | ⟨rfl, rfl, rfl⟩
  · exact ⟨E', x, rfl, dm, lr, ot⟩
  · obtain rfl := bN ot
    exact ⟨E', _, rfl, dm, by simpa using lr.lO v e, .cZ _ _ _ _⟩
def Ha (P : Program) (tt : Table) (code : jM) : qR := fun f vs =>
  match Se P tt code f vs [] with
  | some outs => match Bs outs with | some (_, e, rs) => some (e, rs) | none => none
  | none => none
def Hb (lo : Nat) (b : Bool) (m : List au) : Option (List (Bool × List au)) :=
  let n := Oo 8 lo m
  if lo ≤ n ∧ (m.take n).all (aB n) = true then G5 (m.take n) fun m => some [(b, m)] else none
theorem Bu {lo : Nat} {b : Bool} {m : List au} {x : List (Bool × List au)} (h : Hb lo b m = some x) : ∃ n, lo ≤ n ∧ (m.take n).all (aB n) = true ∧ (b, m.take n) ∈ x := by
  unfold Hb at h
  dsimp only at h
  split at h
  · rename_i hc; rw [kE] at h; cases h; exact ⟨_, hc.1, hc.2, by simp⟩
  · cases h
def Oq (code : jM) : EI := fun k vs mem =>
  match mem[k]? with
  | some (.loop .ready none fr params assign body) =>
    if vs.length = params.size then
      jN (QV vs fun vs => Kv true none [] { fr := vj params.toList vs fr, mem := mem } fun s => code true assign s) fun o => match o.1, o.2.mem[k]? with
        | .normal, some (.loop .ready none MK p1 Ki Kj) =>
          jN (Kv true none [] { o.2 with mem := o.2.mem.set k (.loop .busy none MK p1 Ki Kj) } fun s => code true body s) fun u => match A4 u.1, u.2.mem[k]? with
            | some jump, some (.loop _ _ Kk p2 GI GJ) =>
              Hb mem.length jump.isNone (u.2.mem.set k (.loop (if jump.isNone then .ready else .done) jump Kk p2 GI GJ))
            | _, _ => none
        | _, _ => none
    else none
  | _ => none
def Kz : LoopState → Bool
  | .busy => false
  | _ => true

def pT {α : Type} (f : α → Option (List (Exit × St))) : List α → Option (List (Exit × St))
  | [] => none
  | a :: r => match f a with | some x => some x | none => pT f r
theorem qT {α : Type} {f : α → Option (List (Exit × St))} : ∀ {l : List α} {x : List (Exit × St)}, pT f l = some x → ∃ a ∈ l, f a = some x
  | [], x, h => by cases h
  | a :: r, x, h => by
    simp only [pT] at h
    split at h
    · rename_i hx; cases h; exact ⟨a, List.mem_cons_self .., hx⟩
    · obtain ⟨b, h1, h2⟩ := qT h; exact ⟨b, List.mem_cons_of_mem _ h1, h2⟩
def Ot (jx : FuncId → List V → Option V) (pure : lQ) : lQ := fun f vs => match jx f vs with | some r => some r | none => pure f vs
theorem KA {P : Program} {jx : FuncId → List V → Option V} {pure : lQ} (h : tc P jx) (hp : pQ P pure) : pQ P (Ot jx pure) := fun f vs r hr => by
  unfold Ot at hr
  split at hr
  · rename_i r' h1; cases hr; exact h _ _ _ h1
  · exact hp _ _ _ hr
def KB (P : Program) (tt : Table) (nat : lP) (jx : FuncId → List V → Option V) (code : jM) (ops : Array Oper) (st : St) (p : List Pl × Nat) : Option (List (Exit × St)) :=
  if s8 ops p.1 = true then (match y7 P tt nat (Ot jx (y9 P tt code)) (Ha P tt code) ops st.mem.length ops.toList p.1 { st with mem := st.mem ++ List.replicate p.2 .hole } with
    | some s => some [(.normal, s)]
    | none => none) else none
def jy (P : Program) (tt : Table) (pl : yX) (nat : lP) (jx : FuncId → List V → Option V) (code : jM) : jM := fun ρ c st =>
  match c with
  | .skip => some [(.normal, st)]
  | .ret => some [(.ret, st)]
  | .exit id => some [(.exit id, st)]
  | .seq a b => jN (code ρ a st) fun o => match o.1 with
    | .normal => code ρ b o.2
    | e => some [(e, o.2)]
  | .cond x a b => match st.eval x with
    | .sc (.bool t) => code ρ (if t = true then a else b) st
    | _ => none
  | .block id c => jN (code ρ c st) fun o => match o.1 with
    | .exit j => if j = id then some [(.normal, o.2)] else some [(.exit j, o.2)]
    | e => some [(e, o.2)]
  | .loop c => jN (code ρ c st) fun o => match o.1 with
    | .normal => code ρ (.loop c) o.2
    | e => some [(e, o.2)]
  | .region _ ops false => jN (G7 P tt nat jx (Se P tt code) (Oq code) ops ops.toList st) fun s => some [(.normal, s)]
  | .region id ops true => match pT (KB P tt nat jx code ops st) (pl id ops) with
    | some x => some x
    | none => match Df st with
      | some st' => pT (KB P tt nat jx code ops st') (pl id ops)
      | none => none
  | .rangeFunc f params assign body => if ρ = true then none else
    match ba (st.eval f) [.ik st.mem.length] with
    | some (g, vs) => jN (Se P tt code g vs (st.mem ++ [.loop .ready none st.fr params assign body])) fun o => match o.2[st.mem.length]? with
      | some (.loop s jr _ _ _ _) => if Kz s = true then (match jr with
        | none => Kv true none [] { st with mem := o.2.set st.mem.length .dead } fun s => some [(.normal, s)]
        | some c => Kv true none [] { st with mem := o.2.set st.mem.length .dead } fun s => code false c s) else none
      | _ => none
    | none => none
  | _ => none

def ev (P : Program) (tt : Table) (pl : yX) (nat : lP) (jx : FuncId → List V → Option V) (n : Nat) : jM := Nat.rec (fun _ _ _ => none) (fun _ r => jy P tt pl nat jx r) n

def tf (P : Program) (code : jM) : Prop := ∀ b c st outs, code b c st = some outs → ∀ (ρ : Option Nat) (n0 : Nat) (Q : Exit → St → Prop), (b = true ∨ ρ = none) → (∀ o ∈ outs, Q o.1 o.2) → gA P ρ n0 c st Q

section
variable {P : Program} {tt : Table} {pl : yX} {nat : lP} {jx : FuncId → List V → Option V} (ht : TT P tt) (hm : P.follows .mixedOrders = true)
  (du : ∀ (f : FuncId) (fn : Func) (body : Code), P.funcs[f]? = some fn → fn.body = some body → ∀ (xs : Array Value) (w : World), (callFunc f xs).run P w = .ok (.enter f xs) w)
include ht du
theorem Bv {code : jM} (MX : tf P code) : Bi P (Se P tt code) := by
  intro f vs mem outs h
  unfold Se at h
  split at h
  · rename_i fn hf
    split at h
    · rename_i body hb
      rw [Option.map_eq_some_iff] at h
      obtain ⟨XB, h, MU⟩ := h
      obtain ⟨l, h1, h2⟩ := di h
      rw [wV, kE, nC] at h1
      refine GG ht hf hb (du f fn body hf hb) (MX _ _ _ _ h1 none _ _ (.inr rfl) fun o ho => ?_)
      obtain ⟨b, h3, h4⟩ := h2 o ho
      split at h3
      · rename_i he
        split at h3
        · rename_i r hr
          rw [y0] at h3
          split at h3
          · rename_i p hp
            rw [kE] at h3
            cases h3
            unfold Sd at hp
            dsimp only at hp
            split at hp
            · rename_i oo
              cases hp
              refine ⟨?_, r, _, oo.1, hr, oo.2.1, oo.2.2, by rw [← MU]; exact pS (h4 _ (by simp))⟩
              cases QF : o.1 <;> simp [rP, QF] at he <;> simp
            · cases hp
          · cases h3
        · cases h3
      · cases h3
    · cases h
  · cases h
theorem za {code : jM} (MX : tf P code) : pQ P (y9 P tt code) := by
  intro f vs r h
  unfold y9 at h
  split at h
  · rename_i fn hf
    split at h
    · rename_i body hb
      split at h
      · rename_i r1 rs Gn
        split at h
        · rename_i bn
          cases h
          obtain ⟨l, h1, h2⟩ := di Gn
          rw [wV, nC] at h1
          refine GF ht hf hb (du f fn body hf hb) (MX _ _ _ _ h1 none _ _ (.inr rfl) fun o ho => ?_)
          obtain ⟨b, h3, h4⟩ := h2 o ho
          split at h3
          · rename_i he
            split at h3
            · rename_i r2 hr
              rw [y0] at h3
              cases h3
              have Eo : r2 = r := by
                rcases List.mem_cons.1 (h4 r2 (by simp)) with h | h
                · exact h
                · exact (oK (List.all_eq_true.1 bn _ h)).symm
              subst Eo
              refine ⟨?_, hr⟩
              cases QF : o.1 <;> simp [rP, QF] at he <;> simp
            · cases h3
          · cases h3
        · cases h
      · cases h
    · cases h
  · cases h
theorem Hc {code : jM} (MX : tf P code) : wW P (Ha P tt code) := by
  intro f vs e rs h
  unfold Ha at h
  split at h
  · rename_i outs ho
    split at h
    · rename_i v e' rs' hl
      cases h
      exact (Bv ht du MX f vs [] outs ho).live fun r m hr => Bt hl r m hr
    · cases h
  · cases h
omit ht du in
theorem KC {code : jM} (MX : tf P code) : G4 P (Oq code) := by
  intro k vs mem outs h
  unfold Oq at h
  split at h
  · rename_i fr params assign body hk
    split at h
    · rename_i hlen
      obtain ⟨l1, h1, h2⟩ := di h
      rw [wV, nC] at h1
      refine wP hk hlen fun l => MX _ _ _ _ h1 (some l) _ _ (.inl rfl) fun o ho => ?_
      obtain ⟨b, h3, h4⟩ := h2 o ho
      split at h3
      · rename_i MK p1 Ki Kj he fK
        refine ⟨he, MK, p1, Ki, Kj, fK, ?_⟩
        obtain ⟨l2, h5, h6⟩ := di h3
        rw [nC] at h5
        refine MX _ _ _ _ h5 (some l) _ _ (.inl rfl) fun u hu => ?_
        obtain ⟨b2, h7, h8⟩ := h6 u hu
        split at h7
        · rename_i jump s2 Uh Kk p2 GI GJ hj kC
          obtain ⟨n, hn, JA, hY⟩ := Bu h7
          exact ⟨n, jump, s2, Uh, Kk, p2, GI, GJ, hn, hj, kC, JA, h4 _ (h8 _ hY)⟩
        · cases h7
      · cases h3
    · cases h
  · cases h

include hm in
theorem Sf (C8 : tc P jx) (vt : jw P nat) : ∀ (n : Nat), tf P (ev P tt pl nat jx n) ∧ ∀ b c st outs, ev P tt pl nat jx n b (.loop c) st = some outs → ∀ (ρ : Option Nat) (n0 : Nat) (Q : Exit → St → Prop), (b = true ∨ ρ = none) → (∀ o ∈ outs, Q o.1 o.2) → kV P ρ n0 c n st Q := by
  intro n
  induction n with
  | zero => exact ⟨fun b c st outs h => by simp [ev] at h, fun b c st outs h => by simp [ev] at h⟩
  | succ n ih =>
    obtain ⟨Hd, YZ⟩ := ih
    have kZ : ∀ b c st, ev P tt pl nat jx (n + 1) b c st = jy P tt pl nat jx (ev P tt pl nat jx n) b c st := fun _ _ _ => rfl
    have loop : ∀ b c st outs, ev P tt pl nat jx (n + 1) b (.loop c) st = some outs → ∀ (ρ : Option Nat) (n0 : Nat) (Q : Exit → St → Prop), (b = true ∨ ρ = none) → (∀ o ∈ outs, Q o.1 o.2) → kV P ρ n0 c (n + 1) st Q := by
      intro b c st outs h ρ n0 Q hb hQ
      rw [kZ] at h
      simp only [jy] at h
      obtain ⟨l, h1, h2⟩ := di h
      refine Hd _ _ _ _ h1 ρ n0 _ hb fun o ho => ?_
      obtain ⟨e, s⟩ := o
      obtain ⟨b', h3, h4⟩ := h2 _ ho
      cases e with
      | normal => exact YZ _ _ _ _ h3 ρ n0 Q hb fun o' Mx => hQ _ (h4 _ Mx)
      | _ => cases h3; exact hQ (_, _) (h4 _ (by simp))
    refine ⟨fun b c st outs h ρ n0 Q hb hQ => ?_, loop⟩
    cases c with
    | skip => rw [kZ] at h; cases h; exact lI (hQ (_, _) (by simp))
    | ret => rw [kZ] at h; cases h; exact oy (hQ (_, _) (by simp))
    | exit id => rw [kZ] at h; cases h; exact sL (hQ (_, _) (by simp))
    | seq x y =>
      rw [kZ] at h
      simp only [jy] at h
      obtain ⟨l, h1, h2⟩ := di h
      refine ku (Hd _ _ _ _ h1 ρ n0 _ hb fun o ho => ?_)
      obtain ⟨e, s⟩ := o
      obtain ⟨b', h3, h4⟩ := h2 _ ho
      cases e with
      | normal => exact Hd _ _ _ _ h3 ρ n0 Q hb fun o' Mx => hQ _ (h4 _ Mx)
      | _ => cases h3; exact hQ (_, _) (h4 _ (by simp))
    | cond x y z =>
      rw [kZ] at h
      simp only [jy] at h
      split at h
      · rename_i t hx
        exact lJ hx (Hd _ _ _ _ h ρ n0 Q hb hQ)
      · cases h
    | block id c =>
      rw [kZ] at h
      simp only [jy] at h
      obtain ⟨l, h1, h2⟩ := di h
      refine jJ (Hd _ _ _ _ h1 ρ n0 _ hb fun o ho => ?_)
      obtain ⟨e, s⟩ := o
      obtain ⟨b', h3, h4⟩ := h2 _ ho
      cases e with
      | exit j =>
        dsimp only at h3
        simp only [eu]
        split at h3
        · rename_i hj; cases h3; rw [if_pos hj]; exact hQ (_, _) (h4 _ (by simp))
        · rename_i hj; cases h3; rw [if_neg hj]; exact hQ (_, _) (h4 _ (by simp))
      | _ => cases h3; exact hQ (_, _) (h4 _ (by simp))
    | loop c => exact sM (n + 1) (loop _ _ _ _ h ρ n0 Q hb hQ)
    | region id ops d =>
      rw [kZ] at h
      cases d with
      | false =>
        simp only [jy] at h
        obtain ⟨l, h1, h2⟩ := di h
        refine kx ht (nD C8 vt (Bv ht du Hd) (KC Hd) h1 fun s hs => ?_)
        obtain ⟨b', h3, h4⟩ := h2 _ hs
        cases h3
        exact hQ (_, _) (h4 _ (by simp))
      | true =>
        simp only [jy] at h
        have one : ∀ (st : St) (outs : List (Exit × St)), (∀ o ∈ outs, Q o.1 o.2) → pT (KB P tt nat jx (ev P tt pl nat jx n) ops st) (pl id ops) = some outs → gA P ρ n0 (.region id ops true) st Q := fun st outs hQ h => by
          obtain ⟨p, -, hp⟩ := qT h
          unfold KB at hp
          split at hp
          · rename_i bB
            split at hp
            · rename_i s hs
              cases hp
              exact pP ht hm p.1 p.2 bB (qS vt (KA C8 (za ht du Hd)) (Hc ht du Hd) hs (hQ (_, _) (by simp)))
            · cases hp
          · cases hp
        split at h
        · rename_i x hx; cases h; exact one st _ hQ hx
        · split at h
          · rename_i st' NR
            exact Bp NR (one st' _ hQ h)
          · cases h
    | rangeFunc f params assign body =>
      rw [kZ] at h
      simp only [jy] at h
      split at h
      · cases h
      · rename_i Sg
        have hρ : ρ = none := by rcases hb with h | h
                                 · exact absurd h Sg
                                 · exact h
        subst hρ
        split at h
        · rename_i g vs hg
          obtain ⟨l, h1, h2⟩ := di h
          refine sR hg (Bv ht du Hd _ _ _ _ h1) fun r A5 hr => ?_
          obtain ⟨b', h3, h4⟩ := h2 _ hr
          dsimp only at h3
          split at h3
          · rename_i s jr Uj MM MN MO Og
            split at h3
            · rename_i Uq
              refine ⟨s, jr, Uj, MM, MN, MO, Og, (fun e => by subst e; cases Uq), ?_⟩
              split at h3
              · rw [nC] at h3; cases h3; exact hQ (_, _) (h4 _ (by simp))
              · rename_i c
                rw [nC] at h3
                exact Hd _ _ _ _ h3 none n0 Q (.inr rfl) fun o' Mx => hQ _ (h4 _ Mx)
            · cases h3
          · cases h3
        · cases h
    | _ => rw [kZ] at h; simp [jy] at h

include hm in
theorem Sh (C8 : tc P jx) (vt : jw P nat) (n : Nat) {f : FuncId} {vs : List V} {r : V} (h : y9 P tt (ev P tt pl nat jx n) f vs = some r) : aP P f vs r := za ht du (Sf ht hm du C8 vt n).1 f vs r h
end
def Vs (P : Program) : Bool := P.funcs.all fun fn => fn.name != "runtime.NumGoroutine"
theorem He {P : Program} (h : Vs P = true) (f : FuncId) (fn : Func) (body : Code) (hf : P.funcs[f]? = some fn) (hb : fn.body = some body) (xs : Array Value) (w : World) : (callFunc f xs).run P w = .ok (.enter f xs) w := by
  have aF : f < P.funcs.size := (Array.getElem?_eq_some_iff.1 hf).1
  have hn := (Array.all_eq_true.1 h) f aF
  have Y0 : P.funcs[f] = fn := (Array.getElem?_eq_some_iff.1 hf).2
  rw [Y0] at hn
  have bD : (fn.name == "runtime.NumGoroutine") = false := by simpa using hn
  simp only [callFunc,program,Sem.run_bind]
  show (match P.funcs[f]? with | none => _ | some fn => _ : Sem Next).run P w = _
  rw [hf]
  dsimp only
  rw [bD, hb]
  rfl
def Ou (l : List (Nat × Nat × Nat × List Pl)) : yX := fun id ops =>
  (l.filter fun e => e.1 == id && e.2.1 == ops.size).map fun e => (e.2.2.2, e.2.2.1)
def Bw : List V → Option V
  | [.sc (.string a), .sc (.string b)] => if 2 ≤ b.size ∧ Ej b.size = true ∧ a.size < 4294967281 then
      (match (List.range (a.size + 1 - b.size)).find? fun i => a.extract i (i + b.size) == b with
        | some i => some (.sc (.int .i64 i))
        | none => some (.sc (.int .i64 (-1)))) else none
  | _ => none
theorem EN {P : Program} {f : FuncId} {fn : Func} {g : Nat} (hf : P.funcs[f]? = some fn) (hn : (fn.name == "runtime.NumGoroutine") = false) (hb : fn.body = none) (oL : Extern.findNext fn = none) (Gf : Extern.find fn = some Extern.BytealgIndex.index)
    (hg : ∀ w, (globalAddr "internal/bytealg.MaxLen").run P w = .ok ⟨g, 0, none⟩ w) (hG : aE.g = some g) {vs : List V} {r : V} (h : Bw vs = some r) : sI P f vs r := fun E w xs hF hx => by
  unfold Bw at h
  split at h
  · rename_i a b
    split at h
    · rename_i hc
      obtain ⟨h2, hm, ha⟩ := hc
      rw [wj] at hm
      have hm : (b.size : Int) ≤ aE.n := by simpa using hm
      obtain ⟨x, r1, hy, AV, hx⟩ := hx.of_cons
      obtain ⟨y, r2, hz, Eo, hx⟩ := hx.of_cons
      have := hx.of_nil
      subst this; subst hz
      obtain rfl := bN AV
      obtain rfl := bN Eo
      obtain rfl : xs = #[.string a, .string b] := by rw [← Array.toArray_toList (xs := xs), hy]
      have lB : w.cell? ⟨g, 0, none⟩ = some (.int .i64 aE.n) := hF _ _ (E.gl.n g hG)
      have Vt : Extern.BytealgIndex.maxLen.run P w = .ok aE.n w := by
        simp [Extern.BytealgIndex.maxLen, hg, load, Sem.run, lB, asInt, asIntOf]
      have cH : (Extern.BytealgIndex.index #[.string a, .string b]).run P w = .ok (match (List.range (a.size + 1 - b.size)).find? fun i => a.extract i (i + b.size) == b with | some i => goInt i | none => goInt (-1)) w := by
        show (do
          let a ← Extern.Bytes.bytesOf (.string a)
          let b ← Extern.Bytes.bytesOf (.string b)
          if b.size < 2 || (b.size : Int) > (← Extern.BytealgIndex.maxLen) then
            unsupported (.noEntry "extern/internal/bytealg.Index.length")
          if a.size ≥ 2 ^ 32 - 15 then
            unsupported (.noEntry "extern/internal/bytealg.Index: a haystack of 2^32 - 15 bytes or more")
          match (List.range (a.size + 1 - b.size)).find? fun i => a.extract i (i + b.size) == b with
          | some i => pure (goInt i)
          | none => pure (goInt (-1)) : Sem Value).run P w = _
        have e1 : (decide (b.size < 2)) = false := by simp; omega
        have e2 : decide ((b.size : Int) > aE.n) = false := by simp; omega
        have e3 : ¬ a.size ≥ 2 ^ 32 - 15 := by omega
        simp only [Extern.Bytes.bytesOf,Sem.run_bind,Sem.run_pure,Result.andThen_ok,Vt,e1,e2,Bool.or_self,Bool.false_eq_true,if_false,e3]
        split <;> rfl
      refine ⟨(match (List.range (a.size + 1 - b.size)).find? fun i => a.extract i (i + b.size) == b with | some i => goInt i | none => goInt (-1)), ?_, ?_⟩
      · simp only [callFunc,program,Sem.run_bind]
        show (match P.funcs[f]? with | none => _ | some fn => _ : Sem Next).run P w = _
        rw [hf]
        dsimp only
        rw [hn, hb]
        simp only [Bool.false_eq_true,if_false,Option.isNone_none,if_true,oL,Gf,Sem.run_bind,mark,Sem.run,Result.andThen_ok]
        rw [cH]; rfl
      · split at h
        · cases h; exact .sc _ _
        · cases h; exact .sc _ _
    · cases h
  · cases h
end Go.Eng
end
