/-
  THE ENGINE, V: the engine as a function: what a closed call comes to, by computing.
-/
import Derived.Test.YtnfeacnbgbggfaaGreatDoorE3
set_option linter.all false
section
namespace Go.Eng
variable [aE]

abbrev xZ := Nat → Array Oper → List (List Pl × Nat)
abbrev uC := FuncId → List V → List aw → Option (List (V × List aw))
abbrev lr := FuncId → List V → Option V
def jf (P : Program) (nat : lr) : Prop := ∀ f vs r, nat f vs = some r → r6 P f vs r
abbrev DK := Nat → List V → List aw → Option (List (Bool × List aw))
abbrev jw := Bool → Code → St → Option (List (Exit × St))

def jx {α β : Type} (x : Option (List α)) (f : α → Option (List β)) : Option (List β) :=
  match x with
  | none => none
  | some l => l.foldr (fun a acc => match f a, acc with | some b, some c => some (b ++ c) | _, _ => none) (some [])
theorem uD {α β : Type} {f : α → Option (List β)} : ∀ {l : List α} {out : List β}, jx (some l) f = some out → ∀ a ∈ l, ∃ b, f a = some b ∧ ∀ x ∈ b, x ∈ out
  | [], _, _, a, ha => by simp at ha
  | c :: r, out, h, a, ha => by
    simp only [jx,List.foldr_cons] at h
    split at h
    · rename_i b t hb hc
      cases h
      rcases List.mem_cons.1 ha with rfl | ha
      · exact ⟨b, hb, fun x hx => List.mem_append_left _ hx⟩
      · obtain ⟨b', h1, h2⟩ := uD (l := r) (out := t) hc a ha
        exact ⟨b', h1, fun x hx => List.mem_append_right _ (h2 x hx)⟩
    · cases h
theorem dm {α β : Type} {x : Option (List α)} {f : α → Option (List β)} {out : List β} (h : jx x f = some out) : ∃ l, x = some l ∧ ∀ a ∈ l, ∃ b, f a = some b ∧ ∀ y ∈ b, y ∈ out := by
  cases x with
  | none => cases h
  | some l => exact ⟨l, rfl, uD h⟩

def F2 (st : St) (it : V) (str : Bool) : Option (List (V × List aw)) :=
  match it with
  | .ptr b 0 => match st.mem[b]? with
    | some (.eh m since seen last) => match st.mem[m]? with
      | some (.map bm clock) => if str = false ∧ vE bm seen last = false then
          some ((if (rQ bm seen since).isEmpty then [(rR, st.mem)] else []) ++
            (rQ bm seen since ++ Fx bm seen since).map fun e => (Fy e, st.mem.set b (.eh m since (seen ++ [e.2.1]) clock)))
        else none
      | _ => none
    | some (.gJ s pos) => if str = true then (if pos < s.size then some [(LN s pos, st.mem.set b (.gJ s (pos + (Utf8.decode s pos).2)))] else some [(rR, st.mem)]) else none
    | some .ig => if str = false then some [(rR, st.mem)] else none
    | _ => none
  | _ => none
theorem cB {α : Type} {Q : α → Prop} {a : α} (h : ∀ p ∈ [a], Q p) : Q a := h a (List.mem_singleton.2 rfl)
theorem x9 {st : St} {dst : Option Tmp} {it : V} {str : Bool} {outs : List (V × List aw)} {Q : St → Prop} (h : F2 st it str = some outs) (hQ : ∀ p ∈ outs, Q (St.put { st with mem := p.2 } dst p.1)) : og st dst it str Q := by
  unfold F2 at h
  unfold og
  split at h
  · split at h
    · rename_i h1
      simp only [h1]
      split at h
      · rename_i h2
        simp only [h2]
        split at h
        · rename_i h3
          cases h
          refine ⟨h3.1, h3.2, fun he => ?_, fun e he => ?_⟩
          · have := hQ (rR, st.mem) (by rw [he]; exact List.mem_append_left _ (List.mem_singleton.2 rfl)); exact this
          · have := hQ _ (List.mem_append_right _ (List.mem_map.2 ⟨e, he, rfl⟩)); exact this
        · cases h
      · cases h
    · rename_i h1
      simp only [h1]
      split at h
      · rename_i h3
        refine ⟨h3, ?_⟩
        split at h
        · rename_i h4; cases h; rw [if_pos h4]; exact (by have h9 := cB hQ; exact h9)
        · rename_i h4; cases h; rw [if_neg h4]; exact (by have h9 := cB hQ; exact h9)
      · cases h
    · rename_i h1
      simp only [h1]
      split at h
      · rename_i h3
        cases h
        exact ⟨h3, (by have h9 := cB hQ; exact h9)⟩
      · cases h
    · cases h
  · cases h

def Rt (jg : FuncId → List V → Option V) (g : FuncId) (vs : List V) (st : St) : Option (V × List aw) :=
  match cy st.mem vs with
  | some vs' => match jg g vs' with
    | some r => some (r, cK st.mem (vs.flatMap cp) r)
    | none => none
  | none => none
def sx (P : Program) (jg : FuncId → List V → Option V) : Prop := ∀ f vs r, jg f vs = some r → aQ P f vs r
def F3 (P : Program) (tt : Table) (nat : lr) (jg : FuncId → List V → Option V) (call : uC) (gY : DK) (key : Nat) (o : Oper) (st : St) : Option (List (V × List aw)) :=
  match o.op with
  | .alloc T => match tt T with
    | some i => some [((.ptr key 0), bc st.mem key (.box (i.zero.map V.sc)))]
    | none => none
  | .box _ x => match fy (st.eval x) with
    | some cs => some [((.ptr key 0), bc st.mem key (.box cs))]
    | none => none
  | .build T parts => match gG P tt T parts.toList st.eval with
    | some v => some [(v, st.mem)]
    | none => none
  | .buildSlice T len parts => match o6 tt T len parts.toList st.eval with
    | some (size, rs) => some [((.ms key 0 0 len), bc st.mem key (.rows 0 size rs))]
    | none => match nd tt T len parts.toList st with
      | some (size, rs) => some [((.ms key 0 0 len), bc (bT st.mem (fa st.eval parts.toList)) key (.rows 0 size rs))]
      | none => none
  | .store T p x => match gF tt st.mem T (st.eval p) (st.eval x) with
    | some aD => some [((.sc undef), aD)]
    | none => match vH tt st.mem T (st.eval p) (st.eval x) with
      | some aD => some [((.sc undef), aD)]
      | none => none
  | .call { callee := .builtin .append, args := xs, argTypes := ts } => match xs.toList.map st.eval with
    | [s, x] => match dr tt st.mem ts.toList s x with
      | some (size, nR, rows) => some [((cu st.mem key size rows nR).2, (cu st.mem key size rows nR).1)]
      | none => none
    | _ => none
  | .call { callee := .value f, args := xs, .. } => match st.eval f with
    | .gY k => match gY k (xs.toList.map st.eval) st.mem with
      | some outs => some (outs.map fun p => ((.sc (.bool p.1)), p.2))
      | none => none
    | fv => match bf fv (xs.toList.map st.eval) with
      | some (g, vs) => match Rt jg g vs st with
        | some (r, aD) => some [(r, aD)]
        | none => match call g vs st.mem with
          | some outs => some (outs.map fun p => (p.1, p.2))
          | none => match nat g vs with
            | some r => some [(r, st.mem)]
            | none => none
      | none => none
  | .makeSlice T l c => match mO tt T (st.eval l) (st.eval c) with
    | some (size, rs, _) => some [((.ms key 0 0 rs.length), bc st.mem key (.rows 0 size rs))]
    | none => none
  | .makeMap _ none => some [((.mp key), bc st.mem key (.map [] 0))]
  | .mapUpdate T m k x => match cn P st.mem T (st.eval m) (st.eval k) (st.eval x) with
    | some aD => some [((.sc undef), aD)]
    | none => none
  | .insert T m k x => match cn P st.mem T (st.eval m) (st.eval k) (st.eval x) with
    | some aD => some [((.sc undef), aD)]
    | none => none
  | .mapEntry T m k => match o7 P st.mem T (st.eval m) (st.eval k) with
    | some (aD, v) => some [(v, aD)]
    | none => none
  | .entryStore _ m s x => match o8 st.mem (st.eval m) (st.eval s) (st.eval x) with
    | some aD => some [((.sc undef), aD)]
    | none => none
  | .call { callee := .builtin .delete, args := xs, argTypes := ts } => match l0 P st.mem ts (xs.toList.map st.eval) with
    | some aD => some [((.sc (.tuple #[])), aD)]
    | none => none
  | .range T x => match js P st.mem T (st.eval x) with
    | some B => some [((.ptr key 0), bc st.mem key B)]
    | none => none
  | .next it str => F2 st (st.eval it) str
  | .binOp op T x y _ => match je tt op T (st.eval x) (st.eval y) with
    | some n => if n = 0 then some [((.sc (.bool (jW op false))), st.mem), ((.sc (.bool (jW op true))), st.mem)] else some [((.sc (.bool (jW op false))), st.mem)]
    | none => match fJ P tt st o with
      | some v => some [(v, st.mem)]
      | none => none
  | _ => match fJ P tt st o with
    | some v => some [(v, st.mem)]
    | none => none

def Ai (P : Program) (call : uC) : Prop := ∀ f vs mem outs, call f vs mem = some outs → gA P f vs mem fun r m => (r, m) ∈ outs
def F4 (P : Program) (gY : DK) : Prop := ∀ k vs mem outs, gY k vs mem = some outs → Dx P k vs mem fun b m => (b, m) ∈ outs

theorem ya {P : Program} {tt : Table} {nat : lr} {jg : FuncId → List V → Option V} {call : uC} {gY : DK} (B9 : sx P jg) (uE : jf P nat) (hc : Ai P call) (hy : F4 P gY) {key : Nat} {o : Oper} {st : St} {outs : List (V × List aw)} {Q : St → Prop} (h : F3 P tt nat jg call gY key o st = some outs) (hQ : ∀ p ∈ outs, Q (St.put { st with mem := p.2 } o.dst p.1)) :
    bD P tt key o st Q := by
  unfold F3 at h
  unfold bD
  split at h
  · rename_i heq; rw [heq]; dsimp only
    split at h
    · rename_i h1; cases h; rw [h1]; exact (by have h9 := cB hQ; exact h9)
    · cases h
  · rename_i heq; rw [heq]; dsimp only
    split at h
    · rename_i h1; cases h; rw [h1]; exact (by have h9 := cB hQ; exact h9)
    · cases h
  · rename_i heq; rw [heq]; dsimp only
    split at h
    · rename_i h1; cases h; rw [h1]; exact (by have h9 := cB hQ; exact h9)
    · cases h
  · rename_i heq; rw [heq]; dsimp only
    split at h
    · rename_i h1; cases h; rw [h1]; exact (by have h9 := cB hQ; exact h9)
    · rename_i h0
      rw [h0]; dsimp only
      split at h
      · rename_i h1; cases h; rw [h1]; exact (by have h9 := cB hQ; exact h9)
      · cases h
  · rename_i heq; rw [heq]; dsimp only
    split at h
    · rename_i h1; cases h; rw [h1]; exact (by have h9 := cB hQ; exact h9)
    · rename_i h0
      rw [h0]; dsimp only
      split at h
      · rename_i h1; cases h; rw [h1]; exact (by have h9 := cB hQ; exact h9)
      · cases h
  · rename_i heq; rw [heq]; dsimp only
    split at h
    · rename_i h0
      rw [h0]; dsimp only
      split at h
      · rename_i h1; cases h; rw [h1]; exact (by have h9 := cB hQ; exact h9)
      · cases h
    · cases h
  · rename_i heq; rw [heq]; dsimp only
    split at h
    · rename_i k hk
      rw [hk]; dsimp only
      split at h
      · rename_i os ho
        cases h
        exact .inr ⟨_, hy _ _ _ _ ho, fun b m hm => (by have := hQ _ (List.mem_map.2 ⟨_, hm, rfl⟩); exact this)⟩
      · cases h
    · rename_i fv Qd
      split at h
      · rename_i g vs hg
        split at h
        · rename_i r aD DL
          cases h
          unfold Rt at DL
          split at DL
          · rename_i vs' TJ
            split at DL
            · rename_i r1 zO
              cases DL
              split
              · rename_i k hk; exact absurd hk (Qd k)
              · rw [hg]; exact .inl ⟨vs', _, TJ, B9 _ _ _ zO, (by have h9 := cB hQ; exact h9)⟩
            · cases DL
          · cases DL
        · split at h
          · rename_i os ho
            cases h
            split
            · rename_i k hk; exact absurd hk (Qd k)
            · rw [hg]; exact .inr (.inr (.inl ⟨_, hc _ _ _ _ ho, fun b m hm => (by have := hQ _ (List.mem_map.2 ⟨_, hm, rfl⟩); exact this)⟩))
          · split at h
            · rename_i r hr
              cases h
              split
              · rename_i k hk; exact absurd hk (Qd k)
              · rw [hg]; exact .inr (.inr (.inr ⟨r, uE _ _ _ hr, (by have h9 := cB hQ; exact h9)⟩))
            · cases h
      · cases h
  · rename_i heq; rw [heq]; dsimp only
    split at h
    · rename_i h1; cases h; rw [h1]; exact (by have h9 := cB hQ; exact h9)
    · cases h
  · rename_i heq; rw [heq]; dsimp only; cases h; exact (by have h9 := cB hQ; exact h9)
  · rename_i heq; rw [heq]; dsimp only
    split at h
    · rename_i h1; cases h; rw [h1]; exact (by have h9 := cB hQ; exact h9)
    · cases h
  · rename_i heq; rw [heq]; dsimp only
    split at h
    · rename_i h1; cases h; rw [h1]; exact (by have h9 := cB hQ; exact h9)
    · cases h
  · rename_i heq; rw [heq]; dsimp only
    split at h
    · rename_i h1; cases h; rw [h1]; exact (by have h9 := cB hQ; exact h9)
    · cases h
  · rename_i heq; rw [heq]; dsimp only
    split at h
    · rename_i h1; cases h; rw [h1]; exact (by have h9 := cB hQ; exact h9)
    · cases h
  · rename_i heq; rw [heq]; dsimp only
    split at h
    · rename_i h1; cases h; rw [h1]; exact (by have h9 := cB hQ; exact h9)
    · cases h
  · rename_i heq; rw [heq]; dsimp only
    split at h
    · rename_i h1; cases h; rw [h1]; exact (by have h9 := cB hQ; exact h9)
    · cases h
  · rename_i heq; rw [heq]; dsimp only
    exact x9 h hQ
  · rename_i heq; rw [heq]; dsimp only
    split at h
    · rename_i n hn
      rw [hn]; dsimp only
      intro b hb
      split at h
      · cases h; cases b
        · have := hQ _ (List.mem_cons_self ..); exact this
        · have := hQ _ (List.mem_cons_of_mem _ (List.mem_singleton.2 rfl)); exact this
      · rename_i h0; cases h; rw [hb h0]; exact (by have h9 := cB hQ; exact h9)
    · rename_i hn
      rw [hn]; dsimp only
      split at h
      · rename_i h1; cases h; rw [h1]; exact (by have h9 := cB hQ; exact h9)
      · cases h
  · split at h
    · rename_i h1
      cases h
      split <;> first | (rw [h1]; exact (by have h9 := cB hQ; exact h9)) | (exfalso; solve_by_elim)
    · cases h

/-! ### what is computed is written out before it is handed on (the kernel would reckon it anew at each look) -/
def F5 {α β : Type} : List α → (List α → β) → β
  | [], k => k []
  | c :: r, k => F5 r fun r' => k (c :: r')
theorem ke {α β : Type} : ∀ (l : List α) (k : List α → β), F5 l k = k l
  | [], _ => rfl
  | c :: r, k => by rw [F5, ke r]
def gI {β : Type} (n : Nat) (k : Nat → β) : β := Nat.casesOn n (k 0) fun m => k (Nat.succ m)
theorem dN {β : Type} (n : Nat) (k : Nat → β) : gI n k = k n := by cases n <;> rfl
def Ny {β : Type} (n : Int) (k : Int → β) : β := match n with | .ofNat m => gI m fun m' => k (.ofNat m') | .negSucc m => gI m fun m' => k (.negSucc m')
theorem Jy {β : Type} (n : Int) (k : Int → β) : Ny n k = k n := by cases n <;> simp only [Ny,dN]
def Aj {β : Type} (s : ByteArray) (k : ByteArray → β) : β := F5 s.data.toList fun l => k ⟨⟨l⟩⟩
theorem DN {β : Type} (s : ByteArray) (k : ByteArray → β) : Aj s k = k s := by rw [Aj, ke]
def Jz {β : Type} (v : Value) (k : Value → β) : β :=
  match v with
  | .bool true => k (.bool true)
  | .bool false => k (.bool false)
  | .int t n => Ny n fun n' => k (.int t n')
  | .string s => Aj s fun s' => k (.string s')
  | v => k v
theorem Ca {β : Type} (v : Value) (k : Value → β) : Jz v k = k v := by
  unfold Jz
  split
  · rfl
  · rfl
  · rw [Jy]
  · rw [DN]
  · rfl
def fW {β : Type} (v : V) (k : V → β) : β :=
  match v with
  | .undef => k .undef
  | .sc v => k (.sc v)
  | .agg cs => k (.agg cs)
  | .slice r => k (.slice r)
  | .ms a b c d => k (.ms a b c d)
  | .ptr a b => k (.ptr a b)
  | .da a b c d => k (.da a b c d)
  | .cj cs => k (.cj cs)
  | .fM f a b => k (.fM f a b)
  | .bP l => k (.bP l)
  | .gY a => k (.gY a)
  | .mp a => k (.mp a)
  | .gn => k .gn
  | .full r => k (.full r)
theorem L4 {β : Type} (v : V) (k : V → β) : fW v k = k v := by cases v <;> rfl
def Qj {β : Type} : List V → (List V → β) → β
  | [], k => k []
  | c :: r, k => fW c fun c' => Qj r fun r' => k (c' :: r')
theorem vT {β : Type} : ∀ (l : List V) (k : List V → β), Qj l k = k l
  | [], _ => rfl
  | c :: r, k => by rw [Qj, L4, vT r]
mutual
def fV {β : Type} : V → (V → β) → β
  | .undef, k => k .undef
  | .gn, k => k .gn
  | .sc v, k => Jz v fun v' => k (.sc v')
  | .agg cs, k => Cb cs fun mL => k (.agg mL)
  | .bP cs, k => Cb cs fun mL => k (.bP mL)
  | .slice cs, k => Cb cs fun mL => k (.slice mL)
  | .full cs, k => Cb cs fun mL => k (.full mL)
  | .cj cs, k => Cb cs fun mL => k (.cj mL)
  | .fM f a b, k => Cb a fun a' => Cb b fun b' => k (.fM f a' b')
  | .ms a b c d, k => gI a fun a' => gI b fun b' => gI c fun c' => gI d fun d' => k (.ms a' b' c' d')
  | .ptr a b, k => gI a fun a' => gI b fun b' => k (.ptr a' b')
  | .da a b c d, k => gI a fun a' => gI b fun b' => gI c fun c' => gI d fun d' => k (.da a' b' c' d')
  | .gY a, k => gI a fun a' => k (.gY a')
  | .mp a, k => gI a fun a' => k (.mp a')
def Cb {β : Type} : List V → (List V → β) → β
  | [], k => k []
  | c :: r, k => fV c fun c' => Cb r fun r' => k (c' :: r')
end
mutual
theorem yb {β : Type} : ∀ (v : V) (k : V → β), fV v k = k v
  | .undef, _ => by rw [fV]
  | .gn, _ => by rw [fV]
  | .sc v, k => by rw [fV, Ca]
  | .agg cs, k => by rw [fV, kf cs]
  | .bP cs, k => by rw [fV, kf cs]
  | .slice cs, k => by rw [fV, kf cs]
  | .full cs, k => by rw [fV, kf cs]
  | .cj cs, k => by rw [fV, kf cs]
  | .fM f a b, k => by rw [fV, kf a, kf b]
  | .ms a b c d, k => by rw [fV, dN, dN, dN, dN]
  | .ptr a b, k => by rw [fV, dN, dN]
  | .da a b c d, k => by rw [fV, dN, dN, dN, dN]
  | .gY a, k => by rw [fV, dN]
  | .mp a, k => by rw [fV, dN]
theorem kf {β : Type} : ∀ (l : List V) (k : List V → β), Cb l k = k l
  | [], _ => by rw [Cb]
  | c :: r, k => by rw [Cb, yb c, kf r]
end
def JA {β : Type} : List (Value × Nat × V) → (List (Value × Nat × V) → β) → β
  | [], k => k []
  | (a, n, v) :: r, k => Jz a fun a' => gI n fun n' => fV v fun v' => JA r fun r' => k ((a', n', v') :: r')
theorem Cc {β : Type} : ∀ (l : List (Value × Nat × V)) (k : List (Value × Nat × V) → β), JA l k = k l
  | [], _ => rfl
  | (a, n, v) :: r, k => by rw [JA, Ca, dN, yb, Cc r]
def fB {β : Type} (B : aw) (k : aw → β) : β :=
  match B with
  | .hole => k .hole
  | .dead => k .dead
  | .ig => k .ig
  | .box cs => Cb cs fun mL => k (.box mL)
  | .rows v e rs => gI v fun v' => gI e fun e' => Cb rs fun rs' => k (.rows v' e' rs')
  | .mv v e rs => gI v fun v' => gI e fun e' => Cb rs fun rs' => k (.mv v' e' rs')
  | .loop s p fr ps a b => k (.loop s p fr ps a b)
  | .map bm c => JA bm fun kvs' => gI c fun c' => k (.map kvs' c')
  | .eh a b c d => gI a fun a' => gI b fun b' => F5 c fun c' => gI d fun d' => k (.eh a' b' c' d')
  | .gJ s p => gI p fun p' => k (.gJ s p')
theorem Rv {β : Type} (B : aw) (k : aw → β) : fB B k = k B := by
  cases B <;> simp only [fB,kf,dN,Cc,ke]
def Ak {β : Type} : List Nat → List aw → (List aw → β) → β
  | [], m, k => F5 m k
  | i :: r, m, k => match m[i]? with
    | some B => fB B fun B' => Ak r (m.set i B') k
    | none => Ak r m k
theorem oB {β : Type} : ∀ (ks : List Nat) (m : List aw) (k : List aw → β), Ak ks m k = k m
  | [], m, k => ke m k
  | i :: r, m, k => by
    simp only [Ak]
    split
    · rename_i B hB
      rw [Rv, oB r]
      congr 1
      apply List.ext_getElem?
      intro j
      rw [List.getElem?_set]
      split
      · rename_i rP; subst rP
        split
        · exact hB.symm
        · rename_i az; rw [List.getElem?_eq_none (by omega)]
      · rfl
    · exact oB r m k
def uF (o : Oper) : Bool :=
  match o.op with
  | .move _ | .assign _ | .pick .. | .load .. | .extract .. | .nilCheck _ | .field .. => true
  | _ => false
def fD {β : Type} (b : Bool) (v : V) (k : V → β) : β := match b with | true => fW v k | false => fV v k
theorem L5 {β : Type} (b : Bool) (v : V) (k : V → β) : fD b v k = k v := by cases b <;> simp only [fD,L4,yb]
def JB {β : Type} (b : Bool) (d : Option Tmp) (ks : List Nat) (s : St) (k : St → β) : β :=
  match d with
  | some d => fD b (s.fr.getD d .undef) fun v => F5 (if d < s.fr.length then s.fr.set d v else s.fr) fun fr => Ak ks s.mem fun mem => k { fr := fr, mem := mem }
  | none => F5 s.fr fun fr => Ak ks s.mem fun mem => k { fr := fr, mem := mem }
theorem ni {β : Type} (b : Bool) (d : Option Tmp) (ks : List Nat) (s : St) (k : St → β) : JB b d ks s k = k s := by
  unfold JB
  split
  · rename_i d
    rw [L5, ke, oB]
    congr 1
    split
    · rename_i hd
      obtain ⟨fr, mem⟩ := s
      dsimp only at hd ⊢
      congr 1
      apply List.ext_getElem?
      intro j
      rw [List.getElem?_set]
      split
      · rename_i rP; subst rP
        rw [List.getD_eq_getElem?_getD, List.getElem?_eq_getElem hd]; rfl
      · rfl
    · rfl
  · rw [ke, oB]
def JC {β : Type} : List V → Nat → V → (List V → β) → β
  | [], _, _, k => k []
  | _ :: r, 0, v, k => k (v :: r)
  | c :: r, d + 1, v, k => JC r d v fun r' => k (c :: r')
theorem Cd {β : Type} : ∀ (l : List V) (d : Nat) (v : V) (k : List V → β), JC l d v k = k (l.set d v)
  | [], _, _, _ => rfl
  | _ :: _, 0, _, _ => rfl
  | c :: r, d + 1, v, k => by rw [JC, Cd r]; rfl
def Ce {β : Type} (ks : List Nat) (m : List aw) (k : List aw → β) : β := match ks with | [] => k m | _ :: _ => Ak ks m k
theorem yc {β : Type} (ks : List Nat) (m : List aw) (k : List aw → β) : Ce ks m k = k m := by
  unfold Ce
  split
  · rfl
  · rw [oB]
def Nz {β : Type} (b : Bool) (d : Option Tmp) (ks : List Nat) (st : St) (v : V) (m : List aw) (k : St → β) : β :=
  match d with
  | some d => fD b v fun v => JC st.fr d v fun fr => Ce ks m fun mem => k { fr := fr, mem := mem }
  | none => Ce ks m fun mem => k { fr := st.fr, mem := mem }
theorem JD {β : Type} (b : Bool) (d : Option Tmp) (ks : List Nat) (st : St) (v : V) (m : List aw) (k : St → β) : Nz b d ks st v m k = k (St.put { st with mem := m } d v) := by
  unfold Nz
  split
  · rw [L5, Cd, yc]; rfl
  · rw [yc]; rfl
def F6 : V → List Nat
  | .ptr b _ => [b]
  | .da b _ _ _ => [b]
  | .ms b _ _ _ => [b]
  | .mp b => [b]
  | _ => []
def Cf (key : Nat) (o : Oper) (st : St) : List Nat :=
  match o.op with
  | .alloc _ | .box .. | .buildSlice .. | .makeMap .. | .makeSlice .. | .range .. => [key]
  | .store _ p _ => F6 (st.eval p)
  | .call { callee := .builtin .append, args := xs, .. } => match xs.toList with | s :: _ => key :: F6 (st.eval s) | _ => []
  | .call { callee := .builtin .delete, args := xs, .. } => match xs.toList with | s :: _ => F6 (st.eval s) | _ => []
  | .mapUpdate _ m _ _ | .insert _ m _ _ | .mapEntry _ m _ | .entryStore _ m _ _ => F6 (st.eval m)
  | .call { callee := .value _, .. } => [0]
  | .next it _ => F6 (st.eval it)
  | _ => []

def F7 (P : Program) (tt : Table) (nat : lr) (jg : FuncId → List V → Option V) (call : uC) (gY : DK) (all : Array Oper) : List Oper → St → Option (List St)
  | [], st => some [st]
  | o :: r, st => match cT all st.fr o with
    | some true => jx (F3 P tt nat jg call gY st.mem.length o st) fun p => Nz (uF o) o.dst (Cf st.mem.length o st) st p.1 p.2 fun s' => F7 P tt nat jg call gY all r s'
    | some false => F7 P tt nat jg call gY all r (st.put o.dst (.sc undef))
    | none => none
theorem nj {P : Program} {tt : Table} {nat : lr} {jg : FuncId → List V → Option V} (B9 : sx P jg) {call : uC} {gY : DK} (uE : jf P nat) (hc : Ai P call) (hy : F4 P gY) {all : Array Oper} {Q : St → Prop} : ∀ {l : List Oper} {st : St} {outs : List St}, F7 P tt nat jg call gY all l st = some outs → (∀ s ∈ outs, Q s) → dx P tt all l st Q
  | [], st, outs, h, hQ => by cases h; exact hQ _ (by simp)
  | o :: r, st, outs, h, hQ => by
    simp only [F7] at h
    simp only [dx]
    split at h
    · rename_i hw
      rw [hw]
      obtain ⟨l, h1, h2⟩ := dm h
      refine ya B9 uE hc hy h1 fun s hs => ?_
      obtain ⟨b, h3, h4⟩ := h2 s hs
      rw [JD] at h3
      exact nj B9 uE hc hy h3 fun s' kR => hQ _ (h4 _ kR)
    · rename_i hw
      rw [hw]
      exact nj B9 uE hc hy h hQ
    · cases h

/-! ### all rows frozen -/
def cM : Nat → List aw → List (Nat × Nat)
  | _, [] => []
  | i, .rows v _ _ :: r => (i, v) :: cM (i + 1) r
  | i, .mv v _ _ :: r => (i, v) :: cM (i + 1) r
  | i, _ :: r => cM (i + 1) r
theorem kg : ∀ {m : List aw} {n k v e : Nat} {rs : List V}, (m[k]? = some (.rows v e rs) ∨ m[k]? = some (.mv v e rs)) → (n + k, v) ∈ cM n m
  | [], n, k, v, e, rs, h => by simp at h
  | B :: r, n, 0, v, e, rs, h => by
    simp only [List.getElem?_cons_zero,Option.some.injEq] at h
    rcases h with rfl | rfl <;> simp [cM]
  | B :: r, n, k + 1, v, e, rs, h => by
    simp only [List.getElem?_cons_succ] at h
    have := kg (n := n + 1) h
    rw [show n + 1 + k = n + (k + 1) from by omega] at this
    cases B <;> simp only [cM] <;> first | exact this | exact List.mem_cons_of_mem _ this
def gy (mem : List aw) (v : V) : V := match bU mem v with | some v' => v' | none => v
def NA (mem : List aw) : V → V
  | .agg cs => .agg (cs.map (gy mem))
  | .bP vs => .bP (vs.map fun v => match v with | .agg cs => .agg (cs.map (gy mem)) | v => gy mem v)
  | v => gy mem v
def Al (mem : List aw) : aw → aw
  | .box cs => .box (cs.map (gy mem))
  | B => B
def Cg (st : St) : Option St :=
  let keys := cM 0 st.mem
  match cy st.mem (keys.map fun (k : Nat × Nat) => V.ms k.1 k.2 0 0) with
  | some _ => some { fr := st.fr.map (NA st.mem), mem := (bT st.mem keys).map (Al st.mem) }
  | none => none
theorem Ch : ∀ (keys : List (Nat × Nat)), (keys.map fun (k : Nat × Nat) => V.ms k.1 k.2 0 0).flatMap cp = keys
  | [] => rfl
  | k :: r => by simp [cp, ek, Ch r]
theorem DO {mem : List aw} {B : aw} (h : ∀ cs, B ≠ .box cs) : Al mem B = B := by
  cases B <;> first | rfl | exact absurd rfl (h _)
theorem Am (mem : List aw) (B : aw) : (Al mem B).aA = B.aA := by cases B <;> rfl
theorem yd {E : Env} {w : World} {a : Act} {st st' : St} (hs : aZ E w a st) (h : Cg st = some st') : ∃ E', aZ E' w a st' ∧ dn E w E' w := by
  unfold Cg at h
  dsimp only at h
  split at h
  · rename_i vs' hp
    cases h
    obtain ⟨ks, L6⟩ : ∃ ks, ks = ((cM 0 st.mem).map (fun (k : Nat × Nat) => V.ms k.1 k.2 0 0)).flatMap cp := ⟨_, rfl⟩
    have Rw : dn E w (E.jM w ks) w ∧ aZ (E.jM w ks) w a { st with mem := bT st.mem ks } := by
      subst L6
      obtain ⟨hg, h1, h2⟩ := rY hs hp (F' := (E.jM w (((cM 0 st.mem).map (fun (k : Nat × Nat) => V.ms k.1 k.2 0 0)).flatMap cp)).F) (fun _ _ h => h) (fun ad y h => Env.BV hs.F h) (fun _ _ h => .inl h) (Go.RowKit.Below.refl _ w)
      exact ⟨h1, h2⟩
    rw [Ch] at L6
    subst L6
    obtain ⟨dq, jn⟩ := Rw
    have kZ : ∀ {v : V} {x : Value}, aW E v x → aW (E.jM w (cM 0 st.mem)) (gy st.mem v) x := fun {v x} hr => by
      unfold gy
      split
      · rename_i v' hv
        refine (jd hs hr hv fun k hk => ?_).mono (Env.lW _)
        cases v <;> simp only [ek,List.mem_singleton,List.not_mem_nil] at hk
        subst hk
        simp only [bU] at hv
        split at hv
        · rename_i hm
          split at hv
          · rename_i hc; have := kg (n := 0) (.inl hm); rw [Nat.zero_add, hc.1] at this; exact this
          · cases hv
        · rename_i hm
          split at hv
          · rename_i hc; have := kg (n := 0) (.inr hm); rw [Nat.zero_add, hc.1] at this; exact this
          · cases hv
        · cases hv
      · exact hr.mono (Env.o9 E w _)
    have Ja : ∀ {cs : List V} {xs : List Value}, aP E cs xs → aP (E.jM w (cM 0 st.mem)) (cs.map (gy st.mem)) xs := fun {cs xs} hr => by
      refine ⟨by simpa using hr.1, fun i c x hc hx => ?_⟩
      simp only [List.getElem?_map,Option.map_eq_some_iff] at hc
      obtain ⟨c0, An, rfl⟩ := hc
      exact kZ (hr.2 i c0 x An hx)
    have h1 : ∀ {v : V} {x : Value}, aW E v x → aW (E.jM w (cM 0 st.mem)) (match v with | .agg cs => .agg (cs.map (gy st.mem)) | v => gy st.mem v) x := fun {v x} hr => by
      split
      · rename_i cs
        cases hr with
        | agg _ cs xs hl hh =>
          have := Ja (cs := cs) (xs := xs.toList) ⟨by simpa using hl, fun i c x hc hx => hh i c x hc (by simpa using hx)⟩
          exact .agg _ _ _ (by simpa using this.1) fun i c x hc hx => this.2 i c x hc (by simpa using hx)
      · exact kZ hr
    have hV : ∀ {v : V} {x : Value}, aW E v x → aW (E.jM w (cM 0 st.mem)) (NA st.mem v) x := fun {v x} hr => by
      unfold NA
      split
      · exact h1 (v := .agg _) hr
      · rename_i vs
        cases hr with
        | bP _ vs xs hl hh =>
          refine .bP _ _ _ (by simpa using hl) fun i c x hc hx => ?_
          simp only [List.getElem?_map,Option.map_eq_some_iff] at hc
          obtain ⟨c0, An, rfl⟩ := hc
          exact h1 (hh i c0 x An hx)
      · exact kZ hr
    refine ⟨_, ⟨jn.F, jn.lt, fun k B hk => ?_, fun k hk => jn.top k (by simpa using hk), fun k B hk v hv => ?_, jn.apart, ⟨by simpa using hs.fr.1, fun i v x hv hx => ?_⟩⟩, dq⟩
    · simp only [List.getElem?_map,Option.map_eq_some_iff] at hk
      obtain ⟨B0, uo, rfl⟩ := hk
      have h0 := jn.mem k B0 uo
      by_cases Rx : ∃ cs, B0 = .box cs
      · obtain ⟨cs, rfl⟩ := Rx
        have hold : st.mem[k]? = some (.box cs) := by
          rw [jV] at uo
          cases IH : st.mem[k]? with
          | none => rw [IH] at uo; simp [iQ] at uo
          | some B1 =>
            rw [IH] at uo
            cases B1 <;> simp only [iQ] at uo <;> first | exact uo | (split at uo <;> cases uo)
        obtain ⟨g, T, xs, q1, q2, q3, q4⟩ := h0
        obtain ⟨g', T', nS, r1, r2, r3, r4⟩ := hs.mem k _ hold
        have : g = g' := by
          have := dq.le.aK _ _ _ r1
          have e : (E.jM w (cM 0 st.mem)).aK k 0 = some (g, 0, 0) := q1
          have e2 : (E.jM w (cM 0 st.mem)).aK k 0 = some (g', 0, 0) := this
          rw [e] at e2; cases e2; rfl
        subst this
        rw [r2] at q2; cases q2
        exact ⟨g, T, xs, q1, r2, Ja r3, q4⟩
      · rw [DO fun cs e => Rx ⟨cs, e⟩]; exact h0
    · simp only [List.getElem?_map,Option.map_eq_some_iff] at hk
      obtain ⟨B0, uo, rfl⟩ := hk
      rw [Am] at hv
      exact jn.aA k B0 uo v hv
    · simp only [List.getElem?_map,Option.map_eq_some_iff] at hv
      obtain ⟨v0, EY, rfl⟩ := hv
      exact hV (hs.fr.2 i v0 x EY hx)
  · cases h
theorem Ao {P : Program} {ρ : Option Nat} {n0 : Nat} {c : Code} {st st' : St} {Q : Exit → St → Prop} (hf : Cg st = some st') (h : gx P ρ n0 c st' Q) : gx P ρ n0 c st Q := fun E0 w0 h0 E w a he hs fK => by
  obtain ⟨E', h1, h2⟩ := yd hs hf
  exact h E0 w0 h0 E' w a (he.trans h2) h1 (fK.E5 h2)

/-! ### regions that draw -/
abbrev lu := FuncId → List V → Option V
abbrev qu := FuncId → List V → Option (Nat × List V)
def vU (P : Program) (live : qu) : Prop := ∀ f vs e rs, live f vs = some (e, rs) → si P f vs e rs
def Ap (live : qu) (o : Oper) (key : Nat) (st : St) : Option St :=
  match o.op with
  | .call { callee := .value f, args := xs, .. } => match bf (st.eval f) (xs.toList.map st.eval) with
    | some (g, vs) => match cy [] vs with
      | some vs' => match live g vs' with
        | some (e, rs) => some (sj st key o.dst e rs)
        | none => none
      | none => none
    | none => none
  | _ => none
theorem vV {P : Program} {live : qu} (hl : vU P live) {o : Oper} {key : Nat} {st s : St} {Q : St → Prop} (h : Ap live o key st = some s) (hQ : Q s) : ng P o key st Q := by
  unfold Ap at h
  unfold ng
  split at h
  · rename_i heq; rw [heq]; dsimp only
    split at h
    · rename_i g vs hg
      rw [hg]; dsimp only
      split at h
      · rename_i vs' hv
        split at h
        · rename_i e rs hr
          cases h
          exact ⟨vs', e, rs, hv, hl _ _ _ _ hr, hQ⟩
        · cases h
      · cases h
    · cases h
  · cases h
def pn (P : Program) (pure : lu) : Prop := ∀ f vs r, pure f vs = some r → aQ P f vs r
def JE (P : Program) (tt : Table) (nat : lr) (pure : lu) (o : Oper) (tS st : St) : Option St :=
  match o.op with
  | .call { callee := .value f, args := xs, .. } => match bf (tS.eval f) (xs.toList.map tS.eval) with
    | some (g, vs) => match cy [] vs with
      | some vs' => match pure g vs' with
        | some r => some (st.put o.dst r)
        | none => match nat g vs' with
          | some r => some (st.put o.dst r)
          | none => none
      | none => none
    | none => none
  | _ => match qP P tt o tS with
    | some v => some (st.put o.dst v)
    | none => none
theorem sy {P : Program} {tt : Table} {nat : lr} (uE : jf P nat) {pure : lu} (hp : pn P pure) {o : Oper} {tS st s : St} {Q : St → Prop} (h : JE P tt nat pure o tS st = some s) (hQ : Q s) : vP P tt o tS st Q := by
  unfold JE at h
  unfold vP
  split at h
  · rename_i heq; rw [heq]; dsimp only
    split at h
    · rename_i g vs hg
      rw [hg]; dsimp only
      split at h
      · rename_i vs' hv
        split at h
        · rename_i r hr
          cases h
          exact ⟨vs', r, hv, .inl (hp _ _ _ hr), hQ⟩
        · split at h
          · rename_i r hr
            cases h
            exact ⟨vs', r, hv, .inr (uE _ _ _ hr), hQ⟩
          · cases h
      · cases h
    · cases h
  · split at h
    · rename_i h1
      cases h
      split
      · exfalso; solve_by_elim
      · rw [h1]; exact hQ
    · cases h
def Aq (P : Program) (tt : Table) (nat : lr) (pure : lu) (live : qu) (all : Array Oper) (base : Nat) (o : Oper) (p : Pl) (st : St) : Option St :=
  match cT all st.fr o with
  | some true => match p.cls with
    | .n => JE P tt nat pure o { st with mem := [] } st
    | .r => JE P tt nat pure o { st with mem := di (p.mask.map (base + ·) ++ p.abs) st.mem } st
    | .a => if isHole st.mem (base + p.key) = true then (match ef tt o (base + p.key) st with
      | some (B, v) => some (St.put { st with mem := st.mem.set (base + p.key) B } o.dst v)
      | none => Ap live o (base + p.key) st) else none
    | .w => if isHole st.mem (base + p.key) = true then (match oq P tt (base + p.key) o st with
      | some (m, v) => some (St.put { st with mem := m } o.dst v)
      | none => none) else none
    | .s => match qQ tt (base + p.key) o st with
      | some m => some (St.put { st with mem := m } o.dst (.sc undef))
      | none => none
    | .b => match kJ tt o st with
      | some v => some (st.put o.dst v)
      | none => none
    | .z => none
    | .e => none
  | some false => some (st.put o.dst (.sc undef))
  | none => none
theorem vW {P : Program} {tt : Table} {nat : lr} (uE : jf P nat) {pure : lu} {live : qu} (hp : pn P pure) (hl : vU P live) {all : Array Oper} {base : Nat} {o : Oper} {p : Pl} {st s : St} {Q : St → Prop} (h : Aq P tt nat pure live all base o p st = some s) (hQ : Q s) : dI P tt all base o p st Q := by
  unfold Aq at h
  unfold dI
  split at h
  · rename_i hw; rw [hw]; dsimp only
    split at h
    · rename_i jo; rw [jo]; exact sy uE hp h hQ
    · rename_i jo; rw [jo]; exact sy uE hp h hQ
    · rename_i jo; rw [jo]; dsimp only
      split at h
      · rename_i hh
        refine ⟨hh, ?_⟩
        split at h
        · rename_i h1; cases h; rw [h1]; exact hQ
        · rename_i h1; rw [h1]; exact vV hl h hQ
      · cases h
    · rename_i jo; rw [jo]; dsimp only
      split at h
      · rename_i hh
        refine ⟨hh, ?_⟩
        split at h
        · rename_i h1; cases h; rw [h1]; exact hQ
        · cases h
      · cases h
    · rename_i jo; rw [jo]; dsimp only
      split at h
      · rename_i h1; cases h; rw [h1]; exact hQ
      · cases h
    · rename_i jo; rw [jo]; dsimp only
      split at h
      · rename_i h1; cases h; rw [h1]; exact hQ
      · cases h
    · cases h
    · cases h
  · rename_i hw; rw [hw]; cases h; exact hQ
  · cases h
def ye (P : Program) (tt : Table) (nat : lr) (pure : lu) (live : qu) (all : Array Oper) (base : Nat) : List Oper → List Pl → St → Option St
  | [], _, st => some st
  | o :: r, p :: ps, st => match Aq P tt nat pure live all base o p st with
    | some s => JB (uF o) o.dst (Cf (base + p.key) o st) s fun s' => ye P tt nat pure live all base r ps s'
    | none => none
  | _ :: _, [], _ => none
theorem qv {P : Program} {tt : Table} {nat : lr} (uE : jf P nat) {pure : lu} {live : qu} (hp : pn P pure) (hl : vU P live) {all : Array Oper} {base : Nat} {Q : St → Prop} : ∀ {l : List Oper} {ps : List Pl} {st s : St}, ye P tt nat pure live all base l ps st = some s → Q s → runM P tt all base l ps st Q
  | [], _, st, s, h, hQ => by cases h; exact hQ
  | o :: r, p :: ps, st, s, h, hQ => by
    simp only [ye] at h
    simp only [runM]
    split at h
    · rename_i s1 h1
      rw [ni] at h
      exact vW uE hp hl h1 (qv uE hp hl h hQ)
    · cases h
  | _ :: _, [], _, _, h, _ => by simp [ye] at h

/-! ### code -/
mutual
def NB : V → Nat
  | .ms b _ _ _ | .ptr b _ | .gY b | .mp b | .da b _ _ _ => b + 1
  | .agg cs | .bP cs => DP cs
  | .fM _ a b => max (DP a) (DP b)
  | _ => 0
def DP : List V → Nat
  | [] => 0
  | c :: r => max (NB c) (DP r)
end
def UY : aw → Nat
  | .box cs => DP cs
  | .loop _ _ fr _ _ _ => DP fr
  | .map bm _ => bm.foldr (fun k n => max (NB k.2.2) n) 0
  | .eh m _ _ _ => m + 1
  | _ => 0
def Ry (l : List aw) : Nat := l.foldr (fun B n => max (UY B) n) 0
def NC : Nat → Nat → List aw → Nat
  | 0, n, _ => n
  | k + 1, n, mem => let m := max n (Ry (mem.take n)); if m = n then n else NC k m mem
def Rz (lo : Nat) (r : V) (mem : List aw) : Option (V × List aw) :=
  let n := NC 8 (max lo (NB r)) mem
  if lo ≤ n ∧ ai n r = true ∧ (mem.take n).all (aB n) = true then some (r, mem.take n) else none

def ri : Exit → Bool
  | .ret => true
  | .normal => true
  | _ => false
def Ci : Value → Value → Bool
  | .agg a, .agg b => iR a.toList b.toList
  | .tuple a, .tuple b => iR a.toList b.toList
  | .func (.func f) a b, .func (.func g) c d => f == g && a.isEmpty && b.isEmpty && c.isEmpty && d.isEmpty
  | a, b => vK a b
theorem yf {a b : Value} (h : Ci a b = true) : a = b := by
  unfold Ci at h
  split at h
  · rename_i x y; rw [← Array.toArray_toList (xs := x), kc h, Array.toArray_toList]
  · rename_i x y; rw [← Array.toArray_toList (xs := x), kc h, Array.toArray_toList]
  · simp only [Bool.and_eq_true,beq_iff_eq,Array.isEmpty_iff] at h
    obtain ⟨⟨⟨⟨rfl, rfl⟩, rfl⟩, rfl⟩, rfl⟩ := h
    rfl
  · exact ur h
mutual
def fg : V → V → Bool
  | .undef, .undef => true
  | .gn, .gn => true
  | .sc a, .sc b => Ci a b
  | .agg a, .agg b => fc a b
  | .bP a, .bP b => fc a b
  | .slice a, .slice b => fc a b
  | .full a, .full b => fc a b
  | .cj a, .cj b => fc a b
  | .ms a b c d, .ms a' b' c' d' => a == a' && b == b' && c == c' && d == d'
  | .ptr a b, .ptr a' b' => a == a' && b == b'
  | .da a b c d, .da a' b' c' d' => a == a' && b == b' && c == c' && d == d'
  | .mp a, .mp b => a == b
  | .gY a, .gY b => a == b
  | .fM (.func f) a b, .fM (.func g) c d => f == g && fc a c && fc b d
  | _, _ => false
def fc : List V → List V → Bool
  | [], [] => true
  | a :: r, b :: s => fg a b && fc r s
  | _, _ => false
end
mutual
theorem oC : ∀ {a b : V}, fg a b = true → a = b
  | .undef, b, h => by cases b <;> simp [fg] at h <;> rfl
  | .gn, b, h => by cases b <;> simp [fg] at h <;> rfl
  | .sc a, b, h => by
    cases b <;> simp only [fg,Bool.false_eq_true] at h
    rw [yf h]
  | .agg a, b, h => by
    cases b <;> simp only [fg,Bool.false_eq_true] at h
    rw [dz h]
  | .bP a, b, h => by
    cases b <;> simp only [fg,Bool.false_eq_true] at h
    rw [dz h]
  | .slice a, b, h => by
    cases b <;> simp only [fg,Bool.false_eq_true] at h
    rw [dz h]
  | .full a, b, h => by
    cases b <;> simp only [fg,Bool.false_eq_true] at h
    rw [dz h]
  | .cj a, b, h => by
    cases b <;> simp only [fg,Bool.false_eq_true] at h
    rw [dz h]
  | .ms _ _ _ _, b, h => by
    cases b <;> simp only [fg,Bool.false_eq_true,Bool.and_eq_true,beq_iff_eq] at h
    obtain ⟨⟨⟨rfl, rfl⟩, rfl⟩, rfl⟩ := h; rfl
  | .ptr _ _, b, h => by
    cases b <;> simp only [fg,Bool.false_eq_true,Bool.and_eq_true,beq_iff_eq] at h
    obtain ⟨rfl, rfl⟩ := h; rfl
  | .da _ _ _ _, b, h => by
    cases b <;> simp only [fg,Bool.false_eq_true,Bool.and_eq_true,beq_iff_eq] at h
    obtain ⟨⟨⟨rfl, rfl⟩, rfl⟩, rfl⟩ := h; rfl
  | .mp _, b, h => by
    cases b <;> simp only [fg,Bool.false_eq_true,beq_iff_eq] at h
    rw [h]
  | .gY _, b, h => by
    cases b <;> simp only [fg,Bool.false_eq_true,beq_iff_eq] at h
    rw [h]
  | .fM f a c, b, h => by
    cases b with
    | fM g a' c' =>
      cases f <;> cases g <;> simp only [fg,Bool.false_eq_true,Bool.and_eq_true,beq_iff_eq] at h
      obtain ⟨⟨rfl, h1⟩, h2⟩ := h
      rw [dz h1, dz h2]
    | _ => cases f <;> simp [fg] at h
theorem dz : ∀ {a b : List V}, fc a b = true → a = b
  | [], b, h => by cases b <;> simp [fc] at h <;> rfl
  | c :: r, b, h => by
    cases b with
    | nil => simp [fc] at h
    | cons d s =>
      simp only [fc,Bool.and_eq_true] at h
      rw [oC h.1, dz h.2]
end
def l9 : List (Value × Nat × V) → List (Value × Nat × V) → Bool
  | [], [] => true
  | a :: r, b :: s => Ci a.1 b.1 && a.2.1 == b.2.1 && fg a.2.2 b.2.2 && l9 r s
  | _, _ => false
theorem sA : ∀ {a b : List (Value × Nat × V)}, l9 a b = true → a = b
  | [], [], _ => rfl
  | (k, n, v) :: r, (k', n', v') :: s, h => by
    simp only [l9,Bool.and_eq_true,beq_iff_eq] at h
    obtain ⟨⟨⟨h1, h2⟩, h3⟩, h4⟩ := h
    rw [yf h1, h2, oC h3, sA h4]
  | [], _ :: _, h => by simp [l9] at h
  | _ :: _, [], h => by simp [l9] at h
def F8 : aw → aw → Bool
  | .hole, .hole => true
  | .dead, .dead => true
  | .ig, .ig => true
  | .box a, .box b => fc a b
  | .rows v e a, .rows v' e' b => v == v' && e == e' && fc a b
  | .mv v e a, .mv v' e' b => v == v' && e == e' && fc a b
  | .map a c, .map b d => c == d && l9 a b
  | .eh a b c d, .eh a' b' c' d' => a == a' && b == b' && c == c' && d == d'
  | _, _ => false
theorem F9 {a b : aw} (h : F8 a b = true) : a = b := by
  unfold F8 at h
  split at h
  · rfl
  · rfl
  · rfl
  · rw [dz h]
  · simp only [Bool.and_eq_true,beq_iff_eq] at h; obtain ⟨⟨rfl, rfl⟩, h⟩ := h; rw [dz h]
  · simp only [Bool.and_eq_true,beq_iff_eq] at h; obtain ⟨⟨rfl, rfl⟩, h⟩ := h; rw [dz h]
  · simp only [Bool.and_eq_true,beq_iff_eq] at h; obtain ⟨rfl, h⟩ := h; rw [sA h]
  · simp only [Bool.and_eq_true,beq_iff_eq] at h; obtain ⟨⟨⟨rfl, rfl⟩, rfl⟩, rfl⟩ := h; rfl
  · cases h
def po : List aw → List aw → Bool
  | [], [] => true
  | a :: r, b :: s => F8 a b && po r s
  | _, _ => false
theorem uG : ∀ {a b : List aw}, po a b = true → a = b
  | [], [], _ => rfl
  | x :: r, y :: s, h => by simp only [po,Bool.and_eq_true] at h; rw [F9 h.1, uG h.2]
  | [], _ :: _, h => by simp [po] at h
  | _ :: _, [], h => by simp [po] at h
def dedup : List (V × List aw) → List (V × List aw)
  | [] => []
  | p :: r => if (dedup r).any (fun q => fg p.1 q.1 && po p.2 q.2) = true then dedup r else p :: dedup r
theorem pq : ∀ {l : List (V × List aw)} {p : V × List aw}, p ∈ l → p ∈ dedup l
  | q :: r, p, h => by
    simp only [dedup]
    split
    · rename_i M5
      rcases List.mem_cons.1 h with rfl | h
      · obtain ⟨q', h1, h2⟩ := List.any_eq_true.1 M5
        simp only [Bool.and_eq_true] at h2
        have : p = q' := Prod.ext (oC h2.1) (uG h2.2)
        rw [this]; exact h1
      · exact pq h
    · rcases List.mem_cons.1 h with rfl | h
      · exact List.mem_cons_self ..
      · exact List.mem_cons_of_mem _ (pq h)
def RA (P : Program) (tt : Table) (code : jw) : uC := fun f vs mem =>
  match P.funcs[f]? with
  | some fn => match fn.body with
    | some body => (jx (Qj vs fun vs => F5 mem fun mem => JB true none [] (eo fn vs mem) fun s => code false body s) fun o => if ri o.1 = true then (match ix tt fn.results o.2 with
      | some r => fV r fun r => match Rz mem.length r o.2.mem with | some p => F5 p.2 fun m => some [(p.1, m)] | none => none
      | none => none) else none).map dedup
    | none => none
  | none => none
def yg (P : Program) (tt : Table) (code : jw) : lu := fun f vs =>
  match P.funcs[f]? with
  | some fn => match fn.body with
    | some body => match jx (Qj vs fun vs => JB true none [] (eo fn vs []) fun s => code false body s) fun o => if ri o.1 = true then (match tQ tt fn.results o.2 with | some r => fV r fun r => some [r] | none => none) else none with
      | some (r :: rs) => if rs.all (fg r) = true then some r else none
      | _ => none
    | none => none
  | none => none
def Ar : List (V × List aw) → Option (Nat × Nat × List V)
  | [(.ms 0 v 0 l, [.rows v' e rs])] => if v' = v ∧ l = rs.length then some (v, e, rs) else none
  | [(.ms 0 v 0 0, [.rows v' e []]), (.sc (.slice none 0 0), [])] => if v' = v then some (v, e, []) else none
  | [(.sc (.slice none 0 0), []), (.ms 0 v 0 0, [.rows v' e []])] => if v' = v then some (v, e, []) else none
  | _ => none
theorem As {outs : List (V × List aw)} {v e : Nat} {rs : List V} (h : Ar outs = some (v, e, rs)) : ∀ r m, (r, m) ∈ outs → (r = .ms 0 v 0 rs.length ∧ m = [.rows v e rs]) ∨ (r = .sc (.slice none 0 0) ∧ m = [] ∧ rs = []) := by
  unfold Ar at h
  split at h
  · split at h
    · rename_i hc; cases h; obtain ⟨rfl, rfl⟩ := hc
      intro r m hm; simp at hm; exact .inl hm
    · cases h
  · split at h
    · rename_i hc; cases h; subst hc
      intro r m hm; simp at hm
      rcases hm with ⟨rfl, rfl⟩ | ⟨rfl, rfl⟩
      · exact .inl ⟨rfl, rfl⟩
      · exact .inr ⟨rfl, rfl, rfl⟩
    · cases h
  · split at h
    · rename_i hc; cases h; subst hc
      intro r m hm; simp at hm
      rcases hm with ⟨rfl, rfl⟩ | ⟨rfl, rfl⟩
      · exact .inr ⟨rfl, rfl, rfl⟩
      · exact .inl ⟨rfl, rfl⟩
    · cases h
  · cases h
theorem gA.live {P : Program} {f : FuncId} {vs : List V} {R : V → List aw → Prop} {v e : Nat} {rs : List V} (h : gA P f vs [] R) (hR : ∀ r m, R r m → (r = .ms 0 v 0 rs.length ∧ m = [.rows v e rs]) ∨ (r = .sc (.slice none 0 0) ∧ m = [] ∧ rs = [])) : si P f vs e rs := by
  refine ⟨v, h.1, fun E w xs hs hx => (h.2 E w xs hs hx).mono ?_⟩
  rintro en w' ⟨E', x, r, m, rfl, hr, dq, kR, od⟩
  rcases hR r m hr with ⟨rfl, rfl⟩ | ⟨rfl, rfl, rfl⟩
  · exact ⟨E', x, rfl, dq, kR, od⟩
  · obtain rfl := bZ od
    exact ⟨E', _, rfl, dq, by simpa using kR.lq v e, .dc _ _ _ _⟩
def Ga (P : Program) (tt : Table) (code : jw) : qu := fun f vs =>
  match RA P tt code f vs [] with
  | some outs => match Ar outs with | some (_, e, rs) => some (e, rs) | none => none
  | none => none
def Gb (lo : Nat) (b : Bool) (m : List aw) : Option (List (Bool × List aw)) :=
  let n := NC 8 lo m
  if lo ≤ n ∧ (m.take n).all (aB n) = true then F5 (m.take n) fun m => some [(b, m)] else none
theorem Au {lo : Nat} {b : Bool} {m : List aw} {x : List (Bool × List aw)} (h : Gb lo b m = some x) : ∃ n, lo ≤ n ∧ (m.take n).all (aB n) = true ∧ (b, m.take n) ∈ x := by
  unfold Gb at h
  dsimp only at h
  split at h
  · rename_i hc; rw [ke] at h; cases h; exact ⟨_, hc.1, hc.2, by simp⟩
  · cases h
def ND (code : jw) : DK := fun k vs mem =>
  match mem[k]? with
  | some (.loop .ready none fr params assign body) =>
    if vs.length = params.size then
      jx (Qj vs fun vs => JB true none [] { fr := uu params.toList vs fr, mem := mem } fun s => code true assign s) fun o => match o.1, o.2.mem[k]? with
        | .normal, some (.loop .ready none LV p1 Jn Jo) =>
          jx (JB true none [] { o.2 with mem := o.2.mem.set k (.loop .busy none LV p1 Jn Jo) } fun s => code true body s) fun u => match zX u.1, u.2.mem[k]? with
            | some jump, some (.loop _ _ Jp p2 FK FL) =>
              Gb mem.length jump.isNone (u.2.mem.set k (.loop (if jump.isNone then .ready else .done) jump Jp p2 FK FL))
            | _, _ => none
        | _, _ => none
    else none
  | _ => none
def JF : LoopState → Bool
  | .busy => false
  | _ => true

def pw {α : Type} (f : α → Option (List (Exit × St))) : List α → Option (List (Exit × St))
  | [] => none
  | a :: r => match f a with | some x => some x | none => pw f r
theorem qw {α : Type} {f : α → Option (List (Exit × St))} : ∀ {l : List α} {x : List (Exit × St)}, pw f l = some x → ∃ a ∈ l, f a = some x
  | [], x, h => by cases h
  | a :: r, x, h => by
    simp only [pw] at h
    split at h
    · rename_i hx; cases h; exact ⟨a, List.mem_cons_self .., hx⟩
    · obtain ⟨b, h1, h2⟩ := qw h; exact ⟨b, List.mem_cons_of_mem _ h1, h2⟩
def NF (jg : FuncId → List V → Option V) (pure : lu) : lu := fun f vs => match jg f vs with | some r => some r | none => pure f vs
theorem JG {P : Program} {jg : FuncId → List V → Option V} {pure : lu} (h : sx P jg) (hp : pn P pure) : pn P (NF jg pure) := fun f vs r hr => by
  unfold NF at hr
  split at hr
  · rename_i r' h1; cases hr; exact h _ _ _ h1
  · exact hp _ _ _ hr
def JH (P : Program) (tt : Table) (nat : lr) (jg : FuncId → List V → Option V) (code : jw) (ops : Array Oper) (st : St) (p : List Pl × Nat) : Option (List (Exit × St)) :=
  if ss ops p.1 = true then (match ye P tt nat (NF jg (yg P tt code)) (Ga P tt code) ops st.mem.length ops.toList p.1 { st with mem := st.mem ++ List.replicate p.2 .hole } with
    | some s => some [(.normal, s)]
    | none => none) else none
def jh (P : Program) (tt : Table) (pl : xZ) (nat : lr) (jg : FuncId → List V → Option V) (code : jw) : jw := fun ρ c st =>
  match c with
  | .skip => some [(.normal, st)]
  | .ret => some [(.ret, st)]
  | .exit id => some [(.exit id, st)]
  | .seq a b => jx (code ρ a st) fun o => match o.1 with
    | .normal => code ρ b o.2
    | e => some [(e, o.2)]
  | .cond x a b => match st.eval x with
    | .sc (.bool t) => code ρ (if t = true then a else b) st
    | _ => none
  | .block id c => jx (code ρ c st) fun o => match o.1 with
    | .exit j => if j = id then some [(.normal, o.2)] else some [(.exit j, o.2)]
    | e => some [(e, o.2)]
  | .loop c => jx (code ρ c st) fun o => match o.1 with
    | .normal => code ρ (.loop c) o.2
    | e => some [(e, o.2)]
  | .region _ ops false => jx (F7 P tt nat jg (RA P tt code) (ND code) ops ops.toList st) fun s => some [(.normal, s)]
  | .region id ops true => match pw (JH P tt nat jg code ops st) (pl id ops) with
    | some x => some x
    | none => match Cg st with
      | some st' => pw (JH P tt nat jg code ops st') (pl id ops)
      | none => none
  | .rangeFunc f params assign body => if ρ = true then none else
    match bf (st.eval f) [.gY st.mem.length] with
    | some (g, vs) => jx (RA P tt code g vs (st.mem ++ [.loop .ready none st.fr params assign body])) fun o => match o.2[st.mem.length]? with
      | some (.loop s iY _ _ _ _) => if JF s = true then (match iY with
        | none => JB true none [] { st with mem := o.2.set st.mem.length .dead } fun s => some [(.normal, s)]
        | some c => JB true none [] { st with mem := o.2.set st.mem.length .dead } fun s => code false c s) else none
      | _ => none
    | none => none
  | _ => none

def ev (P : Program) (tt : Table) (pl : xZ) (nat : lr) (jg : FuncId → List V → Option V) (n : Nat) : jw := Nat.rec (fun _ _ _ => none) (fun _ r => jh P tt pl nat jg r) n

def sB (P : Program) (code : jw) : Prop := ∀ b c st outs, code b c st = some outs → ∀ (ρ : Option Nat) (n0 : Nat) (Q : Exit → St → Prop), (b = true ∨ ρ = none) → (∀ o ∈ outs, Q o.1 o.2) → gx P ρ n0 c st Q

section
variable {P : Program} {tt : Table} {pl : xZ} {nat : lr} {jg : FuncId → List V → Option V} (ht : TT P tt) (hm : P.follows .mixedOrders = true)
  (dy : ∀ (f : FuncId) (fn : Func) (body : Code), P.funcs[f]? = some fn → fn.body = some body → ∀ (xs : Array Value) (w : World), (callFunc f xs).run P w = .ok (.enter f xs) w)
include ht dy
theorem Av {code : jw} (L7 : sB P code) : Ai P (RA P tt code) := by
  intro f vs mem outs h
  unfold RA at h
  split at h
  · rename_i fn hf
    split at h
    · rename_i body hb
      rw [Option.map_eq_some_iff] at h
      obtain ⟨Xc, h, L3⟩ := h
      obtain ⟨l, h1, h2⟩ := dm h
      rw [vT, ke, ni] at h1
      refine FI ht hf hb (dy f fn body hf hb) (L7 _ _ _ _ h1 none _ _ (.inr rfl) fun o ho => ?_)
      obtain ⟨b, h3, h4⟩ := h2 o ho
      split at h3
      · rename_i he
        split at h3
        · rename_i r hr
          rw [yb] at h3
          split at h3
          · rename_i p hp
            rw [ke] at h3
            cases h3
            unfold Rz at hp
            dsimp only at hp
            split at hp
            · rename_i ob
              cases hp
              refine ⟨?_, r, _, ob.1, hr, ob.2.1, ob.2.2, by rw [← L3]; exact pq (h4 _ (by simp))⟩
              cases P5 : o.1 <;> simp [ri, P5] at he <;> simp
            · cases hp
          · cases h3
        · cases h3
      · cases h3
    · cases h
  · cases h
theorem yh {code : jw} (L7 : sB P code) : pn P (yg P tt code) := by
  intro f vs r h
  unfold yg at h
  split at h
  · rename_i fn hf
    split at h
    · rename_i body hb
      split at h
      · rename_i r1 rs Fq
        split at h
        · rename_i aV
          cases h
          obtain ⟨l, h1, h2⟩ := dm Fq
          rw [vT, ni] at h1
          refine FH ht hf hb (dy f fn body hf hb) (L7 _ _ _ _ h1 none _ _ (.inr rfl) fun o ho => ?_)
          obtain ⟨b, h3, h4⟩ := h2 o ho
          split at h3
          · rename_i he
            split at h3
            · rename_i r2 hr
              rw [yb] at h3
              cases h3
              have qN : r2 = r := by
                rcases List.mem_cons.1 (h4 r2 (by simp)) with h | h
                · exact h
                · exact (oC (List.all_eq_true.1 aV _ h)).symm
              subst qN
              refine ⟨?_, hr⟩
              cases P5 : o.1 <;> simp [ri, P5] at he <;> simp
            · cases h3
          · cases h3
        · cases h
      · cases h
    · cases h
  · cases h
theorem Gc {code : jw} (L7 : sB P code) : vU P (Ga P tt code) := by
  intro f vs e rs h
  unfold Ga at h
  split at h
  · rename_i outs ho
    split at h
    · rename_i v e' rs' hl
      cases h
      exact (Av ht dy L7 f vs [] outs ho).live fun r m hr => As hl r m hr
    · cases h
  · cases h
omit ht dy in
theorem JI {code : jw} (L7 : sB P code) : F4 P (ND code) := by
  intro k vs mem outs h
  unfold ND at h
  split at h
  · rename_i fr params assign body hk
    split at h
    · rename_i hlen
      obtain ⟨l1, h1, h2⟩ := dm h
      rw [vT, ni] at h1
      refine vN hk hlen fun l => L7 _ _ _ _ h1 (some l) _ _ (.inl rfl) fun o ho => ?_
      obtain ⟨b, h3, h4⟩ := h2 o ho
      split at h3
      · rename_i LV p1 Jn Jo he fC
        refine ⟨he, LV, p1, Jn, Jo, fC, ?_⟩
        obtain ⟨l2, h5, h6⟩ := dm h3
        rw [ni] at h5
        refine L7 _ _ _ _ h5 (some l) _ _ (.inl rfl) fun u hu => ?_
        obtain ⟨b2, h7, h8⟩ := h6 u hu
        split at h7
        · rename_i jump s2 TL Jp p2 FK FL hj jl
          obtain ⟨n, hn, IE, fS⟩ := Au h7
          exact ⟨n, jump, s2, TL, Jp, p2, FK, FL, hn, hj, jl, IE, h4 _ (h8 _ fS)⟩
        · cases h7
      · cases h3
    · cases h
  · cases h

include hm in
theorem RB (B9 : sx P jg) (uE : jf P nat) : ∀ (n : Nat), sB P (ev P tt pl nat jg n) ∧ ∀ b c st outs, ev P tt pl nat jg n b (.loop c) st = some outs → ∀ (ρ : Option Nat) (n0 : Nat) (Q : Exit → St → Prop), (b = true ∨ ρ = none) → (∀ o ∈ outs, Q o.1 o.2) → kH P ρ n0 c n st Q := by
  intro n
  induction n with
  | zero => exact ⟨fun b c st outs h => by simp [ev] at h, fun b c st outs h => by simp [ev] at h⟩
  | succ n ih =>
    obtain ⟨Gd, Yz⟩ := ih
    have kL : ∀ b c st, ev P tt pl nat jg (n + 1) b c st = jh P tt pl nat jg (ev P tt pl nat jg n) b c st := fun _ _ _ => rfl
    have loop : ∀ b c st outs, ev P tt pl nat jg (n + 1) b (.loop c) st = some outs → ∀ (ρ : Option Nat) (n0 : Nat) (Q : Exit → St → Prop), (b = true ∨ ρ = none) → (∀ o ∈ outs, Q o.1 o.2) → kH P ρ n0 c (n + 1) st Q := by
      intro b c st outs h ρ n0 Q hb hQ
      rw [kL] at h
      simp only [jh] at h
      obtain ⟨l, h1, h2⟩ := dm h
      refine Gd _ _ _ _ h1 ρ n0 _ hb fun o ho => ?_
      obtain ⟨e, s⟩ := o
      obtain ⟨b', h3, h4⟩ := h2 _ ho
      cases e with
      | normal => exact Yz _ _ _ _ h3 ρ n0 Q hb fun o' LG => hQ _ (h4 _ LG)
      | _ => cases h3; exact hQ (_, _) (h4 _ (by simp))
    refine ⟨fun b c st outs h ρ n0 Q hb hQ => ?_, loop⟩
    cases c with
    | skip => rw [kL] at h; cases h; exact lf (hQ (_, _) (by simp))
    | ret => rw [kL] at h; cases h; exact oj (hQ (_, _) (by simp))
    | exit id => rw [kL] at h; cases h; exact r9 (hQ (_, _) (by simp))
    | seq x y =>
      rw [kL] at h
      simp only [jh] at h
      obtain ⟨l, h1, h2⟩ := dm h
      refine jY (Gd _ _ _ _ h1 ρ n0 _ hb fun o ho => ?_)
      obtain ⟨e, s⟩ := o
      obtain ⟨b', h3, h4⟩ := h2 _ ho
      cases e with
      | normal => exact Gd _ _ _ _ h3 ρ n0 Q hb fun o' LG => hQ _ (h4 _ LG)
      | _ => cases h3; exact hQ (_, _) (h4 _ (by simp))
    | cond x y z =>
      rw [kL] at h
      simp only [jh] at h
      split at h
      · rename_i t hx
        exact lg hx (Gd _ _ _ _ h ρ n0 Q hb hQ)
      · cases h
    | block id c =>
      rw [kL] at h
      simp only [jh] at h
      obtain ⟨l, h1, h2⟩ := dm h
      refine jt (Gd _ _ _ _ h1 ρ n0 _ hb fun o ho => ?_)
      obtain ⟨e, s⟩ := o
      obtain ⟨b', h3, h4⟩ := h2 _ ho
      cases e with
      | exit j =>
        dsimp only at h3
        simp only [eB]
        split at h3
        · rename_i hj; cases h3; rw [if_pos hj]; exact hQ (_, _) (h4 _ (by simp))
        · rename_i hj; cases h3; rw [if_neg hj]; exact hQ (_, _) (h4 _ (by simp))
      | _ => cases h3; exact hQ (_, _) (h4 _ (by simp))
    | loop c => exact sb (n + 1) (loop _ _ _ _ h ρ n0 Q hb hQ)
    | region id ops d =>
      rw [kL] at h
      cases d with
      | false =>
        simp only [jh] at h
        obtain ⟨l, h1, h2⟩ := dm h
        refine jZ ht (nj B9 uE (Av ht dy Gd) (JI Gd) h1 fun s hs => ?_)
        obtain ⟨b', h3, h4⟩ := h2 _ hs
        cases h3
        exact hQ (_, _) (h4 _ (by simp))
      | true =>
        simp only [jh] at h
        have one : ∀ (st : St) (outs : List (Exit × St)), (∀ o ∈ outs, Q o.1 o.2) → pw (JH P tt nat jg (ev P tt pl nat jg n) ops st) (pl id ops) = some outs → gx P ρ n0 (.region id ops true) st Q := fun st outs hQ h => by
          obtain ⟨p, -, hp⟩ := qw h
          unfold JH at hp
          split at hp
          · rename_i bK
            split at hp
            · rename_i s hs
              cases hp
              exact pj ht hm p.1 p.2 bK (qv uE (JG B9 (yh ht dy Gd)) (Gc ht dy Gd) hs (hQ (_, _) (by simp)))
            · cases hp
          · cases hp
        split at h
        · rename_i x hx; cases h; exact one st _ hQ hx
        · split at h
          · rename_i st' M4
            exact Ao M4 (one st' _ hQ h)
          · cases h
    | rangeFunc f params assign body =>
      rw [kL] at h
      simp only [jh] at h
      split at h
      · cases h
      · rename_i yi
        have hρ : ρ = none := by rcases hb with h | h
                                 · exact absurd h yi
                                 · exact h
        subst hρ
        split at h
        · rename_i g vs hg
          obtain ⟨l, h1, h2⟩ := dm h
          refine sh hg (Av ht dy Gd _ _ _ _ h1) fun r zY hr => ?_
          obtain ⟨b', h3, h4⟩ := h2 _ hr
          dsimp only at h3
          split at h3
          · rename_i s iY TN LX LY LZ Nu
            split at h3
            · rename_i Qk
              refine ⟨s, iY, TN, LX, LY, LZ, Nu, (fun e => by subst e; cases Qk), ?_⟩
              split at h3
              · rw [ni] at h3; cases h3; exact hQ (_, _) (h4 _ (by simp))
              · rename_i c
                rw [ni] at h3
                exact Gd _ _ _ _ h3 none n0 Q (.inr rfl) fun o' LG => hQ _ (h4 _ LG)
            · cases h3
          · cases h3
        · cases h
    | _ => rw [kL] at h; simp [jh] at h

include hm in
theorem RC (B9 : sx P jg) (uE : jf P nat) (n : Nat) {f : FuncId} {vs : List V} {r : V} (h : yg P tt (ev P tt pl nat jg n) f vs = some r) : aQ P f vs r := yh ht dy (RB ht hm dy B9 uE n).1 f vs r h
end
def UZ (P : Program) : Bool := P.funcs.all fun fn => fn.name != "runtime.NumGoroutine"
theorem Ge {P : Program} (h : UZ P = true) (f : FuncId) (fn : Func) (body : Code) (hf : P.funcs[f]? = some fn) (hb : fn.body = some body) (xs : Array Value) (w : World) : (callFunc f xs).run P w = .ok (.enter f xs) w := by
  have az : f < P.funcs.size := (Array.getElem?_eq_some_iff.1 hf).1
  have hn := (Array.all_eq_true.1 h) f az
  have YA : P.funcs[f] = fn := (Array.getElem?_eq_some_iff.1 hf).2
  rw [YA] at hn
  have bL : (fn.name == "runtime.NumGoroutine") = false := by simpa using hn
  simp only [callFunc,program,Sem.run_bind]
  show (match P.funcs[f]? with | none => _ | some fn => _ : Sem Next).run P w = _
  rw [hf]
  dsimp only
  rw [bL, hb]
  rfl
def NG (l : List (Nat × Nat × Nat × List Pl)) : xZ := fun id ops =>
  (l.filter fun e => e.1 == id && e.2.1 == ops.size).map fun e => (e.2.2.2, e.2.2.1)
def Aw : List V → Option V
  | [.sc (.string a), .sc (.string b)] => if 2 ≤ b.size ∧ Dn b.size = true ∧ a.size < 4294967281 then
      (match (List.range (a.size + 1 - b.size)).find? fun i => a.extract i (i + b.size) == b with
        | some i => some (.sc (.int .i64 i))
        | none => some (.sc (.int .i64 (-1)))) else none
  | _ => none
theorem DQ {P : Program} {f : FuncId} {fn : Func} {g : Nat} (hf : P.funcs[f]? = some fn) (hn : (fn.name == "runtime.NumGoroutine") = false) (hb : fn.body = none) (yj : Extern.findNext fn = none) (Fi : Extern.find fn = some Extern.BytealgIndex.index)
    (hg : ∀ w, (globalAddr "internal/bytealg.MaxLen").run P w = .ok ⟨g, 0, none⟩ w) (hG : aE.g = some g) {vs : List V} {r : V} (h : Aw vs = some r) : r6 P f vs r := fun E w xs hF hx => by
  unfold Aw at h
  split at h
  · rename_i a b
    split at h
    · rename_i hc
      obtain ⟨h2, hm, ha⟩ := hc
      rw [vk] at hm
      have hm : (b.size : Int) ≤ aE.n := by simpa using hm
      obtain ⟨x, r1, hy, zO, hx⟩ := hx.of_cons
      obtain ⟨y, r2, hz, qN, hx⟩ := hx.of_cons
      have := hx.of_nil
      subst this; subst hz
      obtain rfl := bZ zO
      obtain rfl := bZ qN
      obtain rfl : xs = #[.string a, .string b] := by rw [← Array.toArray_toList (xs := xs), hy]
      have kZ : w.cell? ⟨g, 0, none⟩ = some (.int .i64 aE.n) := hF _ _ (E.gl.n g hG)
      have U0 : Extern.BytealgIndex.maxLen.run P w = .ok aE.n w := by
        simp [Extern.BytealgIndex.maxLen, hg, load, Sem.run, kZ, asInt, asIntOf]
      have cJ : (Extern.BytealgIndex.index #[.string a, .string b]).run P w = .ok (match (List.range (a.size + 1 - b.size)).find? fun i => a.extract i (i + b.size) == b with | some i => goInt i | none => goInt (-1)) w := by
        show (do
          let a ← Extern.Bytes.bytesOf (.string a)
          let b ← Extern.Bytes.bytesOf (.string b)
          if b.size < 2 || (b.size : Int) > (← Extern.BytealgIndex.maxLen) then
            unsupported (.noEntry "extern/internal/bytealg.Index.length")
          if a.size ≥ 2 ^ 32 - 15 then
            unsupported (.noEntry "extern/internal/bytealg.Index: a haystack of 2^32 - 15 bytes or more")
          match (List.range (a.size + 1 - b.size)).find? fun i => a.extract i (i + b.size) == b with
          | some i => pure (goInt i)
          | none => pure (goInt (-1)) : Sem Value).run P w = _
        have e1 : (decide (b.size < 2)) = false := by simp; omega
        have e2 : decide ((b.size : Int) > aE.n) = false := by simp; omega
        have e3 : ¬ a.size ≥ 2 ^ 32 - 15 := by omega
        simp only [Extern.Bytes.bytesOf,Sem.run_bind,Sem.run_pure,Result.andThen_ok,U0,e1,e2,Bool.or_self,Bool.false_eq_true,if_false,e3]
        split <;> rfl
      refine ⟨(match (List.range (a.size + 1 - b.size)).find? fun i => a.extract i (i + b.size) == b with | some i => goInt i | none => goInt (-1)), ?_, ?_⟩
      · simp only [callFunc,program,Sem.run_bind]
        show (match P.funcs[f]? with | none => _ | some fn => _ : Sem Next).run P w = _
        rw [hf]
        dsimp only
        rw [hn, hb]
        simp only [Bool.false_eq_true,if_false,Option.isNone_none,if_true,yj,Fi,Sem.run_bind,mark,Sem.run,Result.andThen_ok]
        rw [cJ]; rfl
      · split at h
        · cases h; exact .sc _ _
        · cases h; exact .sc _ _
    · cases h
  · cases h
end Go.Eng
end
