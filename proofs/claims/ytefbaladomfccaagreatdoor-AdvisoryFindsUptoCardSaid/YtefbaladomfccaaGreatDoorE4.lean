/-
  THE ENGINE, V: the engine as a function: what a closed call comes to, by computing.
-/
import Derived.Test.YtefbaladomfccaaGreatDoorE3
set_option linter.all false
section
namespace Go.Eng
variable [aK]

abbrev yv := Nat → Array Oper → List (List Pl × Nat)
abbrev uT := FuncId → List V → List aC → Option (List (V × List aC))
abbrev l8 := FuncId → List V → Option V
def iG (P : Program) (nat : l8) : Prop := ∀ f vs r, nat f vs = some r → r8 P f vs r
abbrev Es := Nat → List V → List aC → Option (List (Bool × List aC))
abbrev kj := Bool → Code → St → Option (List (Exit × St))

def kl {α β : Type} (x : Option (List α)) (f : α → Option (List β)) : Option (List β) :=
  match x with
  | none => none
  | some l => l.foldr (fun a acc => match f a, acc with | some b, some c => some (b ++ c) | _, _ => none) (some [])
theorem uU {α β : Type} {f : α → Option (List β)} : ∀ {l : List α} {out : List β}, kl (some l) f = some out → ∀ a ∈ l, ∃ b, f a = some b ∧ ∀ x ∈ b, x ∈ out
  | [], _, _, a, ha => by simp at ha
  | c :: r, out, h, a, ha => by
    simp only [kl,List.foldr_cons] at h
    split at h
    · rename_i b t hb hc
      cases h
      rcases List.mem_cons.1 ha with rfl | ha
      · exact ⟨b, hb, fun x hx => List.mem_append_left _ hx⟩
      · obtain ⟨b', h1, h2⟩ := uU (l := r) (out := t) hc a ha
        exact ⟨b', h1, fun x hx => List.mem_append_right _ (h2 x hx)⟩
    · cases h
theorem dQ {α β : Type} {x : Option (List α)} {f : α → Option (List β)} {out : List β} (h : kl x f = some out) : ∃ l, x = some l ∧ ∀ a ∈ l, ∃ b, f a = some b ∧ ∀ y ∈ b, y ∈ out := by
  cases x with
  | none => cases h
  | some l => exact ⟨l, rfl, uU h⟩

def G4 (st : St) (it : V) (str : Bool) : Option (List (V × List aC)) :=
  match it with
  | .ptr b 0 => match st.mem[b]? with
    | some (.eA m since seen last) => match st.mem[m]? with
      | some (.map bK clock) => if str = false ∧ wo bK seen last = false then
          some ((if (rU bK seen since).isEmpty then [(rV, st.mem)] else []) ++
            (rU bK seen since ++ Gr bK seen since).map fun e => (Gs e, st.mem.set b (.eA m since (seen ++ [e.2.1]) clock)))
        else none
      | _ => none
    | some (.iO s pos) => if str = true then (if pos < s.size then some [(L5 s pos, st.mem.set b (.iO s (pos + (Utf8.decode s pos).2)))] else some [(rV, st.mem)]) else none
    | some .je => if str = false then some [(rV, st.mem)] else none
    | _ => none
  | _ => none
theorem c7 {α : Type} {Q : α → Prop} {a : α} (h : ∀ p ∈ [a], Q p) : Q a := h a (List.mem_singleton.2 rfl)
theorem yw {st : St} {dst : Option Tmp} {it : V} {str : Bool} {outs : List (V × List aC)} {Q : St → Prop} (h : G4 st it str = some outs) (hQ : ∀ p ∈ outs, Q (St.put { st with mem := p.2 } dst p.1)) : oz st dst it str Q := by
  unfold G4 at h
  unfold oz
  split at h
  · split at h
    · rename_i h1
      simp only [h1]
      split at h
      · rename_i h2
        simp only [h2]
        split at h
        · rename_i h3
          cases h
          refine ⟨h3.1, h3.2, fun he => ?_, fun e he => ?_⟩
          · have := hQ (rV, st.mem) (by rw [he]; exact List.mem_append_left _ (List.mem_singleton.2 rfl)); exact this
          · have := hQ _ (List.mem_append_right _ (List.mem_map.2 ⟨e, he, rfl⟩)); exact this
        · cases h
      · cases h
    · rename_i h1
      simp only [h1]
      split at h
      · rename_i h3
        refine ⟨h3, ?_⟩
        split at h
        · rename_i h4; cases h; rw [if_pos h4]; exact (by have h9 := c7 hQ; exact h9)
        · rename_i h4; cases h; rw [if_neg h4]; exact (by have h9 := c7 hQ; exact h9)
      · cases h
    · rename_i h1
      simp only [h1]
      split at h
      · rename_i h3
        cases h
        exact ⟨h3, (by have h9 := c7 hQ; exact h9)⟩
      · cases h
    · cases h
  · cases h

def RO (jS : FuncId → List V → Option V) (g : FuncId) (vs : List V) (st : St) : Option (V × List aC) :=
  match dx st.mem vs with
  | some vs' => match jS g vs' with
    | some r => some (r, eH st.mem (vs.flatMap de) r)
    | none => none
  | none => none
def l9 (P : Program) (jS : FuncId → List V → Option V) : Prop := ∀ f vs r, jS f vs = some r → aR P f vs r
def G5 (P : Program) (tt : Table) (nat : l8) (jS : FuncId → List V → Option V) (call : uT) (gr : Es) (key : Nat) (o : Oper) (st : St) : Option (List (V × List aC)) :=
  match o.op with
  | .alloc T => match tt T with
    | some i => some [((.ptr key 0), bj st.mem key (.box (i.zero.map V.sc)))]
    | none => none
  | .box _ x => match fU (st.eval x) with
    | some cs => some [((.ptr key 0), bj st.mem key (.box cs))]
    | none => none
  | .build T parts => match iD P tt T parts.toList st.eval with
    | some v => some [(v, st.mem)]
    | none => none
  | .buildSlice T len parts => match pH tt T len parts.toList st.eval with
    | some (size, rs) => some [((.ms key 0 0 len), bj st.mem key (.rows 0 size rs))]
    | none => match J0 tt T len parts.toList st with
      | some (size, rs) => some [((.ms key 0 0 len), bj (cL st.mem (wx st.eval parts.toList)) key (.rows 0 size rs))]
      | none => none
  | .store T p x => match iC tt st.mem T (st.eval p) (st.eval x) with
    | some aF => some [((.sc undef), aF)]
    | none => match wy tt st.mem T (st.eval p) (st.eval x) with
      | some aF => some [((.sc undef), aF)]
      | none => none
  | .call { callee := .builtin .append, args := xs, argTypes := ts } => match xs.toList.map st.eval with
    | [s, x] => match dS tt st.mem ts.toList s x with
      | some (size, ka, rows) => some [((cK st.mem key size rows ka).2, (cK st.mem key size rows ka).1)]
      | none => none
    | _ => none
  | .call { callee := .value f, args := xs, .. } => match st.eval f with
    | .gr k => match gr k (xs.toList.map st.eval) st.mem with
      | some outs => some (outs.map fun p => ((.sc (.bool p.1)), p.2))
      | none => none
    | fv => match bw fv (xs.toList.map st.eval) with
      | some (g, vs) => match RO jS g vs st with
        | some (r, aF) => some [(r, aF)]
        | none => match call g vs st.mem with
          | some outs => some (outs.map fun p => (p.1, p.2))
          | none => match nat g vs with
            | some r => some [(r, st.mem)]
            | none => none
      | none => none
  | .makeSlice T l c => match nk tt T (st.eval l) (st.eval c) with
    | some (size, rs, _) => some [((.ms key 0 0 rs.length), bj st.mem key (.rows 0 size rs))]
    | none => none
  | .makeMap _ none => some [((.mp key), bj st.mem key (.map [] 0))]
  | .mapUpdate T m k x => match cD P st.mem T (st.eval m) (st.eval k) (st.eval x) with
    | some aF => some [((.sc undef), aF)]
    | none => none
  | .insert T m k x => match cD P st.mem T (st.eval m) (st.eval k) (st.eval x) with
    | some aF => some [((.sc undef), aF)]
    | none => none
  | .mapEntry T m k => match pI P st.mem T (st.eval m) (st.eval k) with
    | some (aF, v) => some [(v, aF)]
    | none => none
  | .entryStore _ m s x => match pJ st.mem (st.eval m) (st.eval s) (st.eval x) with
    | some aF => some [((.sc undef), aF)]
    | none => none
  | .call { callee := .builtin .delete, args := xs, argTypes := ts } => match mH P st.mem ts (xs.toList.map st.eval) with
    | some aF => some [((.sc (.tuple #[])), aF)]
    | none => none
  | .range T x => match kg P st.mem T (st.eval x) with
    | some B => some [((.ptr key 0), bj st.mem key B)]
    | none => none
  | .next it str => G4 st (st.eval it) str
  | .binOp op T x y _ => match j1 tt op T (st.eval x) (st.eval y) with
    | some n => if n = 0 then some [((.sc (.bool (jj op false))), st.mem), ((.sc (.bool (jj op true))), st.mem)] else some [((.sc (.bool (jj op false))), st.mem)]
    | none => match gp P tt st o with
      | some v => some [(v, st.mem)]
      | none => none
  | _ => match gp P tt st o with
    | some v => some [(v, st.mem)]
    | none => none

def A5 (P : Program) (call : uT) : Prop := ∀ f vs mem outs, call f vs mem = some outs → fm P f vs mem fun r m => (r, m) ∈ outs
def G6 (P : Program) (gr : Es) : Prop := ∀ k vs mem outs, gr k vs mem = some outs → Eg P k vs mem fun b m => (b, m) ∈ outs

theorem yx {P : Program} {tt : Table} {nat : l8} {jS : FuncId → List V → Option V} {call : uT} {gr : Es} (Et : l9 P jS) (uo : iG P nat) (hc : A5 P call) (hy : G6 P gr) {key : Nat} {o : Oper} {st : St} {outs : List (V × List aC)} {Q : St → Prop} (h : G5 P tt nat jS call gr key o st = some outs) (hQ : ∀ p ∈ outs, Q (St.put { st with mem := p.2 } o.dst p.1)) :
    bI P tt key o st Q := by
  unfold G5 at h
  unfold bI
  split at h
  · rename_i heq; rw [heq]; dsimp only
    split at h
    · rename_i h1; cases h; rw [h1]; exact (by have h9 := c7 hQ; exact h9)
    · cases h
  · rename_i heq; rw [heq]; dsimp only
    split at h
    · rename_i h1; cases h; rw [h1]; exact (by have h9 := c7 hQ; exact h9)
    · cases h
  · rename_i heq; rw [heq]; dsimp only
    split at h
    · rename_i h1; cases h; rw [h1]; exact (by have h9 := c7 hQ; exact h9)
    · cases h
  · rename_i heq; rw [heq]; dsimp only
    split at h
    · rename_i h1; cases h; rw [h1]; exact (by have h9 := c7 hQ; exact h9)
    · rename_i h0
      rw [h0]; dsimp only
      split at h
      · rename_i h1; cases h; rw [h1]; exact (by have h9 := c7 hQ; exact h9)
      · cases h
  · rename_i heq; rw [heq]; dsimp only
    split at h
    · rename_i h1; cases h; rw [h1]; exact (by have h9 := c7 hQ; exact h9)
    · rename_i h0
      rw [h0]; dsimp only
      split at h
      · rename_i h1; cases h; rw [h1]; exact (by have h9 := c7 hQ; exact h9)
      · cases h
  · rename_i heq; rw [heq]; dsimp only
    split at h
    · rename_i h0
      rw [h0]; dsimp only
      split at h
      · rename_i h1; cases h; rw [h1]; exact (by have h9 := c7 hQ; exact h9)
      · cases h
    · cases h
  · rename_i heq; rw [heq]; dsimp only
    split at h
    · rename_i k hk
      rw [hk]; dsimp only
      split at h
      · rename_i os ho
        cases h
        exact .inr ⟨_, hy _ _ _ _ ho, fun b m hm => (by have := hQ _ (List.mem_map.2 ⟨_, hm, rfl⟩); exact this)⟩
      · cases h
    · rename_i fv Qw
      split at h
      · rename_i g vs hg
        split at h
        · rename_i r aF Eu
          cases h
          unfold RO at Eu
          split at Eu
          · rename_i vs' Mb
            split at Eu
            · rename_i r1 AE
              cases Eu
              split
              · rename_i k hk; exact absurd hk (Qw k)
              · rw [hg]; exact .inl ⟨vs', _, Mb, Et _ _ _ AE, (by have h9 := c7 hQ; exact h9)⟩
            · cases Eu
          · cases Eu
        · split at h
          · rename_i os ho
            cases h
            split
            · rename_i k hk; exact absurd hk (Qw k)
            · rw [hg]; exact .inr (.inr (.inl ⟨_, hc _ _ _ _ ho, fun b m hm => (by have := hQ _ (List.mem_map.2 ⟨_, hm, rfl⟩); exact this)⟩))
          · split at h
            · rename_i r hr
              cases h
              split
              · rename_i k hk; exact absurd hk (Qw k)
              · rw [hg]; exact .inr (.inr (.inr ⟨r, uo _ _ _ hr, (by have h9 := c7 hQ; exact h9)⟩))
            · cases h
      · cases h
  · rename_i heq; rw [heq]; dsimp only
    split at h
    · rename_i h1; cases h; rw [h1]; exact (by have h9 := c7 hQ; exact h9)
    · cases h
  · rename_i heq; rw [heq]; dsimp only; cases h; exact (by have h9 := c7 hQ; exact h9)
  · rename_i heq; rw [heq]; dsimp only
    split at h
    · rename_i h1; cases h; rw [h1]; exact (by have h9 := c7 hQ; exact h9)
    · cases h
  · rename_i heq; rw [heq]; dsimp only
    split at h
    · rename_i h1; cases h; rw [h1]; exact (by have h9 := c7 hQ; exact h9)
    · cases h
  · rename_i heq; rw [heq]; dsimp only
    split at h
    · rename_i h1; cases h; rw [h1]; exact (by have h9 := c7 hQ; exact h9)
    · cases h
  · rename_i heq; rw [heq]; dsimp only
    split at h
    · rename_i h1; cases h; rw [h1]; exact (by have h9 := c7 hQ; exact h9)
    · cases h
  · rename_i heq; rw [heq]; dsimp only
    split at h
    · rename_i h1; cases h; rw [h1]; exact (by have h9 := c7 hQ; exact h9)
    · cases h
  · rename_i heq; rw [heq]; dsimp only
    split at h
    · rename_i h1; cases h; rw [h1]; exact (by have h9 := c7 hQ; exact h9)
    · cases h
  · rename_i heq; rw [heq]; dsimp only
    exact yw h hQ
  · rename_i heq; rw [heq]; dsimp only
    split at h
    · rename_i n hn
      rw [hn]; dsimp only
      intro b hb
      split at h
      · cases h; cases b
        · have := hQ _ (List.mem_cons_self ..); exact this
        · have := hQ _ (List.mem_cons_of_mem _ (List.mem_singleton.2 rfl)); exact this
      · rename_i h0; cases h; rw [hb h0]; exact (by have h9 := c7 hQ; exact h9)
    · rename_i hn
      rw [hn]; dsimp only
      split at h
      · rename_i h1; cases h; rw [h1]; exact (by have h9 := c7 hQ; exact h9)
      · cases h
  · split at h
    · rename_i h1
      cases h
      split <;> first | (rw [h1]; exact (by have h9 := c7 hQ; exact h9)) | (exfalso; solve_by_elim)
    · cases h

/-! ### what is computed is written out before it is handed on (the kernel would reckon it anew at each look) -/
def G7 {α β : Type} : List α → (List α → β) → β
  | [], k => k []
  | c :: r, k => G7 r fun r' => k (c :: r')
theorem kW {α β : Type} : ∀ (l : List α) (k : List α → β), G7 l k = k l
  | [], _ => rfl
  | c :: r, k => by rw [G7, kW r]
def iH {β : Type} (n : Nat) (k : Nat → β) : β := Nat.casesOn n (k 0) fun m => k (Nat.succ m)
theorem ep {β : Type} (n : Nat) (k : Nat → β) : iH n k = k n := by cases n <;> rfl
def NY {β : Type} (n : Int) (k : Int → β) : β := match n with | .ofNat m => iH m fun m' => k (.ofNat m') | .negSucc m => iH m fun m' => k (.negSucc m')
theorem Kk {β : Type} (n : Int) (k : Int → β) : NY n k = k n := by cases n <;> simp only [NY,ep]
def A6 {β : Type} (s : ByteArray) (k : ByteArray → β) : β := G7 s.data.toList fun l => k ⟨⟨l⟩⟩
theorem Ev {β : Type} (s : ByteArray) (k : ByteArray → β) : A6 s k = k s := by rw [A6, kW]
def Kl {β : Type} (v : Value) (k : Value → β) : β :=
  match v with
  | .bool true => k (.bool true)
  | .bool false => k (.bool false)
  | .int t n => NY n fun n' => k (.int t n')
  | .string s => A6 s fun s' => k (.string s')
  | v => k v
theorem CZ {β : Type} (v : Value) (k : Value → β) : Kl v k = k v := by
  unfold Kl
  split
  · rfl
  · rfl
  · rw [Kk]
  · rw [Ev]
  · rfl
def fW {β : Type} (v : V) (k : V → β) : β :=
  match v with
  | .undef => k .undef
  | .sc v => k (.sc v)
  | .agg cs => k (.agg cs)
  | .slice r => k (.slice r)
  | .ms a b c d => k (.ms a b c d)
  | .ptr a b => k (.ptr a b)
  | .dw a b c d => k (.dw a b c d)
  | .cn cs => k (.cn cs)
  | .iw f a b => k (.iw f a b)
  | .ch l => k (.ch l)
  | .gr a => k (.gr a)
  | .mp a => k (.mp a)
  | .gn => k .gn
  | .full r => k (.full r)
theorem Mm {β : Type} (v : V) (k : V → β) : fW v k = k v := by cases v <;> rfl
def QB {β : Type} : List V → (List V → β) → β
  | [], k => k []
  | c :: r, k => fW c fun c' => QB r fun r' => k (c' :: r')
theorem wJ {β : Type} : ∀ (l : List V) (k : List V → β), QB l k = k l
  | [], _ => rfl
  | c :: r, k => by rw [QB, Mm, wJ r]
mutual
def fV {β : Type} : V → (V → β) → β
  | .undef, k => k .undef
  | .gn, k => k .gn
  | .sc v, k => Kl v fun v' => k (.sc v')
  | .agg cs, k => C0 cs fun nh => k (.agg nh)
  | .ch cs, k => C0 cs fun nh => k (.ch nh)
  | .slice cs, k => C0 cs fun nh => k (.slice nh)
  | .full cs, k => C0 cs fun nh => k (.full nh)
  | .cn cs, k => C0 cs fun nh => k (.cn nh)
  | .iw f a b, k => C0 a fun a' => C0 b fun b' => k (.iw f a' b')
  | .ms a b c d, k => iH a fun a' => iH b fun b' => iH c fun c' => iH d fun d' => k (.ms a' b' c' d')
  | .ptr a b, k => iH a fun a' => iH b fun b' => k (.ptr a' b')
  | .dw a b c d, k => iH a fun a' => iH b fun b' => iH c fun c' => iH d fun d' => k (.dw a' b' c' d')
  | .gr a, k => iH a fun a' => k (.gr a')
  | .mp a, k => iH a fun a' => k (.mp a')
def C0 {β : Type} : List V → (List V → β) → β
  | [], k => k []
  | c :: r, k => fV c fun c' => C0 r fun r' => k (c' :: r')
end
mutual
theorem yy {β : Type} : ∀ (v : V) (k : V → β), fV v k = k v
  | .undef, _ => by rw [fV]
  | .gn, _ => by rw [fV]
  | .sc v, k => by rw [fV, CZ]
  | .agg cs, k => by rw [fV, kX cs]
  | .ch cs, k => by rw [fV, kX cs]
  | .slice cs, k => by rw [fV, kX cs]
  | .full cs, k => by rw [fV, kX cs]
  | .cn cs, k => by rw [fV, kX cs]
  | .iw f a b, k => by rw [fV, kX a, kX b]
  | .ms a b c d, k => by rw [fV, ep, ep, ep, ep]
  | .ptr a b, k => by rw [fV, ep, ep]
  | .dw a b c d, k => by rw [fV, ep, ep, ep, ep]
  | .gr a, k => by rw [fV, ep]
  | .mp a, k => by rw [fV, ep]
theorem kX {β : Type} : ∀ (l : List V) (k : List V → β), C0 l k = k l
  | [], _ => by rw [C0]
  | c :: r, k => by rw [C0, yy c, kX r]
end
def Km {β : Type} : List (Value × Nat × V) → (List (Value × Nat × V) → β) → β
  | [], k => k []
  | (a, n, v) :: r, k => Kl a fun a' => iH n fun n' => fV v fun v' => Km r fun r' => k ((a', n', v') :: r')
theorem C1 {β : Type} : ∀ (l : List (Value × Nat × V)) (k : List (Value × Nat × V) → β), Km l k = k l
  | [], _ => rfl
  | (a, n, v) :: r, k => by rw [Km, CZ, ep, yy, C1 r]
def fB {β : Type} (B : aC) (k : aC → β) : β :=
  match B with
  | .hole => k .hole
  | .dead => k .dead
  | .je => k .je
  | .box cs => C0 cs fun nh => k (.box nh)
  | .rows v e rs => iH v fun v' => iH e fun e' => C0 rs fun rs' => k (.rows v' e' rs')
  | .pB v e rs => iH v fun v' => iH e fun e' => C0 rs fun rs' => k (.pB v' e' rs')
  | .loop s p fr ps a b => k (.loop s p fr ps a b)
  | .map bK c => Km bK fun kvs' => iH c fun c' => k (.map kvs' c')
  | .eA a b c d => iH a fun a' => iH b fun b' => G7 c fun c' => iH d fun d' => k (.eA a' b' c' d')
  | .iO s p => iH p fun p' => k (.iO s p')
theorem RQ {β : Type} (B : aC) (k : aC → β) : fB B k = k B := by
  cases B <;> simp only [fB,kX,ep,C1,kW]
def A7 {β : Type} : List Nat → List aC → (List aC → β) → β
  | [], m, k => G7 m k
  | i :: r, m, k => match m[i]? with
    | some B => fB B fun B' => A7 r (m.set i B') k
    | none => A7 r m k
theorem oT {β : Type} : ∀ (ks : List Nat) (m : List aC) (k : List aC → β), A7 ks m k = k m
  | [], m, k => kW m k
  | i :: r, m, k => by
    simp only [A7]
    split
    · rename_i B hB
      rw [RQ, oT r]
      congr 1
      apply List.ext_getElem?
      intro j
      rw [List.getElem?_set]
      split
      · rename_i qW; subst qW
        split
        · exact hB.symm
        · rename_i aL; rw [List.getElem?_eq_none (by omega)]
      · rfl
    · exact oT r m k
def uV (o : Oper) : Bool :=
  match o.op with
  | .move _ | .assign _ | .pick .. | .load .. | .extract .. | .nilCheck _ | .field .. => true
  | _ => false
def fD {β : Type} (b : Bool) (v : V) (k : V → β) : β := match b with | true => fW v k | false => fV v k
theorem Mn {β : Type} (b : Bool) (v : V) (k : V → β) : fD b v k = k v := by cases b <;> simp only [fD,Mm,yy]
def Kn {β : Type} (b : Bool) (d : Option Tmp) (ks : List Nat) (s : St) (k : St → β) : β :=
  match d with
  | some d => fD b (s.fr.getD d .undef) fun v => G7 (if d < s.fr.length then s.fr.set d v else s.fr) fun fr => A7 ks s.mem fun mem => k { fr := fr, mem := mem }
  | none => G7 s.fr fun fr => A7 ks s.mem fun mem => k { fr := fr, mem := mem }
theorem nL {β : Type} (b : Bool) (d : Option Tmp) (ks : List Nat) (s : St) (k : St → β) : Kn b d ks s k = k s := by
  unfold Kn
  split
  · rename_i d
    rw [Mn, kW, oT]
    congr 1
    split
    · rename_i hd
      obtain ⟨fr, mem⟩ := s
      dsimp only at hd ⊢
      congr 1
      apply List.ext_getElem?
      intro j
      rw [List.getElem?_set]
      split
      · rename_i qW; subst qW
        rw [List.getD_eq_getElem?_getD, List.getElem?_eq_getElem hd]; rfl
      · rfl
    · rfl
  · rw [kW, oT]
def Ko {β : Type} : List V → Nat → V → (List V → β) → β
  | [], _, _, k => k []
  | _ :: r, 0, v, k => k (v :: r)
  | c :: r, d + 1, v, k => Ko r d v fun r' => k (c :: r')
theorem C2 {β : Type} : ∀ (l : List V) (d : Nat) (v : V) (k : List V → β), Ko l d v k = k (l.set d v)
  | [], _, _, _ => rfl
  | _ :: _, 0, _, _ => rfl
  | c :: r, d + 1, v, k => by rw [Ko, C2 r]; rfl
def C3 {β : Type} (ks : List Nat) (m : List aC) (k : List aC → β) : β := match ks with | [] => k m | _ :: _ => A7 ks m k
theorem yz {β : Type} (ks : List Nat) (m : List aC) (k : List aC → β) : C3 ks m k = k m := by
  unfold C3
  split
  · rfl
  · rw [oT]
def NZ {β : Type} (b : Bool) (d : Option Tmp) (ks : List Nat) (st : St) (v : V) (m : List aC) (k : St → β) : β :=
  match d with
  | some d => fD b v fun v => Ko st.fr d v fun fr => C3 ks m fun mem => k { fr := fr, mem := mem }
  | none => C3 ks m fun mem => k { fr := st.fr, mem := mem }
theorem Kp {β : Type} (b : Bool) (d : Option Tmp) (ks : List Nat) (st : St) (v : V) (m : List aC) (k : St → β) : NZ b d ks st v m k = k (St.put { st with mem := m } d v) := by
  unfold NZ
  split
  · rw [Mn, C2, yz]; rfl
  · rw [yz]; rfl
def G8 : V → List Nat
  | .ptr b _ => [b]
  | .dw b _ _ _ => [b]
  | .ms b _ _ _ => [b]
  | .mp b => [b]
  | _ => []
def C4 (key : Nat) (o : Oper) (st : St) : List Nat :=
  match o.op with
  | .alloc _ | .box .. | .buildSlice .. | .makeMap .. | .makeSlice .. | .range .. => [key]
  | .store _ p _ => G8 (st.eval p)
  | .call { callee := .builtin .append, args := xs, .. } => match xs.toList with | s :: _ => key :: G8 (st.eval s) | _ => []
  | .call { callee := .builtin .delete, args := xs, .. } => match xs.toList with | s :: _ => G8 (st.eval s) | _ => []
  | .mapUpdate _ m _ _ | .insert _ m _ _ | .mapEntry _ m _ | .entryStore _ m _ _ => G8 (st.eval m)
  | .call { callee := .value _, .. } => [0]
  | .next it _ => G8 (st.eval it)
  | _ => []

def Ew (P : Program) (tt : Table) (nat : l8) (jS : FuncId → List V → Option V) (call : uT) (gr : Es) (all : Array Oper) : List Oper → St → Option (List St)
  | [], st => some [st]
  | o :: r, st => match dq all st.fr o with
    | some true => kl (G5 P tt nat jS call gr st.mem.length o st) fun p => NZ (uV o) o.dst (C4 st.mem.length o st) st p.1 p.2 fun s' => Ew P tt nat jS call gr all r s'
    | some false => Ew P tt nat jS call gr all r (st.put o.dst (.sc undef))
    | none => none
theorem kY {P : Program} {tt : Table} {nat : l8} {jS : FuncId → List V → Option V} (Et : l9 P jS) {call : uT} {gr : Es} (uo : iG P nat) (hc : A5 P call) (hy : G6 P gr) {all : Array Oper} {Q : St → Prop} : ∀ {l : List Oper} {st : St} {outs : List St}, Ew P tt nat jS call gr all l st = some outs → (∀ s ∈ outs, Q s) → cZ P tt all l st Q
  | [], st, outs, h, hQ => by cases h; exact hQ _ (by simp)
  | o :: r, st, outs, h, hQ => by
    simp only [Ew] at h
    simp only [cZ]
    split at h
    · rename_i hw
      rw [hw]
      obtain ⟨l, h1, h2⟩ := dQ h
      refine yx Et uo hc hy h1 fun s hs => ?_
      obtain ⟨b, h3, h4⟩ := h2 s hs
      rw [Kp] at h3
      exact kY Et uo hc hy h3 fun s' kc => hQ _ (h4 _ kc)
    · rename_i hw
      rw [hw]
      exact kY Et uo hc hy h hQ
    · cases h

/-! ### all rows frozen -/
def dj : Nat → List aC → List (Nat × Nat)
  | _, [] => []
  | i, .rows v _ _ :: r => (i, v) :: dj (i + 1) r
  | i, .pB v _ _ :: r => (i, v) :: dj (i + 1) r
  | i, _ :: r => dj (i + 1) r
theorem kZ : ∀ {m : List aC} {n k v e : Nat} {rs : List V}, (m[k]? = some (.rows v e rs) ∨ m[k]? = some (.pB v e rs)) → (n + k, v) ∈ dj n m
  | [], n, k, v, e, rs, h => by simp at h
  | B :: r, n, 0, v, e, rs, h => by
    simp only [List.getElem?_cons_zero,Option.some.injEq] at h
    rcases h with rfl | rfl <;> simp [dj]
  | B :: r, n, k + 1, v, e, rs, h => by
    simp only [List.getElem?_cons_succ] at h
    have := kZ (n := n + 1) h
    rw [show n + 1 + k = n + (k + 1) from by omega] at this
    cases B <;> simp only [dj] <;> first | exact this | exact List.mem_cons_of_mem _ this
def gQ (mem : List aC) (v : V) : V := match br mem v with | some v' => v' | none => v
def N0 (mem : List aC) : V → V
  | .agg cs => .agg (cs.map (gQ mem))
  | .ch vs => .ch (vs.map fun v => match v with | .agg cs => .agg (cs.map (gQ mem)) | v => gQ mem v)
  | v => gQ mem v
def sA (mem : List aC) : aC → aC
  | .box cs => .box (cs.map (gQ mem))
  | B => B
def yA (st : St) : Option St :=
  let keys := dj 0 st.mem
  match dx st.mem (keys.map fun (k : Nat × Nat) => V.ms k.1 k.2 0 0) with
  | some _ => some { fr := st.fr.map (N0 st.mem), mem := (cL st.mem keys).map (sA st.mem) }
  | none => none
theorem C5 : ∀ (keys : List (Nat × Nat)), (keys.map fun (k : Nat × Nat) => V.ms k.1 k.2 0 0).flatMap de = keys
  | [] => rfl
  | k :: r => by simp [de, fa, C5 r]
theorem Ey {mem : List aC} {B : aC} (h : ∀ cs, B ≠ .box cs) : sA mem B = B := by
  cases B <;> first | rfl | exact absurd rfl (h _)
theorem A8 (mem : List aC) (B : aC) : (sA mem B).bW = B.bW := by cases B <;> rfl
theorem yB {E : Env} {w : World} {a : Act} {st st' : St} (hs : bc E w a st) (h : yA st = some st') : ∃ E', bc E' w a st' ∧ dO E w E' w := by
  unfold yA at h
  dsimp only at h
  split at h
  · rename_i vs' hp
    cases h
    obtain ⟨ks, yC⟩ : ∃ ks, ks = ((dj 0 st.mem).map (fun (k : Nat × Nat) => V.ms k.1 k.2 0 0)).flatMap de := ⟨_, rfl⟩
    have RR : dO E w (E.kH w ks) w ∧ bc (E.kH w ks) w a { st with mem := cL st.mem ks } := by
      subst yC
      obtain ⟨hg, h1, h2⟩ := r5 hs hp (F' := (E.kH w (((dj 0 st.mem).map (fun (k : Nat × Nat) => V.ms k.1 k.2 0 0)).flatMap de)).F) (fun _ _ h => h) (fun ad y h => Env.CP hs.F h) (fun _ _ h => .inl h) (Go.RowKit.Below.refl _ w)
      exact ⟨h1, h2⟩
    rw [C5] at yC
    subst yC
    obtain ⟨dX, kF⟩ := RR
    have kf : ∀ {v : V} {x : Value}, a8 E v x → a8 (E.kH w (dj 0 st.mem)) (gQ st.mem v) x := fun {v x} hr => by
      unfold gQ
      split
      · rename_i v' hv
        refine (jZ hs hr hv fun k hk => ?_).mono (Env.mD _)
        cases v <;> simp only [fa,List.mem_singleton,List.not_mem_nil] at hk
        subst hk
        simp only [br] at hv
        split at hv
        · rename_i hm
          split at hv
          · rename_i hc; have := kZ (n := 0) (.inl hm); rw [Nat.zero_add, hc.1] at this; exact this
          · cases hv
        · rename_i hm
          split at hv
          · rename_i hc; have := kZ (n := 0) (.inr hm); rw [Nat.zero_add, hc.1] at this; exact this
          · cases hv
        · cases hv
      · exact hr.mono (Env.pK E w _)
    have JW : ∀ {cs : List V} {xs : List Value}, aV E cs xs → aV (E.kH w (dj 0 st.mem)) (cs.map (gQ st.mem)) xs := fun {cs xs} hr => by
      refine ⟨by simpa using hr.1, fun i c x hc hx => ?_⟩
      simp only [List.getElem?_map,Option.map_eq_some_iff] at hc
      obtain ⟨c0, yD, rfl⟩ := hc
      exact kf (hr.2 i c0 x yD hx)
    have h1 : ∀ {v : V} {x : Value}, a8 E v x → a8 (E.kH w (dj 0 st.mem)) (match v with | .agg cs => .agg (cs.map (gQ st.mem)) | v => gQ st.mem v) x := fun {v x} hr => by
      split
      · rename_i cs
        cases hr with
        | agg _ cs xs hl hh =>
          have := JW (cs := cs) (xs := xs.toList) ⟨by simpa using hl, fun i c x hc hx => hh i c x hc (by simpa using hx)⟩
          exact .agg _ _ _ (by simpa using this.1) fun i c x hc hx => this.2 i c x hc (by simpa using hx)
      · exact kf hr
    have hV : ∀ {v : V} {x : Value}, a8 E v x → a8 (E.kH w (dj 0 st.mem)) (N0 st.mem v) x := fun {v x} hr => by
      unfold N0
      split
      · exact h1 (v := .agg _) hr
      · rename_i vs
        cases hr with
        | ch _ vs xs hl hh =>
          refine .ch _ _ _ (by simpa using hl) fun i c x hc hx => ?_
          simp only [List.getElem?_map,Option.map_eq_some_iff] at hc
          obtain ⟨c0, yD, rfl⟩ := hc
          exact h1 (hh i c0 x yD hx)
      · exact kf hr
    refine ⟨_, ⟨kF.F, kF.lt, fun k B hk => ?_, fun k hk => kF.top k (by simpa using hk), fun k B hk v hv => ?_, kF.apart, ⟨by simpa using hs.fr.1, fun i v x hv hx => ?_⟩⟩, dX⟩
    · simp only [List.getElem?_map,Option.map_eq_some_iff] at hk
      obtain ⟨B0, qx, rfl⟩ := hk
      have h0 := kF.mem k B0 qx
      by_cases RS : ∃ cs, B0 = .box cs
      · obtain ⟨cs, rfl⟩ := RS
        have hold : st.mem[k]? = some (.box cs) := by
          rw [kR] at qx
          cases An : st.mem[k]? with
          | none => rw [An] at qx; simp [jN] at qx
          | some B1 =>
            rw [An] at qx
            cases B1 <;> simp only [jN] at qx <;> first | exact qx | (split at qx <;> cases qx)
        obtain ⟨g, T, xs, q1, q2, q3, q4⟩ := h0
        obtain ⟨g', T', og, r1, r2, r3, r4⟩ := hs.mem k _ hold
        have : g = g' := by
          have := dX.le.aM _ _ _ r1
          have e : (E.kH w (dj 0 st.mem)).aM k 0 = some (g, 0, 0) := q1
          have e2 : (E.kH w (dj 0 st.mem)).aM k 0 = some (g', 0, 0) := this
          rw [e] at e2; cases e2; rfl
        subst this
        rw [r2] at q2; cases q2
        exact ⟨g, T, xs, q1, r2, JW r3, q4⟩
      · rw [Ey fun cs e => RS ⟨cs, e⟩]; exact h0
    · simp only [List.getElem?_map,Option.map_eq_some_iff] at hk
      obtain ⟨B0, qx, rfl⟩ := hk
      rw [A8] at hv
      exact kF.bW k B0 qx v hv
    · simp only [List.getElem?_map,Option.map_eq_some_iff] at hv
      obtain ⟨v0, Gg, rfl⟩ := hv
      exact hV (hs.fr.2 i v0 x Gg hx)
  · cases h
theorem sB {P : Program} {ρ : Option Nat} {n0 : Nat} {c : Code} {st st' : St} {Q : Exit → St → Prop} (hf : yA st = some st') (h : dA P ρ n0 c st' Q) : dA P ρ n0 c st Q := fun E0 w0 h0 E w a he hs mI => by
  obtain ⟨E', h1, h2⟩ := yB hs hf
  exact h E0 w0 h0 E' w a (he.trans h2) h1 (mI.Eh h2)

/-! ### regions that draw -/
abbrev ma := FuncId → List V → Option V
abbrev qJ := FuncId → List V → Option (Nat × List V)
def wK (P : Program) (live : qJ) : Prop := ∀ f vs e rs, live f vs = some (e, rs) → sj P f vs e rs
def A9 (live : qJ) (o : Oper) (key : Nat) (st : St) : Option St :=
  match o.op with
  | .call { callee := .value f, args := xs, .. } => match bw (st.eval f) (xs.toList.map st.eval) with
    | some (g, vs) => match dx [] vs with
      | some vs' => match live g vs' with
        | some (e, rs) => some (sk st key o.dst e rs)
        | none => none
      | none => none
    | none => none
  | _ => none
theorem wL {P : Program} {live : qJ} (hl : wK P live) {o : Oper} {key : Nat} {st s : St} {Q : St → Prop} (h : A9 live o key st = some s) (hQ : Q s) : nJ P o key st Q := by
  unfold A9 at h
  unfold nJ
  split at h
  · rename_i heq; rw [heq]; dsimp only
    split at h
    · rename_i g vs hg
      rw [hg]; dsimp only
      split at h
      · rename_i vs' hv
        split at h
        · rename_i e rs hr
          cases h
          exact ⟨vs', e, rs, hv, hl _ _ _ _ hr, hQ⟩
        · cases h
      · cases h
    · cases h
  · cases h
def pS (P : Program) (pure : ma) : Prop := ∀ f vs r, pure f vs = some r → aR P f vs r
def Kq (P : Program) (tt : Table) (nat : l8) (pure : ma) (o : Oper) (uj st : St) : Option St :=
  match o.op with
  | .call { callee := .value f, args := xs, .. } => match bw (uj.eval f) (xs.toList.map uj.eval) with
    | some (g, vs) => match dx [] vs with
      | some vs' => match pure g vs' with
        | some r => some (st.put o.dst r)
        | none => match nat g vs' with
          | some r => some (st.put o.dst r)
          | none => none
      | none => none
    | none => none
  | _ => match qZ P tt o uj with
    | some v => some (st.put o.dst v)
    | none => none
theorem sC {P : Program} {tt : Table} {nat : l8} (uo : iG P nat) {pure : ma} (hp : pS P pure) {o : Oper} {uj st s : St} {Q : St → Prop} (h : Kq P tt nat pure o uj st = some s) (hQ : Q s) : q5 P tt o uj st Q := by
  unfold Kq at h
  unfold q5
  split at h
  · rename_i heq; rw [heq]; dsimp only
    split at h
    · rename_i g vs hg
      rw [hg]; dsimp only
      split at h
      · rename_i vs' hv
        split at h
        · rename_i r hr
          cases h
          exact ⟨vs', r, hv, .inl (hp _ _ _ hr), hQ⟩
        · split at h
          · rename_i r hr
            cases h
            exact ⟨vs', r, hv, .inr (uo _ _ _ hr), hQ⟩
          · cases h
      · cases h
    · cases h
  · split at h
    · rename_i h1
      cases h
      split
      · exfalso; solve_by_elim
      · rw [h1]; exact hQ
    · cases h
def Ba (P : Program) (tt : Table) (nat : l8) (pure : ma) (live : qJ) (all : Array Oper) (base : Nat) (o : Oper) (p : Pl) (st : St) : Option St :=
  match dq all st.fr o with
  | some true => match p.cls with
    | .n => Kq P tt nat pure o { st with mem := [] } st
    | .r => Kq P tt nat pure o { st with mem := dJ (p.mask.map (base + ·) ++ p.abs) st.mem } st
    | .a => if isHole st.mem (base + p.key) = true then (match eR tt o (base + p.key) st with
      | some (B, v) => some (St.put { st with mem := st.mem.set (base + p.key) B } o.dst v)
      | none => A9 live o (base + p.key) st) else none
    | .w => if isHole st.mem (base + p.key) = true then (match oI P tt (base + p.key) o st with
      | some (m, v) => some (St.put { st with mem := m } o.dst v)
      | none => none) else none
    | .s => match q6 tt (base + p.key) o st with
      | some m => some (St.put { st with mem := m } o.dst (.sc undef))
      | none => none
    | .b => match lu tt o st with
      | some v => some (st.put o.dst v)
      | none => none
    | .z => none
    | .e => none
  | some false => some (st.put o.dst (.sc undef))
  | none => none
theorem wM {P : Program} {tt : Table} {nat : l8} (uo : iG P nat) {pure : ma} {live : qJ} (hp : pS P pure) (hl : wK P live) {all : Array Oper} {base : Nat} {o : Oper} {p : Pl} {st s : St} {Q : St → Prop} (h : Ba P tt nat pure live all base o p st = some s) (hQ : Q s) : dV P tt all base o p st Q := by
  unfold Ba at h
  unfold dV
  split at h
  · rename_i hw; rw [hw]; dsimp only
    split at h
    · rename_i gj; rw [gj]; exact sC uo hp h hQ
    · rename_i gj; rw [gj]; exact sC uo hp h hQ
    · rename_i gj; rw [gj]; dsimp only
      split at h
      · rename_i hh
        refine ⟨hh, ?_⟩
        split at h
        · rename_i h1; cases h; rw [h1]; exact hQ
        · rename_i h1; rw [h1]; exact wL hl h hQ
      · cases h
    · rename_i gj; rw [gj]; dsimp only
      split at h
      · rename_i hh
        refine ⟨hh, ?_⟩
        split at h
        · rename_i h1; cases h; rw [h1]; exact hQ
        · cases h
      · cases h
    · rename_i gj; rw [gj]; dsimp only
      split at h
      · rename_i h1; cases h; rw [h1]; exact hQ
      · cases h
    · rename_i gj; rw [gj]; dsimp only
      split at h
      · rename_i h1; cases h; rw [h1]; exact hQ
      · cases h
    · cases h
    · cases h
  · rename_i hw; rw [hw]; cases h; exact hQ
  · cases h
def yE (P : Program) (tt : Table) (nat : l8) (pure : ma) (live : qJ) (all : Array Oper) (base : Nat) : List Oper → List Pl → St → Option St
  | [], _, st => some st
  | o :: r, p :: ps, st => match Ba P tt nat pure live all base o p st with
    | some s => Kn (uV o) o.dst (C4 (base + p.key) o st) s fun s' => yE P tt nat pure live all base r ps s'
    | none => none
  | _ :: _, [], _ => none
theorem qK {P : Program} {tt : Table} {nat : l8} (uo : iG P nat) {pure : ma} {live : qJ} (hp : pS P pure) (hl : wK P live) {all : Array Oper} {base : Nat} {Q : St → Prop} : ∀ {l : List Oper} {ps : List Pl} {st s : St}, yE P tt nat pure live all base l ps st = some s → Q s → runM P tt all base l ps st Q
  | [], _, st, s, h, hQ => by cases h; exact hQ
  | o :: r, p :: ps, st, s, h, hQ => by
    simp only [yE] at h
    simp only [runM]
    split at h
    · rename_i s1 h1
      rw [nL] at h
      exact wM uo hp hl h1 (qK uo hp hl h hQ)
    · cases h
  | _ :: _, [], _, _, h, _ => by simp [yE] at h

/-! ### code -/
mutual
def N3 : V → Nat
  | .ms b _ _ _ | .ptr b _ | .gr b | .mp b | .dw b _ _ _ => b + 1
  | .agg cs | .ch cs => Ez cs
  | .iw _ a b => max (Ez a) (Ez b)
  | _ => 0
def Ez : List V → Nat
  | [] => 0
  | c :: r => max (N3 c) (Ez r)
end
def V3 : aC → Nat
  | .box cs => Ez cs
  | .loop _ _ fr _ _ _ => Ez fr
  | .map bK _ => bK.foldr (fun k n => max (N3 k.2.2) n) 0
  | .eA m _ _ _ => m + 1
  | _ => 0
def RT (l : List aC) : Nat := l.foldr (fun B n => max (V3 B) n) 0
def N4 : Nat → Nat → List aC → Nat
  | 0, n, _ => n
  | k + 1, n, mem => let m := max n (RT (mem.take n)); if m = n then n else N4 k m mem
def RU (lo : Nat) (r : V) (mem : List aC) : Option (V × List aC) :=
  let n := N4 8 (max lo (N3 r)) mem
  if lo ≤ n ∧ ah n r = true ∧ (mem.take n).all (aB n) = true then some (r, mem.take n) else none

def rA : Exit → Bool
  | .ret => true
  | .normal => true
  | _ => false
def C6 : Value → Value → Bool
  | .agg a, .agg b => jP a.toList b.toList
  | .tuple a, .tuple b => jP a.toList b.toList
  | .func (.func f) a b, .func (.func g) c d => f == g && a.isEmpty && b.isEmpty && c.isEmpty && d.isEmpty
  | a, b => wD a b
theorem yF {a b : Value} (h : C6 a b = true) : a = b := by
  unfold C6 at h
  split at h
  · rename_i x y; rw [← Array.toArray_toList (xs := x), kT h, Array.toArray_toList]
  · rename_i x y; rw [← Array.toArray_toList (xs := x), kT h, Array.toArray_toList]
  · simp only [Bool.and_eq_true,beq_iff_eq,Array.isEmpty_iff] at h
    obtain ⟨⟨⟨⟨rfl, rfl⟩, rfl⟩, rfl⟩, rfl⟩ := h
    rfl
  · exact uM h
mutual
def fM : V → V → Bool
  | .undef, .undef => true
  | .gn, .gn => true
  | .sc a, .sc b => C6 a b
  | .agg a, .agg b => fi a b
  | .ch a, .ch b => fi a b
  | .slice a, .slice b => fi a b
  | .full a, .full b => fi a b
  | .cn a, .cn b => fi a b
  | .ms a b c d, .ms a' b' c' d' => a == a' && b == b' && c == c' && d == d'
  | .ptr a b, .ptr a' b' => a == a' && b == b'
  | .dw a b c d, .dw a' b' c' d' => a == a' && b == b' && c == c' && d == d'
  | .mp a, .mp b => a == b
  | .gr a, .gr b => a == b
  | .iw (.func f) a b, .iw (.func g) c d => f == g && fi a c && fi b d
  | _, _ => false
def fi : List V → List V → Bool
  | [], [] => true
  | a :: r, b :: s => fM a b && fi r s
  | _, _ => false
end
mutual
theorem oU : ∀ {a b : V}, fM a b = true → a = b
  | .undef, b, h => by cases b <;> simp [fM] at h <;> rfl
  | .gn, b, h => by cases b <;> simp [fM] at h <;> rfl
  | .sc a, b, h => by
    cases b <;> simp only [fM,Bool.false_eq_true] at h
    rw [yF h]
  | .agg a, b, h => by
    cases b <;> simp only [fM,Bool.false_eq_true] at h
    rw [dC h]
  | .ch a, b, h => by
    cases b <;> simp only [fM,Bool.false_eq_true] at h
    rw [dC h]
  | .slice a, b, h => by
    cases b <;> simp only [fM,Bool.false_eq_true] at h
    rw [dC h]
  | .full a, b, h => by
    cases b <;> simp only [fM,Bool.false_eq_true] at h
    rw [dC h]
  | .cn a, b, h => by
    cases b <;> simp only [fM,Bool.false_eq_true] at h
    rw [dC h]
  | .ms _ _ _ _, b, h => by
    cases b <;> simp only [fM,Bool.false_eq_true,Bool.and_eq_true,beq_iff_eq] at h
    obtain ⟨⟨⟨rfl, rfl⟩, rfl⟩, rfl⟩ := h; rfl
  | .ptr _ _, b, h => by
    cases b <;> simp only [fM,Bool.false_eq_true,Bool.and_eq_true,beq_iff_eq] at h
    obtain ⟨rfl, rfl⟩ := h; rfl
  | .dw _ _ _ _, b, h => by
    cases b <;> simp only [fM,Bool.false_eq_true,Bool.and_eq_true,beq_iff_eq] at h
    obtain ⟨⟨⟨rfl, rfl⟩, rfl⟩, rfl⟩ := h; rfl
  | .mp _, b, h => by
    cases b <;> simp only [fM,Bool.false_eq_true,beq_iff_eq] at h
    rw [h]
  | .gr _, b, h => by
    cases b <;> simp only [fM,Bool.false_eq_true,beq_iff_eq] at h
    rw [h]
  | .iw f a c, b, h => by
    cases b with
    | iw g a' c' =>
      cases f <;> cases g <;> simp only [fM,Bool.false_eq_true,Bool.and_eq_true,beq_iff_eq] at h
      obtain ⟨⟨rfl, h1⟩, h2⟩ := h
      rw [dC h1, dC h2]
    | _ => cases f <;> simp [fM] at h
theorem dC : ∀ {a b : List V}, fi a b = true → a = b
  | [], b, h => by cases b <;> simp [fi] at h <;> rfl
  | c :: r, b, h => by
    cases b with
    | nil => simp [fi] at h
    | cons d s =>
      simp only [fi,Bool.and_eq_true] at h
      rw [oU h.1, dC h.2]
end
def mP : List (Value × Nat × V) → List (Value × Nat × V) → Bool
  | [], [] => true
  | a :: r, b :: s => C6 a.1 b.1 && a.2.1 == b.2.1 && fM a.2.2 b.2.2 && mP r s
  | _, _ => false
theorem sD : ∀ {a b : List (Value × Nat × V)}, mP a b = true → a = b
  | [], [], _ => rfl
  | (k, n, v) :: r, (k', n', v') :: s, h => by
    simp only [mP,Bool.and_eq_true,beq_iff_eq] at h
    obtain ⟨⟨⟨h1, h2⟩, h3⟩, h4⟩ := h
    rw [yF h1, h2, oU h3, sD h4]
  | [], _ :: _, h => by simp [mP] at h
  | _ :: _, [], h => by simp [mP] at h
def G9 : aC → aC → Bool
  | .hole, .hole => true
  | .dead, .dead => true
  | .je, .je => true
  | .box a, .box b => fi a b
  | .rows v e a, .rows v' e' b => v == v' && e == e' && fi a b
  | .pB v e a, .pB v' e' b => v == v' && e == e' && fi a b
  | .map a c, .map b d => c == d && mP a b
  | .eA a b c d, .eA a' b' c' d' => a == a' && b == b' && c == c' && d == d'
  | _, _ => false
theorem Ha {a b : aC} (h : G9 a b = true) : a = b := by
  unfold G9 at h
  split at h
  · rfl
  · rfl
  · rfl
  · rw [dC h]
  · simp only [Bool.and_eq_true,beq_iff_eq] at h; obtain ⟨⟨rfl, rfl⟩, h⟩ := h; rw [dC h]
  · simp only [Bool.and_eq_true,beq_iff_eq] at h; obtain ⟨⟨rfl, rfl⟩, h⟩ := h; rw [dC h]
  · simp only [Bool.and_eq_true,beq_iff_eq] at h; obtain ⟨rfl, h⟩ := h; rw [sD h]
  · simp only [Bool.and_eq_true,beq_iff_eq] at h; obtain ⟨⟨⟨rfl, rfl⟩, rfl⟩, rfl⟩ := h; rfl
  · cases h
def pT : List aC → List aC → Bool
  | [], [] => true
  | a :: r, b :: s => G9 a b && pT r s
  | _, _ => false
theorem uW : ∀ {a b : List aC}, pT a b = true → a = b
  | [], [], _ => rfl
  | x :: r, y :: s, h => by simp only [pT,Bool.and_eq_true] at h; rw [Ha h.1, uW h.2]
  | [], _ :: _, h => by simp [pT] at h
  | _ :: _, [], h => by simp [pT] at h
def dedup : List (V × List aC) → List (V × List aC)
  | [] => []
  | p :: r => if (dedup r).any (fun q => fM p.1 q.1 && pT p.2 q.2) = true then dedup r else p :: dedup r
theorem pU : ∀ {l : List (V × List aC)} {p : V × List aC}, p ∈ l → p ∈ dedup l
  | q :: r, p, h => by
    simp only [dedup]
    split
    · rename_i Nv
      rcases List.mem_cons.1 h with rfl | h
      · obtain ⟨q', h1, h2⟩ := List.any_eq_true.1 Nv
        simp only [Bool.and_eq_true] at h2
        have : p = q' := Prod.ext (oU h2.1) (uW h2.2)
        rw [this]; exact h1
      · exact pU h
    · rcases List.mem_cons.1 h with rfl | h
      · exact List.mem_cons_self ..
      · exact List.mem_cons_of_mem _ (pU h)
def QC (P : Program) (tt : Table) (code : kj) : uT := fun f vs mem =>
  match P.funcs[f]? with
  | some fn => match fn.body with
    | some body => (kl (QB vs fun vs => G7 mem fun mem => Kn true none [] (cE fn vs mem) fun s => code false body s) fun o => if rA o.1 = true then (match kU tt fn.results o.2 with
      | some r => fV r fun r => match RU mem.length r o.2.mem with | some p => G7 p.2 fun m => some [(p.1, m)] | none => none
      | none => none) else none).map dedup
    | none => none
  | none => none
def yG (P : Program) (tt : Table) (code : kj) : ma := fun f vs =>
  match P.funcs[f]? with
  | some fn => match fn.body with
    | some body => match kl (QB vs fun vs => Kn true none [] (cE fn vs []) fun s => code false body s) fun o => if rA o.1 = true then (match wB tt fn.results o.2 with | some r => fV r fun r => some [r] | none => none) else none with
      | some (r :: rs) => if rs.all (fM r) = true then some r else none
      | _ => none
    | none => none
  | none => none
def Bb : List (V × List aC) → Option (Nat × Nat × List V)
  | [(.ms 0 v 0 l, [.rows v' e rs])] => if v' = v ∧ l = rs.length then some (v, e, rs) else none
  | [(.ms 0 v 0 0, [.rows v' e []]), (.sc (.slice none 0 0), [])] => if v' = v then some (v, e, []) else none
  | [(.sc (.slice none 0 0), []), (.ms 0 v 0 0, [.rows v' e []])] => if v' = v then some (v, e, []) else none
  | _ => none
theorem Bc {outs : List (V × List aC)} {v e : Nat} {rs : List V} (h : Bb outs = some (v, e, rs)) : ∀ r m, (r, m) ∈ outs → (r = .ms 0 v 0 rs.length ∧ m = [.rows v e rs]) ∨ (r = .sc (.slice none 0 0) ∧ m = [] ∧ rs = []) := by
  unfold Bb at h
  split at h
  · split at h
    · rename_i hc; cases h; obtain ⟨rfl, rfl⟩ := hc
      intro r m hm; simp at hm; exact .inl hm
    · cases h
  · split at h
    · rename_i hc; cases h; subst hc
      intro r m hm; simp at hm
      rcases hm with ⟨rfl, rfl⟩ | ⟨rfl, rfl⟩
      · exact .inl ⟨rfl, rfl⟩
      · exact .inr ⟨rfl, rfl, rfl⟩
    · cases h
  · split at h
    · rename_i hc; cases h; subst hc
      intro r m hm; simp at hm
      rcases hm with ⟨rfl, rfl⟩ | ⟨rfl, rfl⟩
      · exact .inr ⟨rfl, rfl, rfl⟩
      · exact .inl ⟨rfl, rfl⟩
    · cases h
  · cases h
theorem fm.live {P : Program} {f : FuncId} {vs : List V} {R : V → List aC → Prop} {v e : Nat} {rs : List V} (h : fm P f vs [] R) (hR : ∀ r m, R r m → (r = .ms 0 v 0 rs.length ∧ m = [.rows v e rs]) ∨ (r = .sc (.slice none 0 0) ∧ m = [] ∧ rs = [])) : sj P f vs e rs := by
  refine ⟨v, h.1, fun E w xs hs hx => (h.2 E w xs hs hx).mono ?_⟩
  rintro en w' ⟨E', x, r, m, rfl, hr, dX, kc, mY⟩
  rcases hR r m hr with ⟨rfl, rfl⟩ | ⟨rfl, rfl, rfl⟩
  · exact ⟨E', x, rfl, dX, kc, mY⟩
  · obtain rfl := bS mY
    exact ⟨E', _, rfl, dX, by simpa using kc.oS v e, .dg _ _ _ _⟩
def Hb (P : Program) (tt : Table) (code : kj) : qJ := fun f vs =>
  match QC P tt code f vs [] with
  | some outs => match Bb outs with | some (_, e, rs) => some (e, rs) | none => none
  | none => none
def Hc (lo : Nat) (b : Bool) (m : List aC) : Option (List (Bool × List aC)) :=
  let n := N4 8 lo m
  if lo ≤ n ∧ (m.take n).all (aB n) = true then G7 (m.take n) fun m => some [(b, m)] else none
theorem Bd {lo : Nat} {b : Bool} {m : List aC} {x : List (Bool × List aC)} (h : Hc lo b m = some x) : ∃ n, lo ≤ n ∧ (m.take n).all (aB n) = true ∧ (b, m.take n) ∈ x := by
  unfold Hc at h
  dsimp only at h
  split at h
  · rename_i hc; rw [kW] at h; cases h; exact ⟨_, hc.1, hc.2, by simp⟩
  · cases h
def Kr (code : kj) : Es := fun k vs mem =>
  match mem[k]? with
  | some (.loop .ready none fr params assign body) =>
    if vs.length = params.size then
      kl (QB vs fun vs => Kn true none [] { fr := oF params.toList vs fr, mem := mem } fun s => code true assign s) fun o => match o.1, o.2.mem[k]? with
        | .normal, some (.loop .ready none Mh p1 J8 J9) =>
          kl (Kn true none [] { o.2 with mem := o.2.mem.set k (.loop .busy none Mh p1 J8 J9) } fun s => code true body s) fun u => match si u.1, u.2.mem[k]? with
            | some jump, some (.loop _ _ Ka p2 GJ GK) =>
              Hc mem.length jump.isNone (u.2.mem.set k (.loop (if jump.isNone then .ready else .done) jump Ka p2 GJ GK))
            | _, _ => none
        | _, _ => none
    else none
  | _ => none
def Ks : LoopState → Bool
  | .busy => false
  | _ => true

def pV {α : Type} (f : α → Option (List (Exit × St))) : List α → Option (List (Exit × St))
  | [] => none
  | a :: r => match f a with | some x => some x | none => pV f r
theorem qL {α : Type} {f : α → Option (List (Exit × St))} : ∀ {l : List α} {x : List (Exit × St)}, pV f l = some x → ∃ a ∈ l, f a = some x
  | [], x, h => by cases h
  | a :: r, x, h => by
    simp only [pV] at h
    split at h
    · rename_i hx; cases h; exact ⟨a, List.mem_cons_self .., hx⟩
    · obtain ⟨b, h1, h2⟩ := qL h; exact ⟨b, List.mem_cons_of_mem _ h1, h2⟩
def N5 (jS : FuncId → List V → Option V) (pure : ma) : ma := fun f vs => match jS f vs with | some r => some r | none => pure f vs
theorem Kt {P : Program} {jS : FuncId → List V → Option V} {pure : ma} (h : l9 P jS) (hp : pS P pure) : pS P (N5 jS pure) := fun f vs r hr => by
  unfold N5 at hr
  split at hr
  · rename_i r' h1; cases hr; exact h _ _ _ h1
  · exact hp _ _ _ hr
def Ku (P : Program) (tt : Table) (nat : l8) (jS : FuncId → List V → Option V) (code : kj) (ops : Array Oper) (st : St) (p : List Pl × Nat) : Option (List (Exit × St)) :=
  if su ops p.1 = true then (match yE P tt nat (N5 jS (yG P tt code)) (Hb P tt code) ops st.mem.length ops.toList p.1 { st with mem := st.mem ++ List.replicate p.2 .hole } with
    | some s => some [(.normal, s)]
    | none => none) else none
def j4 (P : Program) (tt : Table) (pl : yv) (nat : l8) (jS : FuncId → List V → Option V) (code : kj) : kj := fun ρ c st =>
  match c with
  | .skip => some [(.normal, st)]
  | .ret => some [(.ret, st)]
  | .exit id => some [(.exit id, st)]
  | .seq a b => kl (code ρ a st) fun o => match o.1 with
    | .normal => code ρ b o.2
    | e => some [(e, o.2)]
  | .cond x a b => match st.eval x with
    | .sc (.bool t) => code ρ (if t = true then a else b) st
    | _ => none
  | .block id c => kl (code ρ c st) fun o => match o.1 with
    | .exit j => if j = id then some [(.normal, o.2)] else some [(.exit j, o.2)]
    | e => some [(e, o.2)]
  | .loop c => kl (code ρ c st) fun o => match o.1 with
    | .normal => code ρ (.loop c) o.2
    | e => some [(e, o.2)]
  | .region _ ops false => match Ew P tt nat jS (QC P tt code) (Kr code) ops ops.toList st with
    | some l => some (l.map fun s => (.normal, s))
    | none => match yA st with
      | some st' => kl (Ew P tt nat jS (QC P tt code) (Kr code) ops ops.toList st') fun s => some [(.normal, s)]
      | none => none
  | .region id ops true => match pV (Ku P tt nat jS code ops st) (pl id ops) with
    | some x => some x
    | none => match yA st with
      | some st' => pV (Ku P tt nat jS code ops st') (pl id ops)
      | none => none
  | .rangeFunc f params assign body => if ρ = true then none else
    match bw (st.eval f) [.gr st.mem.length] with
    | some (g, vs) => kl (QC P tt code g vs (st.mem ++ [.loop .ready none st.fr params assign body])) fun o => match o.2[st.mem.length]? with
      | some (.loop s iU _ _ _ _) => if Ks s = true then (match iU with
        | none => Kn true none [] { st with mem := o.2.set st.mem.length .dead } fun s => some [(.normal, s)]
        | some c => Kn true none [] { st with mem := o.2.set st.mem.length .dead } fun s => code false c s) else none
      | _ => none
    | none => none
  | _ => none

def ev (P : Program) (tt : Table) (pl : yv) (nat : l8) (jS : FuncId → List V → Option V) (n : Nat) : kj := Nat.rec (fun _ _ _ => none) (fun _ r => j4 P tt pl nat jS r) n

def sE (P : Program) (code : kj) : Prop := ∀ b c st outs, code b c st = some outs → ∀ (ρ : Option Nat) (n0 : Nat) (Q : Exit → St → Prop), (b = true ∨ ρ = none) → (∀ o ∈ outs, Q o.1 o.2) → dA P ρ n0 c st Q

section
variable {P : Program} {tt : Table} {pl : yv} {nat : l8} {jS : FuncId → List V → Option V} (ht : TT P tt) (hm : P.follows .mixedOrders = true)
  (bO : ∀ (f : FuncId) (fn : Func) (body : Code), P.funcs[f]? = some fn → fn.body = some body → ∀ (xs : Array Value) (w : World), (callFunc f xs).run P w = .ok (.enter f xs) w)
include ht bO
theorem wN {code : kj} (F5 : sE P code) : A5 P (QC P tt code) := by
  intro f vs mem outs h
  unfold QC at h
  split at h
  · rename_i fn hf
    split at h
    · rename_i body hb
      rw [Option.map_eq_some_iff] at h
      obtain ⟨YT, h, V0⟩ := h
      obtain ⟨l, h1, h2⟩ := dQ h
      rw [wJ, kW, nL] at h1
      refine AR ht hf hb (bO f fn body hf hb) (F5 _ _ _ _ h1 none _ _ (.inr rfl) fun o ho => ?_)
      obtain ⟨b, h3, h4⟩ := h2 o ho
      split at h3
      · rename_i he
        split at h3
        · rename_i r hr
          rw [yy] at h3
          split at h3
          · rename_i p hp
            rw [kW] at h3
            cases h3
            unfold RU at hp
            dsimp only at hp
            split at hp
            · rename_i ow
              cases hp
              refine ⟨?_, r, _, ow.1, hr, ow.2.1, ow.2.2, by rw [← V0]; exact pU (h4 _ (by simp))⟩
              cases Qo : o.1 <;> simp [rA, Qo] at he <;> simp
            · cases hp
          · cases h3
        · cases h3
      · cases h3
    · cases h
  · cases h
theorem yH {code : kj} (F5 : sE P code) : pS P (yG P tt code) := by
  intro f vs r h
  unfold yG at h
  split at h
  · rename_i fn hf
    split at h
    · rename_i body hb
      split at h
      · rename_i r1 rs Gj
        split at h
        · rename_i bp
          cases h
          obtain ⟨l, h1, h2⟩ := dQ Gj
          rw [wJ, nL] at h1
          refine GH ht hf hb (bO f fn body hf hb) (F5 _ _ _ _ h1 none _ _ (.inr rfl) fun o ho => ?_)
          obtain ⟨b, h3, h4⟩ := h2 o ho
          split at h3
          · rename_i he
            split at h3
            · rename_i r2 hr
              rw [yy] at h3
              cases h3
              have Ea : r2 = r := by
                rcases List.mem_cons.1 (h4 r2 (by simp)) with h | h
                · exact h
                · exact (oU (List.all_eq_true.1 bp _ h)).symm
              subst Ea
              refine ⟨?_, hr⟩
              cases Qo : o.1 <;> simp [rA, Qo] at he <;> simp
            · cases h3
          · cases h3
        · cases h
      · cases h
    · cases h
  · cases h
theorem Hd {code : kj} (F5 : sE P code) : wK P (Hb P tt code) := by
  intro f vs e rs h
  unfold Hb at h
  split at h
  · rename_i outs ho
    split at h
    · rename_i v e' rs' hl
      cases h
      exact (wN ht bO F5 f vs [] outs ho).live fun r m hr => Bc hl r m hr
    · cases h
  · cases h
omit ht bO in
theorem C7 {code : kj} (F5 : sE P code) : G6 P (Kr code) := by
  intro k vs mem outs h
  unfold Kr at h
  split at h
  · rename_i fr params assign body hk
    split at h
    · rename_i hlen
      obtain ⟨l1, h1, h2⟩ := dQ h
      rw [wJ, nL] at h1
      refine oG hk hlen fun l => F5 _ _ _ _ h1 (some l) _ _ (.inl rfl) fun o ho => ?_
      obtain ⟨b, h3, h4⟩ := h2 o ho
      split at h3
      · rename_i Mh p1 J8 J9 he dP
        refine ⟨he, Mh, p1, J8, J9, dP, ?_⟩
        obtain ⟨l2, h5, h6⟩ := dQ h3
        rw [nL] at h5
        refine F5 _ _ _ _ h5 (some l) _ _ (.inl rfl) fun u hu => ?_
        obtain ⟨b2, h7, h8⟩ := h6 u hu
        split at h7
        · rename_i jump s2 UJ Ka p2 GJ GK hj iz
          obtain ⟨n, hn, Ju, jg⟩ := Bd h7
          exact ⟨n, jump, s2, UJ, Ka, p2, GJ, GK, hn, hj, iz, Ju, h4 _ (h8 _ jg)⟩
        · cases h7
      · cases h3
    · cases h
  · cases h

include hm in
theorem RV (Et : l9 P jS) (uo : iG P nat) : ∀ (n : Nat), sE P (ev P tt pl nat jS n) ∧ ∀ b c st outs, ev P tt pl nat jS n b (.loop c) st = some outs → ∀ (ρ : Option Nat) (n0 : Nat) (Q : Exit → St → Prop), (b = true ∨ ρ = none) → (∀ o ∈ outs, Q o.1 o.2) → jO P ρ n0 c n st Q := by
  intro n
  induction n with
  | zero => exact ⟨fun b c st outs h => by simp [ev] at h, fun b c st outs h => by simp [ev] at h⟩
  | succ n ih =>
    obtain ⟨EA, ihl⟩ := ih
    have lx : ∀ b c st, ev P tt pl nat jS (n + 1) b c st = j4 P tt pl nat jS (ev P tt pl nat jS n) b c st := fun _ _ _ => rfl
    have loop : ∀ b c st outs, ev P tt pl nat jS (n + 1) b (.loop c) st = some outs → ∀ (ρ : Option Nat) (n0 : Nat) (Q : Exit → St → Prop), (b = true ∨ ρ = none) → (∀ o ∈ outs, Q o.1 o.2) → jO P ρ n0 c (n + 1) st Q := by
      intro b c st outs h ρ n0 Q hb hQ
      rw [lx] at h
      simp only [j4] at h
      obtain ⟨l, h1, h2⟩ := dQ h
      refine EA _ _ _ _ h1 ρ n0 _ hb fun o ho => ?_
      obtain ⟨e, s⟩ := o
      obtain ⟨b', h3, h4⟩ := h2 _ ho
      cases e with
      | normal => exact ihl _ _ _ _ h3 ρ n0 Q hb fun o' LZ => hQ _ (h4 _ LZ)
      | _ => cases h3; exact hQ (_, _) (h4 _ (by simp))
    refine ⟨fun b c st outs h ρ n0 Q hb hQ => ?_, loop⟩
    cases c with
    | skip => rw [lx] at h; cases h; exact cq (hQ (_, _) (by simp))
    | ret => rw [lx] at h; cases h; exact fb (hQ (_, _) (by simp))
    | exit id => rw [lx] at h; cases h; exact ib (hQ (_, _) (by simp))
    | seq x y =>
      rw [lx] at h
      simp only [j4] at h
      obtain ⟨l, h1, h2⟩ := dQ h
      refine bN (EA _ _ _ _ h1 ρ n0 _ hb fun o ho => ?_)
      obtain ⟨e, s⟩ := o
      obtain ⟨b', h3, h4⟩ := h2 _ ho
      cases e with
      | normal => exact EA _ _ _ _ h3 ρ n0 Q hb fun o' LZ => hQ _ (h4 _ LZ)
      | _ => cases h3; exact hQ (_, _) (h4 _ (by simp))
    | cond x y z =>
      rw [lx] at h
      simp only [j4] at h
      split at h
      · rename_i t hx
        exact bG hx (EA _ _ _ _ h ρ n0 Q hb hQ)
      · cases h
    | block id c =>
      rw [lx] at h
      simp only [j4] at h
      obtain ⟨l, h1, h2⟩ := dQ h
      refine b9 (EA _ _ _ _ h1 ρ n0 _ hb fun o ho => ?_)
      obtain ⟨e, s⟩ := o
      obtain ⟨b', h3, h4⟩ := h2 _ ho
      cases e with
      | exit j =>
        dsimp only at h3
        simp only [eX]
        split at h3
        · rename_i hj; cases h3; rw [if_pos hj]; exact hQ (_, _) (h4 _ (by simp))
        · rename_i hj; cases h3; rw [if_neg hj]; exact hQ (_, _) (h4 _ (by simp))
      | _ => cases h3; exact hQ (_, _) (h4 _ (by simp))
    | loop c => exact oD (n + 1) (loop _ _ _ _ h ρ n0 Q hb hQ)
    | region id ops d =>
      rw [lx] at h
      cases d with
      | false =>
        simp only [j4] at h
        split at h
        · rename_i l h1
          cases h
          exact gE ht (kY Et uo (wN ht bO EA) (C7 EA) h1 fun s hs => hQ (_, _) (List.mem_map.2 ⟨s, hs, rfl⟩))
        · split at h
          · rename_i st' Gu
            obtain ⟨l, h1, h2⟩ := dQ h
            refine sB Gu (gE ht (kY Et uo (wN ht bO EA) (C7 EA) h1 fun s hs => ?_))
            obtain ⟨b', h3, h4⟩ := h2 _ hs
            cases h3
            exact hQ (_, _) (h4 _ (by simp))
          · cases h
      | true =>
        simp only [j4] at h
        have one : ∀ (st : St) (outs : List (Exit × St)), (∀ o ∈ outs, Q o.1 o.2) → pV (Ku P tt nat jS (ev P tt pl nat jS n) ops st) (pl id ops) = some outs → dA P ρ n0 (.region id ops true) st Q := fun st outs hQ h => by
          obtain ⟨p, -, hp⟩ := qL h
          unfold Ku at hp
          split at hp
          · rename_i dc
            split at hp
            · rename_i s hs
              cases hp
              exact mO ht hm p.1 p.2 dc (qK uo (Kt Et (yH ht bO EA)) (Hd ht bO EA) hs (hQ (_, _) (by simp)))
            · cases hp
          · cases hp
        split at h
        · rename_i x hx; cases h; exact one st _ hQ hx
        · split at h
          · rename_i st' Gu
            exact sB Gu (one st' _ hQ h)
          · cases h
    | rangeFunc f params assign body =>
      rw [lx] at h
      simp only [j4] at h
      split at h
      · cases h
      · rename_i hbf
        have hρ : ρ = none := by rcases hb with h | h
                                 · exact absurd h hbf
                                 · exact h
        subst hρ
        split at h
        · rename_i g vs hg
          obtain ⟨l, h1, h2⟩ := dQ h
          refine lZ hg (wN ht bO EA _ _ _ _ h1) fun r qY hr => ?_
          obtain ⟨b', h3, h4⟩ := h2 _ hr
          dsimp only at h3
          split at h3
          · rename_i s iU Qy JA JB JC Kc
            split at h3
            · rename_i hnb
              refine ⟨s, iU, Qy, JA, JB, JC, Kc, (fun e => by subst e; cases hnb), ?_⟩
              split at h3
              · rw [nL] at h3; cases h3; exact hQ (_, _) (h4 _ (by simp))
              · rename_i c
                rw [nL] at h3
                exact EA _ _ _ _ h3 none n0 Q (.inr rfl) fun o' LZ => hQ _ (h4 _ LZ)
            · cases h3
          · cases h3
        · cases h
    | _ => rw [lx] at h; simp [j4] at h

include hm in
theorem RW (Et : l9 P jS) (uo : iG P nat) (n : Nat) {f : FuncId} {vs : List V} {r : V} (h : yG P tt (ev P tt pl nat jS n) f vs = some r) : aR P f vs r := yH ht bO (RV ht hm bO Et uo n).1 f vs r h
end
def V4 (P : Program) : Bool := P.funcs.all fun fn => fn.name != "runtime.NumGoroutine"
theorem He {P : Program} (h : V4 P = true) (f : FuncId) (fn : Func) (body : Code) (hf : P.funcs[f]? = some fn) (hb : fn.body = some body) (xs : Array Value) (w : World) : (callFunc f xs).run P w = .ok (.enter f xs) w := by
  have aL : f < P.funcs.size := (Array.getElem?_eq_some_iff.1 hf).1
  have hn := (Array.all_eq_true.1 h) f aL
  have EB : P.funcs[f] = fn := (Array.getElem?_eq_some_iff.1 hf).2
  rw [EB] at hn
  have bL : (fn.name == "runtime.NumGoroutine") = false := by simpa using hn
  simp only [callFunc,program,Sem.run_bind]
  show (match P.funcs[f]? with | none => _ | some fn => _ : Sem Next).run P w = _
  rw [hf]
  dsimp only
  rw [bL, hb]
  rfl
def N6 (l : List (Nat × Nat × Nat × List Pl)) : yv := fun id ops =>
  (l.filter fun e => e.1 == id && e.2.1 == ops.size).map fun e => (e.2.2.2, e.2.2.1)
def Be : List V → Option V
  | [.sc (.string a), .sc (.string b)] => if 2 ≤ b.size ∧ D1 b.size = true ∧ a.size < 4294967281 then
      (match (List.range (a.size + 1 - b.size)).find? fun i => a.extract i (i + b.size) == b with
        | some i => some (.sc (.int .i64 i))
        | none => some (.sc (.int .i64 (-1)))) else none
  | _ => none
theorem EC {P : Program} {f : FuncId} {fn : Func} {g : Nat} (hf : P.funcs[f]? = some fn) (hn : (fn.name == "runtime.NumGoroutine") = false) (hb : fn.body = none) (RX : Extern.findNext fn = none) (Gc : Extern.find fn = some Extern.BytealgIndex.index)
    (hg : ∀ w, (globalAddr "internal/bytealg.MaxLen").run P w = .ok ⟨g, 0, none⟩ w) (hG : aK.g = some g) {vs : List V} {r : V} (h : Be vs = some r) : r8 P f vs r := fun E w xs hF hx => by
  unfold Be at h
  split at h
  · rename_i a b
    split at h
    · rename_i hc
      obtain ⟨h2, hm, ha⟩ := hc
      rw [vS] at hm
      have hm : (b.size : Int) ≤ aK.n := by simpa using hm
      obtain ⟨x, r1, hy, AE, hx⟩ := hx.of_cons
      obtain ⟨y, r2, hz, Ea, hx⟩ := hx.of_cons
      have := hx.of_nil
      subst this; subst hz
      obtain rfl := bS AE
      obtain rfl := bS Ea
      obtain rfl : xs = #[.string a, .string b] := by rw [← Array.toArray_toList (xs := xs), hy]
      have kf : w.cell? ⟨g, 0, none⟩ = some (.int .i64 aK.n) := hF _ _ (E.gl.n g hG)
      have V5 : Extern.BytealgIndex.maxLen.run P w = .ok aK.n w := by
        simp [Extern.BytealgIndex.maxLen, hg, load, Sem.run, kf, asInt, asIntOf]
      have di : (Extern.BytealgIndex.index #[.string a, .string b]).run P w = .ok (match (List.range (a.size + 1 - b.size)).find? fun i => a.extract i (i + b.size) == b with | some i => goInt i | none => goInt (-1)) w := by
        show (do
          let a ← Extern.Bytes.bytesOf (.string a)
          let b ← Extern.Bytes.bytesOf (.string b)
          if b.size < 2 || (b.size : Int) > (← Extern.BytealgIndex.maxLen) then
            unsupported (.noEntry "extern/internal/bytealg.Index.length")
          if a.size ≥ 2 ^ 32 - 15 then
            unsupported (.noEntry "extern/internal/bytealg.Index: a haystack of 2^32 - 15 bytes or more")
          match (List.range (a.size + 1 - b.size)).find? fun i => a.extract i (i + b.size) == b with
          | some i => pure (goInt i)
          | none => pure (goInt (-1)) : Sem Value).run P w = _
        have e1 : (decide (b.size < 2)) = false := by simp; omega
        have e2 : decide ((b.size : Int) > aK.n) = false := by simp; omega
        have e3 : ¬ a.size ≥ 2 ^ 32 - 15 := by omega
        simp only [Extern.Bytes.bytesOf,Sem.run_bind,Sem.run_pure,Result.andThen_ok,V5,e1,e2,Bool.or_self,Bool.false_eq_true,if_false,e3]
        split <;> rfl
      refine ⟨(match (List.range (a.size + 1 - b.size)).find? fun i => a.extract i (i + b.size) == b with | some i => goInt i | none => goInt (-1)), ?_, ?_⟩
      · simp only [callFunc,program,Sem.run_bind]
        show (match P.funcs[f]? with | none => _ | some fn => _ : Sem Next).run P w = _
        rw [hf]
        dsimp only
        rw [hn, hb]
        simp only [Bool.false_eq_true,if_false,Option.isNone_none,if_true,RX,Gc,Sem.run_bind,mark,Sem.run,Result.andThen_ok]
        rw [di]; rfl
      · split at h
        · cases h; exact .sc _ _
        · cases h; exact .sc _ _
    · cases h
  · cases h
end Go.Eng
end
