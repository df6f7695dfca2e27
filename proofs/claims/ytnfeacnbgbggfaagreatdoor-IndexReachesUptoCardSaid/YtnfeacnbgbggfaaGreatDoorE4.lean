/-
  THE ENGINE, V: the engine as a function: what a closed call comes to, by computing.
-/
import Derived.Test.YtnfeacnbgbggfaaGreatDoorE3
set_option linter.all false
section
namespace Go.Eng
variable [aG]

abbrev yv := Nat → Array Oper → List (List Pl × Nat)
abbrev uV := FuncId → List V → List ay → Option (List (V × List ay))
abbrev lI := FuncId → List V → Option V
def ju (P : Program) (nat : lI) : Prop := ∀ f vs r, nat f vs = some r → sr P f vs r
abbrev Ee := Nat → List V → List ay → Option (List (Bool × List ay))
abbrev jL := Bool → Code → St → Option (List (Exit × St))

def jM {α β : Type} (x : Option (List α)) (f : α → Option (List β)) : Option (List β) :=
  match x with
  | none => none
  | some l => l.foldr (fun a acc => match f a, acc with | some b, some c => some (b ++ c) | _, _ => none) (some [])
theorem uW {α β : Type} {f : α → Option (List β)} : ∀ {l : List α} {out : List β}, jM (some l) f = some out → ∀ a ∈ l, ∃ b, f a = some b ∧ ∀ x ∈ b, x ∈ out
  | [], _, _, a, ha => by simp at ha
  | c :: r, out, h, a, ha => by
    simp only [jM,List.foldr_cons] at h
    split at h
    · rename_i b t hb hc
      cases h
      rcases List.mem_cons.1 ha with rfl | ha
      · exact ⟨b, hb, fun x hx => List.mem_append_left _ hx⟩
      · obtain ⟨b', h1, h2⟩ := uW (l := r) (out := t) hc a ha
        exact ⟨b', h1, fun x hx => List.mem_append_right _ (h2 x hx)⟩
    · cases h
theorem dq {α β : Type} {x : Option (List α)} {f : α → Option (List β)} {out : List β} (h : jM x f = some out) : ∃ l, x = some l ∧ ∀ a ∈ l, ∃ b, f a = some b ∧ ∀ y ∈ b, y ∈ out := by
  cases x with
  | none => cases h
  | some l => exact ⟨l, rfl, uW h⟩

def Gv (st : St) (it : V) (str : Bool) : Option (List (V × List ay)) :=
  match it with
  | .ptr b 0 => match st.mem[b]? with
    | some (.eo m since seen last) => match st.mem[m]? with
      | some (.map br clock) => if str = false ∧ vX br seen last = false then
          some ((if (sd br seen since).isEmpty then [(se, st.mem)] else []) ++
            (sd br seen since ++ F2 br seen since).map fun e => (F3 e, st.mem.set b (.eo m since (seen ++ [e.2.1]) clock)))
        else none
      | _ => none
    | some (.gX s pos) => if str = true then (if pos < s.size then some [(Mj s pos, st.mem.set b (.gX s (pos + (Utf8.decode s pos).2)))] else some [(se, st.mem)]) else none
    | some .iv => if str = false then some [(se, st.mem)] else none
    | _ => none
  | _ => none
theorem cJ {α : Type} {Q : α → Prop} {a : α} (h : ∀ p ∈ [a], Q p) : Q a := h a (List.mem_singleton.2 rfl)
theorem yw {st : St} {dst : Option Tmp} {it : V} {str : Bool} {outs : List (V × List ay)} {Q : St → Prop} (h : Gv st it str = some outs) (hQ : ∀ p ∈ outs, Q (St.put { st with mem := p.2 } dst p.1)) : oy st dst it str Q := by
  unfold Gv at h
  unfold oy
  split at h
  · split at h
    · rename_i h1
      simp only [h1]
      split at h
      · rename_i h2
        simp only [h2]
        split at h
        · rename_i h3
          cases h
          refine ⟨h3.1, h3.2, fun he => ?_, fun e he => ?_⟩
          · have := hQ (se, st.mem) (by rw [he]; exact List.mem_append_left _ (List.mem_singleton.2 rfl)); exact this
          · have := hQ _ (List.mem_append_right _ (List.mem_map.2 ⟨e, he, rfl⟩)); exact this
        · cases h
      · cases h
    · rename_i h1
      simp only [h1]
      split at h
      · rename_i h3
        refine ⟨h3, ?_⟩
        split at h
        · rename_i h4; cases h; rw [if_pos h4]; exact (by have h9 := cJ hQ; exact h9)
        · rename_i h4; cases h; rw [if_neg h4]; exact (by have h9 := cJ hQ; exact h9)
      · cases h
    · rename_i h1
      simp only [h1]
      split at h
      · rename_i h3
        cases h
        exact ⟨h3, (by have h9 := cJ hQ; exact h9)⟩
      · cases h
    · cases h
  · cases h

def R3 (jv : FuncId → List V → Option V) (g : FuncId) (vs : List V) (st : St) : Option (V × List ay) :=
  match cD st.mem vs with
  | some vs' => match jv g vs' with
    | some r => some (r, cP st.mem (vs.flatMap cr) r)
    | none => none
  | none => none
def sN (P : Program) (jv : FuncId → List V → Option V) : Prop := ∀ f vs r, jv f vs = some r → aP P f vs r
def Gw (P : Program) (tt : Table) (nat : lI) (jv : FuncId → List V → Option V) (call : uV) (ia : Ee) (key : Nat) (o : Oper) (st : St) : Option (List (V × List ay)) :=
  match o.op with
  | .alloc T => match tt T with
    | some i => some [((.ptr key 0), bg st.mem key (.box (i.zero.map V.sc)))]
    | none => none
  | .box _ x => match fH (st.eval x) with
    | some cs => some [((.ptr key 0), bg st.mem key (.box cs))]
    | none => none
  | .build T parts => match gU P tt T parts.toList st.eval with
    | some v => some [(v, st.mem)]
    | none => none
  | .buildSlice T len parts => match po tt T len parts.toList st.eval with
    | some (size, rs) => some [((.ms key 0 0 len), bg st.mem key (.rows 0 size rs))]
    | none => match ny tt T len parts.toList st with
      | some (size, rs) => some [((.ms key 0 0 len), bg (bY st.mem (fg st.eval parts.toList)) key (.rows 0 size rs))]
      | none => none
  | .store T p x => match gR tt st.mem T (st.eval p) (st.eval x) with
    | some aF => some [((.sc undef), aF)]
    | none => match v8 tt st.mem T (st.eval p) (st.eval x) with
      | some aF => some [((.sc undef), aF)]
      | none => none
  | .call { callee := .builtin .append, args := xs, argTypes := ts } => match xs.toList.map st.eval with
    | [s, x] => match dv tt st.mem ts.toList s x with
      | some (size, ob, rows) => some [((cy st.mem key size rows ob).2, (cy st.mem key size rows ob).1)]
      | none => none
    | _ => none
  | .call { callee := .value f, args := xs, .. } => match st.eval f with
    | .ia k => match ia k (xs.toList.map st.eval) st.mem with
      | some outs => some (outs.map fun p => ((.sc (.bool p.1)), p.2))
      | none => none
    | fv => match bn fv (xs.toList.map st.eval) with
      | some (g, vs) => match R3 jv g vs st with
        | some (r, aF) => some [(r, aF)]
        | none => match call g vs st.mem with
          | some outs => some (outs.map fun p => (p.1, p.2))
          | none => match nat g vs with
            | some r => some [(r, st.mem)]
            | none => none
      | none => none
  | .makeSlice T l c => match nc tt T (st.eval l) (st.eval c) with
    | some (size, rs, _) => some [((.ms key 0 0 rs.length), bg st.mem key (.rows 0 size rs))]
    | none => none
  | .makeMap _ none => some [((.mp key), bg st.mem key (.map [] 0))]
  | .mapUpdate T m k x => match cp P st.mem T (st.eval m) (st.eval k) (st.eval x) with
    | some aF => some [((.sc undef), aF)]
    | none => none
  | .insert T m k x => match cp P st.mem T (st.eval m) (st.eval k) (st.eval x) with
    | some aF => some [((.sc undef), aF)]
    | none => none
  | .mapEntry T m k => match pq P st.mem T (st.eval m) (st.eval k) with
    | some (aF, v) => some [(v, aF)]
    | none => none
  | .entryStore _ m s x => match pw st.mem (st.eval m) (st.eval s) (st.eval x) with
    | some aF => some [((.sc undef), aF)]
    | none => none
  | .call { callee := .builtin .delete, args := xs, argTypes := ts } => match mf P st.mem ts (xs.toList.map st.eval) with
    | some aF => some [((.sc (.tuple #[])), aF)]
    | none => none
  | .range T x => match jH P st.mem T (st.eval x) with
    | some B => some [((.ptr key 0), bg st.mem key B)]
    | none => none
  | .next it str => Gv st (st.eval it) str
  | .binOp op T x y _ => match jt tt op T (st.eval x) (st.eval y) with
    | some n => if n = 0 then some [((.sc (.bool (kn op false))), st.mem), ((.sc (.bool (kn op true))), st.mem)] else some [((.sc (.bool (kn op false))), st.mem)]
    | none => match fP P tt st o with
      | some v => some [(v, st.mem)]
      | none => none
  | _ => match fP P tt st o with
    | some v => some [(v, st.mem)]
    | none => none

def AL (P : Program) (call : uV) : Prop := ∀ f vs mem outs, call f vs mem = some outs → gH P f vs mem fun r m => (r, m) ∈ outs
def Gx (P : Program) (ia : Ee) : Prop := ∀ k vs mem outs, ia k vs mem = some outs → D1 P k vs mem fun b m => (b, m) ∈ outs

theorem yx {P : Program} {tt : Table} {nat : lI} {jv : FuncId → List V → Option V} {call : uV} {ia : Ee} (CA : sN P jv) (uX : ju P nat) (hc : AL P call) (hy : Gx P ia) {key : Nat} {o : Oper} {st : St} {outs : List (V × List ay)} {Q : St → Prop} (h : Gw P tt nat jv call ia key o st = some outs) (hQ : ∀ p ∈ outs, Q (St.put { st with mem := p.2 } o.dst p.1)) :
    bH P tt key o st Q := by
  unfold Gw at h
  unfold bH
  split at h
  · rename_i heq; rw [heq]; dsimp only
    split at h
    · rename_i h1; cases h; rw [h1]; exact (by have h9 := cJ hQ; exact h9)
    · cases h
  · rename_i heq; rw [heq]; dsimp only
    split at h
    · rename_i h1; cases h; rw [h1]; exact (by have h9 := cJ hQ; exact h9)
    · cases h
  · rename_i heq; rw [heq]; dsimp only
    split at h
    · rename_i h1; cases h; rw [h1]; exact (by have h9 := cJ hQ; exact h9)
    · cases h
  · rename_i heq; rw [heq]; dsimp only
    split at h
    · rename_i h1; cases h; rw [h1]; exact (by have h9 := cJ hQ; exact h9)
    · rename_i h0
      rw [h0]; dsimp only
      split at h
      · rename_i h1; cases h; rw [h1]; exact (by have h9 := cJ hQ; exact h9)
      · cases h
  · rename_i heq; rw [heq]; dsimp only
    split at h
    · rename_i h1; cases h; rw [h1]; exact (by have h9 := cJ hQ; exact h9)
    · rename_i h0
      rw [h0]; dsimp only
      split at h
      · rename_i h1; cases h; rw [h1]; exact (by have h9 := cJ hQ; exact h9)
      · cases h
  · rename_i heq; rw [heq]; dsimp only
    split at h
    · rename_i h0
      rw [h0]; dsimp only
      split at h
      · rename_i h1; cases h; rw [h1]; exact (by have h9 := cJ hQ; exact h9)
      · cases h
    · cases h
  · rename_i heq; rw [heq]; dsimp only
    split at h
    · rename_i k hk
      rw [hk]; dsimp only
      split at h
      · rename_i os ho
        cases h
        exact .inr ⟨_, hy _ _ _ _ ho, fun b m hm => (by have := hQ _ (List.mem_map.2 ⟨_, hm, rfl⟩); exact this)⟩
      · cases h
    · rename_i fv QD
      split at h
      · rename_i g vs hg
        split at h
        · rename_i r aF Ef
          cases h
          unfold R3 at Ef
          split at Ef
          · rename_i vs' Uh
            split at Ef
            · rename_i r1 Ak
              cases Ef
              split
              · rename_i k hk; exact absurd hk (QD k)
              · rw [hg]; exact .inl ⟨vs', _, Uh, CA _ _ _ Ak, (by have h9 := cJ hQ; exact h9)⟩
            · cases Ef
          · cases Ef
        · split at h
          · rename_i os ho
            cases h
            split
            · rename_i k hk; exact absurd hk (QD k)
            · rw [hg]; exact .inr (.inr (.inl ⟨_, hc _ _ _ _ ho, fun b m hm => (by have := hQ _ (List.mem_map.2 ⟨_, hm, rfl⟩); exact this)⟩))
          · split at h
            · rename_i r hr
              cases h
              split
              · rename_i k hk; exact absurd hk (QD k)
              · rw [hg]; exact .inr (.inr (.inr ⟨r, uX _ _ _ hr, (by have h9 := cJ hQ; exact h9)⟩))
            · cases h
      · cases h
  · rename_i heq; rw [heq]; dsimp only
    split at h
    · rename_i h1; cases h; rw [h1]; exact (by have h9 := cJ hQ; exact h9)
    · cases h
  · rename_i heq; rw [heq]; dsimp only; cases h; exact (by have h9 := cJ hQ; exact h9)
  · rename_i heq; rw [heq]; dsimp only
    split at h
    · rename_i h1; cases h; rw [h1]; exact (by have h9 := cJ hQ; exact h9)
    · cases h
  · rename_i heq; rw [heq]; dsimp only
    split at h
    · rename_i h1; cases h; rw [h1]; exact (by have h9 := cJ hQ; exact h9)
    · cases h
  · rename_i heq; rw [heq]; dsimp only
    split at h
    · rename_i h1; cases h; rw [h1]; exact (by have h9 := cJ hQ; exact h9)
    · cases h
  · rename_i heq; rw [heq]; dsimp only
    split at h
    · rename_i h1; cases h; rw [h1]; exact (by have h9 := cJ hQ; exact h9)
    · cases h
  · rename_i heq; rw [heq]; dsimp only
    split at h
    · rename_i h1; cases h; rw [h1]; exact (by have h9 := cJ hQ; exact h9)
    · cases h
  · rename_i heq; rw [heq]; dsimp only
    split at h
    · rename_i h1; cases h; rw [h1]; exact (by have h9 := cJ hQ; exact h9)
    · cases h
  · rename_i heq; rw [heq]; dsimp only
    exact yw h hQ
  · rename_i heq; rw [heq]; dsimp only
    split at h
    · rename_i n hn
      rw [hn]; dsimp only
      intro b hb
      split at h
      · cases h; cases b
        · have := hQ _ (List.mem_cons_self ..); exact this
        · have := hQ _ (List.mem_cons_of_mem _ (List.mem_singleton.2 rfl)); exact this
      · rename_i h0; cases h; rw [hb h0]; exact (by have h9 := cJ hQ; exact h9)
    · rename_i hn
      rw [hn]; dsimp only
      split at h
      · rename_i h1; cases h; rw [h1]; exact (by have h9 := cJ hQ; exact h9)
      · cases h
  · split at h
    · rename_i h1
      cases h
      split <;> first | (rw [h1]; exact (by have h9 := cJ hQ; exact h9)) | (exfalso; solve_by_elim)
    · cases h

/-! ### what is computed is written out before it is handed on (the kernel would reckon it anew at each look) -/
def Gy {α β : Type} : List α → (List α → β) → β
  | [], k => k []
  | c :: r, k => Gy r fun r' => k (c :: r')
theorem kz {α β : Type} : ∀ (l : List α) (k : List α → β), Gy l k = k l
  | [], _ => rfl
  | c :: r, k => by rw [Gy, kz r]
def gW {β : Type} (n : Nat) (k : Nat → β) : β := Nat.casesOn n (k 0) fun m => k (Nat.succ m)
theorem dR {β : Type} (n : Nat) (k : Nat → β) : gW n k = k n := by cases n <;> rfl
def N3 {β : Type} (n : Int) (k : Int → β) : β := match n with | .ofNat m => gW m fun m' => k (.ofNat m') | .negSucc m => gW m fun m' => k (.negSucc m')
theorem J0 {β : Type} (n : Int) (k : Int → β) : N3 n k = k n := by cases n <;> simp only [N3,dR]
def AM {β : Type} (s : ByteArray) (k : ByteArray → β) : β := Gy s.data.toList fun l => k ⟨⟨l⟩⟩
theorem Eg {β : Type} (s : ByteArray) (k : ByteArray → β) : AM s k = k s := by rw [AM, kz]
def J1 {β : Type} (v : Value) (k : Value → β) : β :=
  match v with
  | .bool true => k (.bool true)
  | .bool false => k (.bool false)
  | .int t n => N3 n fun n' => k (.int t n')
  | .string s => AM s fun s' => k (.string s')
  | v => k v
theorem CB {β : Type} (v : Value) (k : Value → β) : J1 v k = k v := by
  unfold J1
  split
  · rfl
  · rfl
  · rw [J0]
  · rw [Eg]
  · rfl
def fW {β : Type} (v : V) (k : V → β) : β :=
  match v with
  | .undef => k .undef
  | .sc v => k (.sc v)
  | .agg cs => k (.agg cs)
  | .slice r => k (.slice r)
  | .ms a b c d => k (.ms a b c d)
  | .ptr a b => k (.ptr a b)
  | .de a b c d => k (.de a b c d)
  | .cn cs => k (.cn cs)
  | .fS f a b => k (.fS f a b)
  | .bT l => k (.bT l)
  | .ia a => k (.ia a)
  | .mp a => k (.mp a)
  | .gn => k .gn
  | .full r => k (.full r)
theorem My {β : Type} (v : V) (k : V → β) : fW v k = k v := by cases v <;> rfl
def QJ {β : Type} : List V → (List V → β) → β
  | [], k => k []
  | c :: r, k => fW c fun c' => QJ r fun r' => k (c' :: r')
theorem wq {β : Type} : ∀ (l : List V) (k : List V → β), QJ l k = k l
  | [], _ => rfl
  | c :: r, k => by rw [QJ, My, wq r]
mutual
def fV {β : Type} : V → (V → β) → β
  | .undef, k => k .undef
  | .gn, k => k .gn
  | .sc v, k => J1 v fun v' => k (.sc v')
  | .agg cs, k => CC cs fun mZ => k (.agg mZ)
  | .bT cs, k => CC cs fun mZ => k (.bT mZ)
  | .slice cs, k => CC cs fun mZ => k (.slice mZ)
  | .full cs, k => CC cs fun mZ => k (.full mZ)
  | .cn cs, k => CC cs fun mZ => k (.cn mZ)
  | .fS f a b, k => CC a fun a' => CC b fun b' => k (.fS f a' b')
  | .ms a b c d, k => gW a fun a' => gW b fun b' => gW c fun c' => gW d fun d' => k (.ms a' b' c' d')
  | .ptr a b, k => gW a fun a' => gW b fun b' => k (.ptr a' b')
  | .de a b c d, k => gW a fun a' => gW b fun b' => gW c fun c' => gW d fun d' => k (.de a' b' c' d')
  | .ia a, k => gW a fun a' => k (.ia a')
  | .mp a, k => gW a fun a' => k (.mp a')
def CC {β : Type} : List V → (List V → β) → β
  | [], k => k []
  | c :: r, k => fV c fun c' => CC r fun r' => k (c' :: r')
end
mutual
theorem yy {β : Type} : ∀ (v : V) (k : V → β), fV v k = k v
  | .undef, _ => by rw [fV]
  | .gn, _ => by rw [fV]
  | .sc v, k => by rw [fV, CB]
  | .agg cs, k => by rw [fV, kA cs]
  | .bT cs, k => by rw [fV, kA cs]
  | .slice cs, k => by rw [fV, kA cs]
  | .full cs, k => by rw [fV, kA cs]
  | .cn cs, k => by rw [fV, kA cs]
  | .fS f a b, k => by rw [fV, kA a, kA b]
  | .ms a b c d, k => by rw [fV, dR, dR, dR, dR]
  | .ptr a b, k => by rw [fV, dR, dR]
  | .de a b c d, k => by rw [fV, dR, dR, dR, dR]
  | .ia a, k => by rw [fV, dR]
  | .mp a, k => by rw [fV, dR]
theorem kA {β : Type} : ∀ (l : List V) (k : List V → β), CC l k = k l
  | [], _ => by rw [CC]
  | c :: r, k => by rw [CC, yy c, kA r]
end
def J2 {β : Type} : List (Value × Nat × V) → (List (Value × Nat × V) → β) → β
  | [], k => k []
  | (a, n, v) :: r, k => J1 a fun a' => gW n fun n' => fV v fun v' => J2 r fun r' => k ((a', n', v') :: r')
theorem CD {β : Type} : ∀ (l : List (Value × Nat × V)) (k : List (Value × Nat × V) → β), J2 l k = k l
  | [], _ => rfl
  | (a, n, v) :: r, k => by rw [J2, CB, dR, yy, CD r]
def fB {β : Type} (B : ay) (k : ay → β) : β :=
  match B with
  | .hole => k .hole
  | .dead => k .dead
  | .iv => k .iv
  | .box cs => CC cs fun mZ => k (.box mZ)
  | .rows v e rs => gW v fun v' => gW e fun e' => CC rs fun rs' => k (.rows v' e' rs')
  | .mJ v e rs => gW v fun v' => gW e fun e' => CC rs fun rs' => k (.mJ v' e' rs')
  | .loop s p fr ps a b => k (.loop s p fr ps a b)
  | .map br c => J2 br fun kvs' => gW c fun c' => k (.map kvs' c')
  | .eo a b c d => gW a fun a' => gW b fun b' => Gy c fun c' => gW d fun d' => k (.eo a' b' c' d')
  | .gX s p => gW p fun p' => k (.gX s p')
theorem R5 {β : Type} (B : ay) (k : ay → β) : fB B k = k B := by
  cases B <;> simp only [fB,kA,dR,CD,kz]
def AN {β : Type} : List Nat → List ay → (List ay → β) → β
  | [], m, k => Gy m k
  | i :: r, m, k => match m[i]? with
    | some B => fB B fun B' => AN r (m.set i B') k
    | none => AN r m k
theorem oO {β : Type} : ∀ (ks : List Nat) (m : List ay) (k : List ay → β), AN ks m k = k m
  | [], m, k => kz m k
  | i :: r, m, k => by
    simp only [AN]
    split
    · rename_i B hB
      rw [R5, oO r]
      congr 1
      apply List.ext_getElem?
      intro j
      rw [List.getElem?_set]
      split
      · rename_i sb; subst sb
        split
        · exact hB.symm
        · rename_i aB; rw [List.getElem?_eq_none (by omega)]
      · rfl
    · exact oO r m k
def uY (o : Oper) : Bool :=
  match o.op with
  | .move _ | .assign _ | .pick .. | .load .. | .extract .. | .nilCheck _ | .field .. => true
  | _ => false
def fD {β : Type} (b : Bool) (v : V) (k : V → β) : β := match b with | true => fW v k | false => fV v k
theorem Mz {β : Type} (b : Bool) (v : V) (k : V → β) : fD b v k = k v := by cases b <;> simp only [fD,My,yy]
def J3 {β : Type} (b : Bool) (d : Option Tmp) (ks : List Nat) (s : St) (k : St → β) : β :=
  match d with
  | some d => fD b (s.fr.getD d .undef) fun v => Gy (if d < s.fr.length then s.fr.set d v else s.fr) fun fr => AN ks s.mem fun mem => k { fr := fr, mem := mem }
  | none => Gy s.fr fun fr => AN ks s.mem fun mem => k { fr := fr, mem := mem }
theorem nC {β : Type} (b : Bool) (d : Option Tmp) (ks : List Nat) (s : St) (k : St → β) : J3 b d ks s k = k s := by
  unfold J3
  split
  · rename_i d
    rw [Mz, kz, oO]
    congr 1
    split
    · rename_i hd
      obtain ⟨fr, mem⟩ := s
      dsimp only at hd ⊢
      congr 1
      apply List.ext_getElem?
      intro j
      rw [List.getElem?_set]
      split
      · rename_i sb; subst sb
        rw [List.getD_eq_getElem?_getD, List.getElem?_eq_getElem hd]; rfl
      · rfl
    · rfl
  · rw [kz, oO]
def J4 {β : Type} : List V → Nat → V → (List V → β) → β
  | [], _, _, k => k []
  | _ :: r, 0, v, k => k (v :: r)
  | c :: r, d + 1, v, k => J4 r d v fun r' => k (c :: r')
theorem CE {β : Type} : ∀ (l : List V) (d : Nat) (v : V) (k : List V → β), J4 l d v k = k (l.set d v)
  | [], _, _, _ => rfl
  | _ :: _, 0, _, _ => rfl
  | c :: r, d + 1, v, k => by rw [J4, CE r]; rfl
def CF {β : Type} (ks : List Nat) (m : List ay) (k : List ay → β) : β := match ks with | [] => k m | _ :: _ => AN ks m k
theorem yz {β : Type} (ks : List Nat) (m : List ay) (k : List ay → β) : CF ks m k = k m := by
  unfold CF
  split
  · rfl
  · rw [oO]
def N4 {β : Type} (b : Bool) (d : Option Tmp) (ks : List Nat) (st : St) (v : V) (m : List ay) (k : St → β) : β :=
  match d with
  | some d => fD b v fun v => J4 st.fr d v fun fr => CF ks m fun mem => k { fr := fr, mem := mem }
  | none => CF ks m fun mem => k { fr := st.fr, mem := mem }
theorem J5 {β : Type} (b : Bool) (d : Option Tmp) (ks : List Nat) (st : St) (v : V) (m : List ay) (k : St → β) : N4 b d ks st v m k = k (St.put { st with mem := m } d v) := by
  unfold N4
  split
  · rw [Mz, CE, yz]; rfl
  · rw [yz]; rfl
def Gz : V → List Nat
  | .ptr b _ => [b]
  | .de b _ _ _ => [b]
  | .ms b _ _ _ => [b]
  | .mp b => [b]
  | _ => []
def CG (key : Nat) (o : Oper) (st : St) : List Nat :=
  match o.op with
  | .alloc _ | .box .. | .buildSlice .. | .makeMap .. | .makeSlice .. | .range .. => [key]
  | .store _ p _ => Gz (st.eval p)
  | .call { callee := .builtin .append, args := xs, .. } => match xs.toList with | s :: _ => key :: Gz (st.eval s) | _ => []
  | .call { callee := .builtin .delete, args := xs, .. } => match xs.toList with | s :: _ => Gz (st.eval s) | _ => []
  | .mapUpdate _ m _ _ | .insert _ m _ _ | .mapEntry _ m _ | .entryStore _ m _ _ => Gz (st.eval m)
  | .call { callee := .value _, .. } => [0]
  | .next it _ => Gz (st.eval it)
  | _ => []

def GC (P : Program) (tt : Table) (nat : lI) (jv : FuncId → List V → Option V) (call : uV) (ia : Ee) (all : Array Oper) : List Oper → St → Option (List St)
  | [], st => some [st]
  | o :: r, st => match cZ all st.fr o with
    | some true => jM (Gw P tt nat jv call ia st.mem.length o st) fun p => N4 (uY o) o.dst (CG st.mem.length o st) st p.1 p.2 fun s' => GC P tt nat jv call ia all r s'
    | some false => GC P tt nat jv call ia all r (st.put o.dst (.sc undef))
    | none => none
theorem nD {P : Program} {tt : Table} {nat : lI} {jv : FuncId → List V → Option V} (CA : sN P jv) {call : uV} {ia : Ee} (uX : ju P nat) (hc : AL P call) (hy : Gx P ia) {all : Array Oper} {Q : St → Prop} : ∀ {l : List Oper} {st : St} {outs : List St}, GC P tt nat jv call ia all l st = some outs → (∀ s ∈ outs, Q s) → dA P tt all l st Q
  | [], st, outs, h, hQ => by cases h; exact hQ _ (by simp)
  | o :: r, st, outs, h, hQ => by
    simp only [GC] at h
    simp only [dA]
    split at h
    · rename_i hw
      rw [hw]
      obtain ⟨l, h1, h2⟩ := dq h
      refine yx CA uX hc hy h1 fun s hs => ?_
      obtain ⟨b, h3, h4⟩ := h2 s hs
      rw [J5] at h3
      exact nD CA uX hc hy h3 fun s' la => hQ _ (h4 _ la)
    · rename_i hw
      rw [hw]
      exact nD CA uX hc hy h hQ
    · cases h

/-! ### all rows frozen -/
def cT : Nat → List ay → List (Nat × Nat)
  | _, [] => []
  | i, .rows v _ _ :: r => (i, v) :: cT (i + 1) r
  | i, .mJ v _ _ :: r => (i, v) :: cT (i + 1) r
  | i, _ :: r => cT (i + 1) r
theorem kB : ∀ {m : List ay} {n k v e : Nat} {rs : List V}, (m[k]? = some (.rows v e rs) ∨ m[k]? = some (.mJ v e rs)) → (n + k, v) ∈ cT n m
  | [], n, k, v, e, rs, h => by simp at h
  | B :: r, n, 0, v, e, rs, h => by
    simp only [List.getElem?_cons_zero,Option.some.injEq] at h
    rcases h with rfl | rfl <;> simp [cT]
  | B :: r, n, k + 1, v, e, rs, h => by
    simp only [List.getElem?_cons_succ] at h
    have := kB (n := n + 1) h
    rw [show n + 1 + k = n + (k + 1) from by omega] at this
    cases B <;> simp only [cT] <;> first | exact this | exact List.mem_cons_of_mem _ this
def gE (mem : List ay) (v : V) : V := match bD mem v with | some v' => v' | none => v
def N5 (mem : List ay) : V → V
  | .agg cs => .agg (cs.map (gE mem))
  | .bT vs => .bT (vs.map fun v => match v with | .agg cs => .agg (cs.map (gE mem)) | v => gE mem v)
  | v => gE mem v
def AO (mem : List ay) : ay → ay
  | .box cs => .box (cs.map (gE mem))
  | B => B
def CH (st : St) : Option St :=
  let keys := cT 0 st.mem
  match cD st.mem (keys.map fun (k : Nat × Nat) => V.ms k.1 k.2 0 0) with
  | some _ => some { fr := st.fr.map (N5 st.mem), mem := (bY st.mem keys).map (AO st.mem) }
  | none => none
theorem CI : ∀ (keys : List (Nat × Nat)), (keys.map fun (k : Nat × Nat) => V.ms k.1 k.2 0 0).flatMap cr = keys
  | [] => rfl
  | k :: r => by simp [cr, eu, CI r]
theorem Eh {mem : List ay} {B : ay} (h : ∀ cs, B ≠ .box cs) : AO mem B = B := by
  cases B <;> first | rfl | exact absurd rfl (h _)
theorem AP (mem : List ay) (B : ay) : (AO mem B).aC = B.aC := by cases B <;> rfl
theorem yA {E : Env} {w : World} {a : Act} {st st' : St} (hs : bd E w a st) (h : CH st = some st') : ∃ E', bd E' w a st' ∧ dt E w E' w := by
  unfold CH at h
  dsimp only at h
  split at h
  · rename_i vs' hp
    cases h
    obtain ⟨ks, MA⟩ : ∃ ks, ks = ((cT 0 st.mem).map (fun (k : Nat × Nat) => V.ms k.1 k.2 0 0)).flatMap cr := ⟨_, rfl⟩
    have R6 : dt E w (E.kc w ks) w ∧ bd (E.kc w ks) w a { st with mem := bY st.mem ks } := by
      subst MA
      obtain ⟨hg, h1, h2⟩ := sm hs hp (F' := (E.kc w (((cT 0 st.mem).map (fun (k : Nat × Nat) => V.ms k.1 k.2 0 0)).flatMap cr)).F) (fun _ _ h => h) (fun ad y h => Env.Cs hs.F h) (fun _ _ h => .inl h) (Go.RowKit.Below.refl _ w)
      exact ⟨h1, h2⟩
    rw [CI] at MA
    subst MA
    obtain ⟨du, jC⟩ := R6
    have lq : ∀ {v : V} {x : Value}, aX E v x → aX (E.kc w (cT 0 st.mem)) (gE st.mem v) x := fun {v x} hr => by
      unfold gE
      split
      · rename_i v' hv
        refine (js hs hr hv fun k hk => ?_).mono (Env.ma _)
        cases v <;> simp only [eu,List.mem_singleton,List.not_mem_nil] at hk
        subst hk
        simp only [bD] at hv
        split at hv
        · rename_i hm
          split at hv
          · rename_i hc; have := kB (n := 0) (.inl hm); rw [Nat.zero_add, hc.1] at this; exact this
          · cases hv
        · rename_i hm
          split at hv
          · rename_i hc; have := kB (n := 0) (.inr hm); rw [Nat.zero_add, hc.1] at this; exact this
          · cases hv
        · cases hv
      · exact hr.mono (Env.pC E w _)
    have JC : ∀ {cs : List V} {xs : List Value}, aQ E cs xs → aQ (E.kc w (cT 0 st.mem)) (cs.map (gE st.mem)) xs := fun {cs xs} hr => by
      refine ⟨by simpa using hr.1, fun i c x hc hx => ?_⟩
      simp only [List.getElem?_map,Option.map_eq_some_iff] at hc
      obtain ⟨c0, AQ, rfl⟩ := hc
      exact lq (hr.2 i c0 x AQ hx)
    have h1 : ∀ {v : V} {x : Value}, aX E v x → aX (E.kc w (cT 0 st.mem)) (match v with | .agg cs => .agg (cs.map (gE st.mem)) | v => gE st.mem v) x := fun {v x} hr => by
      split
      · rename_i cs
        cases hr with
        | agg _ cs xs hl hh =>
          have := JC (cs := cs) (xs := xs.toList) ⟨by simpa using hl, fun i c x hc hx => hh i c x hc (by simpa using hx)⟩
          exact .agg _ _ _ (by simpa using this.1) fun i c x hc hx => this.2 i c x hc (by simpa using hx)
      · exact lq hr
    have hV : ∀ {v : V} {x : Value}, aX E v x → aX (E.kc w (cT 0 st.mem)) (N5 st.mem v) x := fun {v x} hr => by
      unfold N5
      split
      · exact h1 (v := .agg _) hr
      · rename_i vs
        cases hr with
        | bT _ vs xs hl hh =>
          refine .bT _ _ _ (by simpa using hl) fun i c x hc hx => ?_
          simp only [List.getElem?_map,Option.map_eq_some_iff] at hc
          obtain ⟨c0, AQ, rfl⟩ := hc
          exact h1 (hh i c0 x AQ hx)
      · exact lq hr
    refine ⟨_, ⟨jC.F, jC.lt, fun k B hk => ?_, fun k hk => jC.top k (by simpa using hk), fun k B hk v hv => ?_, jC.apart, ⟨by simpa using hs.fr.1, fun i v x hv hx => ?_⟩⟩, du⟩
    · simp only [List.getElem?_map,Option.map_eq_some_iff] at hk
      obtain ⟨B0, uL, rfl⟩ := hk
      have h0 := jC.mem k B0 uL
      by_cases R7 : ∃ cs, B0 = .box cs
      · obtain ⟨cs, rfl⟩ := R7
        have hold : st.mem[k]? = some (.box cs) := by
          rw [km] at uL
          cases Je : st.mem[k]? with
          | none => rw [Je] at uL; simp [jb] at uL
          | some B1 =>
            rw [Je] at uL
            cases B1 <;> simp only [jb] at uL <;> first | exact uL | (split at uL <;> cases uL)
        obtain ⟨g, T, xs, q1, q2, q3, q4⟩ := h0
        obtain ⟨g', T', oc, r1, r2, r3, r4⟩ := hs.mem k _ hold
        have : g = g' := by
          have := du.le.aK _ _ _ r1
          have e : (E.kc w (cT 0 st.mem)).aK k 0 = some (g, 0, 0) := q1
          have e2 : (E.kc w (cT 0 st.mem)).aK k 0 = some (g', 0, 0) := this
          rw [e] at e2; cases e2; rfl
        subst this
        rw [r2] at q2; cases q2
        exact ⟨g, T, xs, q1, r2, JC r3, q4⟩
      · rw [Eh fun cs e => R7 ⟨cs, e⟩]; exact h0
    · simp only [List.getElem?_map,Option.map_eq_some_iff] at hk
      obtain ⟨B0, uL, rfl⟩ := hk
      rw [AP] at hv
      exact jC.aC k B0 uL v hv
    · simp only [List.getElem?_map,Option.map_eq_some_iff] at hv
      obtain ⟨v0, Fy, rfl⟩ := hv
      exact hV (hs.fr.2 i v0 x Fy hx)
  · cases h
theorem AR {P : Program} {ρ : Option Nat} {n0 : Nat} {c : Code} {st st' : St} {Q : Exit → St → Prop} (hf : CH st = some st') (h : gD P ρ n0 c st' Q) : gD P ρ n0 c st Q := fun E0 w0 h0 E w a he hs fQ => by
  obtain ⟨E', h1, h2⟩ := yA hs hf
  exact h E0 w0 h0 E' w a (he.trans h2) h1 (fQ.FB h2)

/-! ### regions that draw -/
abbrev lJ := FuncId → List V → Option V
abbrev qJ := FuncId → List V → Option (Nat × List V)
def wu (P : Program) (live : qJ) : Prop := ∀ f vs e rs, live f vs = some (e, rs) → sC P f vs e rs
def AS (live : qJ) (o : Oper) (key : Nat) (st : St) : Option St :=
  match o.op with
  | .call { callee := .value f, args := xs, .. } => match bn (st.eval f) (xs.toList.map st.eval) with
    | some (g, vs) => match cD [] vs with
      | some vs' => match live g vs' with
        | some (e, rs) => some (sD st key o.dst e rs)
        | none => none
      | none => none
    | none => none
  | _ => none
theorem wv {P : Program} {live : qJ} (hl : wu P live) {o : Oper} {key : Nat} {st s : St} {Q : St → Prop} (h : AS live o key st = some s) (hQ : Q s) : nA P o key st Q := by
  unfold AS at h
  unfold nA
  split at h
  · rename_i heq; rw [heq]; dsimp only
    split at h
    · rename_i g vs hg
      rw [hg]; dsimp only
      split at h
      · rename_i vs' hv
        split at h
        · rename_i e rs hr
          cases h
          exact ⟨vs', e, rs, hv, hl _ _ _ _ hr, hQ⟩
        · cases h
      · cases h
    · cases h
  · cases h
def pL (P : Program) (pure : lJ) : Prop := ∀ f vs r, pure f vs = some r → aP P f vs r
def J6 (P : Program) (tt : Table) (nat : lI) (pure : lJ) (o : Oper) (um st : St) : Option St :=
  match o.op with
  | .call { callee := .value f, args := xs, .. } => match bn (um.eval f) (xs.toList.map um.eval) with
    | some (g, vs) => match cD [] vs with
      | some vs' => match pure g vs' with
        | some r => some (st.put o.dst r)
        | none => match nat g vs' with
          | some r => some (st.put o.dst r)
          | none => none
      | none => none
    | none => none
  | _ => match rh P tt o um with
    | some v => some (st.put o.dst v)
    | none => none
theorem sO {P : Program} {tt : Table} {nat : lI} (uX : ju P nat) {pure : lJ} (hp : pL P pure) {o : Oper} {um st s : St} {Q : St → Prop} (h : J6 P tt nat pure o um st = some s) (hQ : Q s) : wj P tt o um st Q := by
  unfold J6 at h
  unfold wj
  split at h
  · rename_i heq; rw [heq]; dsimp only
    split at h
    · rename_i g vs hg
      rw [hg]; dsimp only
      split at h
      · rename_i vs' hv
        split at h
        · rename_i r hr
          cases h
          exact ⟨vs', r, hv, .inl (hp _ _ _ hr), hQ⟩
        · split at h
          · rename_i r hr
            cases h
            exact ⟨vs', r, hv, .inr (uX _ _ _ hr), hQ⟩
          · cases h
      · cases h
    · cases h
  · split at h
    · rename_i h1
      cases h
      split
      · exfalso; solve_by_elim
      · rw [h1]; exact hQ
    · cases h
def AT (P : Program) (tt : Table) (nat : lI) (pure : lJ) (live : qJ) (all : Array Oper) (base : Nat) (o : Oper) (p : Pl) (st : St) : Option St :=
  match cZ all st.fr o with
  | some true => match p.cls with
    | .n => J6 P tt nat pure o { st with mem := [] } st
    | .r => J6 P tt nat pure o { st with mem := dm (p.mask.map (base + ·) ++ p.abs) st.mem } st
    | .a => if isHole st.mem (base + p.key) = true then (match ej tt o (base + p.key) st with
      | some (B, v) => some (St.put { st with mem := st.mem.set (base + p.key) B } o.dst v)
      | none => AS live o (base + p.key) st) else none
    | .w => if isHole st.mem (base + p.key) = true then (match oF P tt (base + p.key) o st with
      | some (m, v) => some (St.put { st with mem := m } o.dst v)
      | none => none) else none
    | .s => match ri tt (base + p.key) o st with
      | some m => some (St.put { st with mem := m } o.dst (.sc undef))
      | none => none
    | .b => match kW tt o st with
      | some v => some (st.put o.dst v)
      | none => none
    | .z => none
    | .e => none
  | some false => some (st.put o.dst (.sc undef))
  | none => none
theorem wx {P : Program} {tt : Table} {nat : lI} (uX : ju P nat) {pure : lJ} {live : qJ} (hp : pL P pure) (hl : wu P live) {all : Array Oper} {base : Nat} {o : Oper} {p : Pl} {st s : St} {Q : St → Prop} (h : AT P tt nat pure live all base o p st = some s) (hQ : Q s) : dM P tt all base o p st Q := by
  unfold AT at h
  unfold dM
  split at h
  · rename_i hw; rw [hw]; dsimp only
    split at h
    · rename_i jD; rw [jD]; exact sO uX hp h hQ
    · rename_i jD; rw [jD]; exact sO uX hp h hQ
    · rename_i jD; rw [jD]; dsimp only
      split at h
      · rename_i hh
        refine ⟨hh, ?_⟩
        split at h
        · rename_i h1; cases h; rw [h1]; exact hQ
        · rename_i h1; rw [h1]; exact wv hl h hQ
      · cases h
    · rename_i jD; rw [jD]; dsimp only
      split at h
      · rename_i hh
        refine ⟨hh, ?_⟩
        split at h
        · rename_i h1; cases h; rw [h1]; exact hQ
        · cases h
      · cases h
    · rename_i jD; rw [jD]; dsimp only
      split at h
      · rename_i h1; cases h; rw [h1]; exact hQ
      · cases h
    · rename_i jD; rw [jD]; dsimp only
      split at h
      · rename_i h1; cases h; rw [h1]; exact hQ
      · cases h
    · cases h
    · cases h
  · rename_i hw; rw [hw]; cases h; exact hQ
  · cases h
def yB (P : Program) (tt : Table) (nat : lI) (pure : lJ) (live : qJ) (all : Array Oper) (base : Nat) : List Oper → List Pl → St → Option St
  | [], _, st => some st
  | o :: r, p :: ps, st => match AT P tt nat pure live all base o p st with
    | some s => J3 (uY o) o.dst (CG (base + p.key) o st) s fun s' => yB P tt nat pure live all base r ps s'
    | none => none
  | _ :: _, [], _ => none
theorem qK {P : Program} {tt : Table} {nat : lI} (uX : ju P nat) {pure : lJ} {live : qJ} (hp : pL P pure) (hl : wu P live) {all : Array Oper} {base : Nat} {Q : St → Prop} : ∀ {l : List Oper} {ps : List Pl} {st s : St}, yB P tt nat pure live all base l ps st = some s → Q s → runM P tt all base l ps st Q
  | [], _, st, s, h, hQ => by cases h; exact hQ
  | o :: r, p :: ps, st, s, h, hQ => by
    simp only [yB] at h
    simp only [runM]
    split at h
    · rename_i s1 h1
      rw [nC] at h
      exact wx uX hp hl h1 (qK uX hp hl h hQ)
    · cases h
  | _ :: _, [], _, _, h, _ => by simp [yB] at h

/-! ### code -/
mutual
def N6 : V → Nat
  | .ms b _ _ _ | .ptr b _ | .ia b | .mp b | .de b _ _ _ => b + 1
  | .agg cs | .bT cs => Ei cs
  | .fS _ a b => max (Ei a) (Ei b)
  | _ => 0
def Ei : List V → Nat
  | [] => 0
  | c :: r => max (N6 c) (Ei r)
end
def Vv : ay → Nat
  | .box cs => Ei cs
  | .loop _ _ fr _ _ _ => Ei fr
  | .map br _ => br.foldr (fun k n => max (N6 k.2.2) n) 0
  | .eo m _ _ _ => m + 1
  | _ => 0
def R8 (l : List ay) : Nat := l.foldr (fun B n => max (Vv B) n) 0
def N7 : Nat → Nat → List ay → Nat
  | 0, n, _ => n
  | k + 1, n, mem => let m := max n (R8 (mem.take n)); if m = n then n else N7 k m mem
def R9 (lo : Nat) (r : V) (mem : List ay) : Option (V × List ay) :=
  let n := N7 8 (max lo (N6 r)) mem
  if lo ≤ n ∧ ai n r = true ∧ (mem.take n).all (aA n) = true then some (r, mem.take n) else none

def rE : Exit → Bool
  | .ret => true
  | .normal => true
  | _ => false
def CJ : Value → Value → Bool
  | .agg a, .agg b => jc a.toList b.toList
  | .tuple a, .tuple b => jc a.toList b.toList
  | .func (.func f) a b, .func (.func g) c d => f == g && a.isEmpty && b.isEmpty && c.isEmpty && d.isEmpty
  | a, b => wc a b
theorem yC {a b : Value} (h : CJ a b = true) : a = b := by
  unfold CJ at h
  split at h
  · rename_i x y; rw [← Array.toArray_toList (xs := x), ku h, Array.toArray_toList]
  · rename_i x y; rw [← Array.toArray_toList (xs := x), ku h, Array.toArray_toList]
  · simp only [Bool.and_eq_true,beq_iff_eq,Array.isEmpty_iff] at h
    obtain ⟨⟨⟨⟨rfl, rfl⟩, rfl⟩, rfl⟩, rfl⟩ := h
    rfl
  · exact uN h
mutual
def fo : V → V → Bool
  | .undef, .undef => true
  | .gn, .gn => true
  | .sc a, .sc b => CJ a b
  | .agg a, .agg b => fi a b
  | .bT a, .bT b => fi a b
  | .slice a, .slice b => fi a b
  | .full a, .full b => fi a b
  | .cn a, .cn b => fi a b
  | .ms a b c d, .ms a' b' c' d' => a == a' && b == b' && c == c' && d == d'
  | .ptr a b, .ptr a' b' => a == a' && b == b'
  | .de a b c d, .de a' b' c' d' => a == a' && b == b' && c == c' && d == d'
  | .mp a, .mp b => a == b
  | .ia a, .ia b => a == b
  | .fS (.func f) a b, .fS (.func g) c d => f == g && fi a c && fi b d
  | _, _ => false
def fi : List V → List V → Bool
  | [], [] => true
  | a :: r, b :: s => fo a b && fi r s
  | _, _ => false
end
mutual
theorem oP : ∀ {a b : V}, fo a b = true → a = b
  | .undef, b, h => by cases b <;> simp [fo] at h <;> rfl
  | .gn, b, h => by cases b <;> simp [fo] at h <;> rfl
  | .sc a, b, h => by
    cases b <;> simp only [fo,Bool.false_eq_true] at h
    rw [yC h]
  | .agg a, b, h => by
    cases b <;> simp only [fo,Bool.false_eq_true] at h
    rw [dC h]
  | .bT a, b, h => by
    cases b <;> simp only [fo,Bool.false_eq_true] at h
    rw [dC h]
  | .slice a, b, h => by
    cases b <;> simp only [fo,Bool.false_eq_true] at h
    rw [dC h]
  | .full a, b, h => by
    cases b <;> simp only [fo,Bool.false_eq_true] at h
    rw [dC h]
  | .cn a, b, h => by
    cases b <;> simp only [fo,Bool.false_eq_true] at h
    rw [dC h]
  | .ms _ _ _ _, b, h => by
    cases b <;> simp only [fo,Bool.false_eq_true,Bool.and_eq_true,beq_iff_eq] at h
    obtain ⟨⟨⟨rfl, rfl⟩, rfl⟩, rfl⟩ := h; rfl
  | .ptr _ _, b, h => by
    cases b <;> simp only [fo,Bool.false_eq_true,Bool.and_eq_true,beq_iff_eq] at h
    obtain ⟨rfl, rfl⟩ := h; rfl
  | .de _ _ _ _, b, h => by
    cases b <;> simp only [fo,Bool.false_eq_true,Bool.and_eq_true,beq_iff_eq] at h
    obtain ⟨⟨⟨rfl, rfl⟩, rfl⟩, rfl⟩ := h; rfl
  | .mp _, b, h => by
    cases b <;> simp only [fo,Bool.false_eq_true,beq_iff_eq] at h
    rw [h]
  | .ia _, b, h => by
    cases b <;> simp only [fo,Bool.false_eq_true,beq_iff_eq] at h
    rw [h]
  | .fS f a c, b, h => by
    cases b with
    | fS g a' c' =>
      cases f <;> cases g <;> simp only [fo,Bool.false_eq_true,Bool.and_eq_true,beq_iff_eq] at h
      obtain ⟨⟨rfl, h1⟩, h2⟩ := h
      rw [dC h1, dC h2]
    | _ => cases f <;> simp [fo] at h
theorem dC : ∀ {a b : List V}, fi a b = true → a = b
  | [], b, h => by cases b <;> simp [fi] at h <;> rfl
  | c :: r, b, h => by
    cases b with
    | nil => simp [fi] at h
    | cons d s =>
      simp only [fi,Bool.and_eq_true] at h
      rw [oP h.1, dC h.2]
end
def mo : List (Value × Nat × V) → List (Value × Nat × V) → Bool
  | [], [] => true
  | a :: r, b :: s => CJ a.1 b.1 && a.2.1 == b.2.1 && fo a.2.2 b.2.2 && mo r s
  | _, _ => false
theorem sP : ∀ {a b : List (Value × Nat × V)}, mo a b = true → a = b
  | [], [], _ => rfl
  | (k, n, v) :: r, (k', n', v') :: s, h => by
    simp only [mo,Bool.and_eq_true,beq_iff_eq] at h
    obtain ⟨⟨⟨h1, h2⟩, h3⟩, h4⟩ := h
    rw [yC h1, h2, oP h3, sP h4]
  | [], _ :: _, h => by simp [mo] at h
  | _ :: _, [], h => by simp [mo] at h
def GD : ay → ay → Bool
  | .hole, .hole => true
  | .dead, .dead => true
  | .iv, .iv => true
  | .box a, .box b => fi a b
  | .rows v e a, .rows v' e' b => v == v' && e == e' && fi a b
  | .mJ v e a, .mJ v' e' b => v == v' && e == e' && fi a b
  | .map a c, .map b d => c == d && mo a b
  | .eo a b c d, .eo a' b' c' d' => a == a' && b == b' && c == c' && d == d'
  | _, _ => false
theorem GF {a b : ay} (h : GD a b = true) : a = b := by
  unfold GD at h
  split at h
  · rfl
  · rfl
  · rfl
  · rw [dC h]
  · simp only [Bool.and_eq_true,beq_iff_eq] at h; obtain ⟨⟨rfl, rfl⟩, h⟩ := h; rw [dC h]
  · simp only [Bool.and_eq_true,beq_iff_eq] at h; obtain ⟨⟨rfl, rfl⟩, h⟩ := h; rw [dC h]
  · simp only [Bool.and_eq_true,beq_iff_eq] at h; obtain ⟨rfl, h⟩ := h; rw [sP h]
  · simp only [Bool.and_eq_true,beq_iff_eq] at h; obtain ⟨⟨⟨rfl, rfl⟩, rfl⟩, rfl⟩ := h; rfl
  · cases h
def pM : List ay → List ay → Bool
  | [], [] => true
  | a :: r, b :: s => GD a b && pM r s
  | _, _ => false
theorem uZ : ∀ {a b : List ay}, pM a b = true → a = b
  | [], [], _ => rfl
  | x :: r, y :: s, h => by simp only [pM,Bool.and_eq_true] at h; rw [GF h.1, uZ h.2]
  | [], _ :: _, h => by simp [pM] at h
  | _ :: _, [], h => by simp [pM] at h
def dedup : List (V × List ay) → List (V × List ay)
  | [] => []
  | p :: r => if (dedup r).any (fun q => fo p.1 q.1 && pM p.2 q.2) = true then dedup r else p :: dedup r
theorem pO : ∀ {l : List (V × List ay)} {p : V × List ay}, p ∈ l → p ∈ dedup l
  | q :: r, p, h => by
    simp only [dedup]
    split
    · rename_i NB
      rcases List.mem_cons.1 h with rfl | h
      · obtain ⟨q', h1, h2⟩ := List.any_eq_true.1 NB
        simp only [Bool.and_eq_true] at h2
        have : p = q' := Prod.ext (oP h2.1) (uZ h2.2)
        rw [this]; exact h1
      · exact pO h
    · rcases List.mem_cons.1 h with rfl | h
      · exact List.mem_cons_self ..
      · exact List.mem_cons_of_mem _ (pO h)
def Sa (P : Program) (tt : Table) (code : jL) : uV := fun f vs mem =>
  match P.funcs[f]? with
  | some fn => match fn.body with
    | some body => (jM (QJ vs fun vs => Gy mem fun mem => J3 true none [] (ew fn vs mem) fun s => code false body s) fun o => if rE o.1 = true then (match iE tt fn.results o.2 with
      | some r => fV r fun r => match R9 mem.length r o.2.mem with | some p => Gy p.2 fun m => some [(p.1, m)] | none => none
      | none => none) else none).map dedup
    | none => none
  | none => none
def yD (P : Program) (tt : Table) (code : jL) : lJ := fun f vs =>
  match P.funcs[f]? with
  | some fn => match fn.body with
    | some body => match jM (QJ vs fun vs => J3 true none [] (ew fn vs []) fun s => code false body s) fun o => if rE o.1 = true then (match mK tt fn.results o.2 with | some r => fV r fun r => some [r] | none => none) else none with
      | some (r :: rs) => if rs.all (fo r) = true then some r else none
      | _ => none
    | none => none
  | none => none
def AU : List (V × List ay) → Option (Nat × Nat × List V)
  | [(.ms 0 v 0 l, [.rows v' e rs])] => if v' = v ∧ l = rs.length then some (v, e, rs) else none
  | [(.ms 0 v 0 0, [.rows v' e []]), (.sc (.slice none 0 0), [])] => if v' = v then some (v, e, []) else none
  | [(.sc (.slice none 0 0), []), (.ms 0 v 0 0, [.rows v' e []])] => if v' = v then some (v, e, []) else none
  | _ => none
theorem AV {outs : List (V × List ay)} {v e : Nat} {rs : List V} (h : AU outs = some (v, e, rs)) : ∀ r m, (r, m) ∈ outs → (r = .ms 0 v 0 rs.length ∧ m = [.rows v e rs]) ∨ (r = .sc (.slice none 0 0) ∧ m = [] ∧ rs = []) := by
  unfold AU at h
  split at h
  · split at h
    · rename_i hc; cases h; obtain ⟨rfl, rfl⟩ := hc
      intro r m hm; simp at hm; exact .inl hm
    · cases h
  · split at h
    · rename_i hc; cases h; subst hc
      intro r m hm; simp at hm
      rcases hm with ⟨rfl, rfl⟩ | ⟨rfl, rfl⟩
      · exact .inl ⟨rfl, rfl⟩
      · exact .inr ⟨rfl, rfl, rfl⟩
    · cases h
  · split at h
    · rename_i hc; cases h; subst hc
      intro r m hm; simp at hm
      rcases hm with ⟨rfl, rfl⟩ | ⟨rfl, rfl⟩
      · exact .inr ⟨rfl, rfl, rfl⟩
      · exact .inl ⟨rfl, rfl⟩
    · cases h
  · cases h
theorem gH.live {P : Program} {f : FuncId} {vs : List V} {R : V → List ay → Prop} {v e : Nat} {rs : List V} (h : gH P f vs [] R) (hR : ∀ r m, R r m → (r = .ms 0 v 0 rs.length ∧ m = [.rows v e rs]) ∨ (r = .sc (.slice none 0 0) ∧ m = [] ∧ rs = [])) : sC P f vs e rs := by
  refine ⟨v, h.1, fun E w xs hs hx => (h.2 E w xs hs hx).mono ?_⟩
  rintro en w' ⟨E', x, r, m, rfl, hr, du, la, ow⟩
  rcases hR r m hr with ⟨rfl, rfl⟩ | ⟨rfl, rfl, rfl⟩
  · exact ⟨E', x, rfl, du, la, ow⟩
  · obtain rfl := b9 ow
    exact ⟨E', _, rfl, du, by simpa using la.lH v e, .df _ _ _ _⟩
def GG (P : Program) (tt : Table) (code : jL) : qJ := fun f vs =>
  match Sa P tt code f vs [] with
  | some outs => match AU outs with | some (_, e, rs) => some (e, rs) | none => none
  | none => none
def GH (lo : Nat) (b : Bool) (m : List ay) : Option (List (Bool × List ay)) :=
  let n := N7 8 lo m
  if lo ≤ n ∧ (m.take n).all (aA n) = true then Gy (m.take n) fun m => some [(b, m)] else none
theorem AW {lo : Nat} {b : Bool} {m : List ay} {x : List (Bool × List ay)} (h : GH lo b m = some x) : ∃ n, lo ≤ n ∧ (m.take n).all (aA n) = true ∧ (b, m.take n) ∈ x := by
  unfold GH at h
  dsimp only at h
  split at h
  · rename_i hc; rw [kz] at h; cases h; exact ⟨_, hc.1, hc.2, by simp⟩
  · cases h
def N8 (code : jL) : Ee := fun k vs mem =>
  match mem[k]? with
  | some (.loop .ready none fr params assign body) =>
    if vs.length = params.size then
      jM (QJ vs fun vs => J3 true none [] { fr := uO params.toList vs fr, mem := mem } fun s => code true assign s) fun o => match o.1, o.2.mem[k]? with
        | .normal, some (.loop .ready none Mp p1 JP JQ) =>
          jM (J3 true none [] { o.2 with mem := o.2.mem.set k (.loop .busy none Mp p1 JP JQ) } fun s => code true body s) fun u => match Au u.1, u.2.mem[k]? with
            | some jump, some (.loop _ _ JR p2 Gd Ge) =>
              GH mem.length jump.isNone (u.2.mem.set k (.loop (if jump.isNone then .ready else .done) jump JR p2 Gd Ge))
            | _, _ => none
        | _, _ => none
    else none
  | _ => none
def J7 : LoopState → Bool
  | .busy => false
  | _ => true

def pP {α : Type} (f : α → Option (List (Exit × St))) : List α → Option (List (Exit × St))
  | [] => none
  | a :: r => match f a with | some x => some x | none => pP f r
theorem qL {α : Type} {f : α → Option (List (Exit × St))} : ∀ {l : List α} {x : List (Exit × St)}, pP f l = some x → ∃ a ∈ l, f a = some x
  | [], x, h => by cases h
  | a :: r, x, h => by
    simp only [pP] at h
    split at h
    · rename_i hx; cases h; exact ⟨a, List.mem_cons_self .., hx⟩
    · obtain ⟨b, h1, h2⟩ := qL h; exact ⟨b, List.mem_cons_of_mem _ h1, h2⟩
def N9 (jv : FuncId → List V → Option V) (pure : lJ) : lJ := fun f vs => match jv f vs with | some r => some r | none => pure f vs
theorem J8 {P : Program} {jv : FuncId → List V → Option V} {pure : lJ} (h : sN P jv) (hp : pL P pure) : pL P (N9 jv pure) := fun f vs r hr => by
  unfold N9 at hr
  split at hr
  · rename_i r' h1; cases hr; exact h _ _ _ h1
  · exact hp _ _ _ hr
def J9 (P : Program) (tt : Table) (nat : lI) (jv : FuncId → List V → Option V) (code : jL) (ops : Array Oper) (st : St) (p : List Pl × Nat) : Option (List (Exit × St)) :=
  if sJ ops p.1 = true then (match yB P tt nat (N9 jv (yD P tt code)) (GG P tt code) ops st.mem.length ops.toList p.1 { st with mem := st.mem ++ List.replicate p.2 .hole } with
    | some s => some [(.normal, s)]
    | none => none) else none
def jw (P : Program) (tt : Table) (pl : yv) (nat : lI) (jv : FuncId → List V → Option V) (code : jL) : jL := fun ρ c st =>
  match c with
  | .skip => some [(.normal, st)]
  | .ret => some [(.ret, st)]
  | .exit id => some [(.exit id, st)]
  | .seq a b => jM (code ρ a st) fun o => match o.1 with
    | .normal => code ρ b o.2
    | e => some [(e, o.2)]
  | .cond x a b => match st.eval x with
    | .sc (.bool t) => code ρ (if t = true then a else b) st
    | _ => none
  | .block id c => jM (code ρ c st) fun o => match o.1 with
    | .exit j => if j = id then some [(.normal, o.2)] else some [(.exit j, o.2)]
    | e => some [(e, o.2)]
  | .loop c => jM (code ρ c st) fun o => match o.1 with
    | .normal => code ρ (.loop c) o.2
    | e => some [(e, o.2)]
  | .region _ ops false => jM (GC P tt nat jv (Sa P tt code) (N8 code) ops ops.toList st) fun s => some [(.normal, s)]
  | .region id ops true => match pP (J9 P tt nat jv code ops st) (pl id ops) with
    | some x => some x
    | none => match CH st with
      | some st' => pP (J9 P tt nat jv code ops st') (pl id ops)
      | none => none
  | .rangeFunc f params assign body => if ρ = true then none else
    match bn (st.eval f) [.ia st.mem.length] with
    | some (g, vs) => jM (Sa P tt code g vs (st.mem ++ [.loop .ready none st.fr params assign body])) fun o => match o.2[st.mem.length]? with
      | some (.loop s jm _ _ _ _) => if J7 s = true then (match jm with
        | none => J3 true none [] { st with mem := o.2.set st.mem.length .dead } fun s => some [(.normal, s)]
        | some c => J3 true none [] { st with mem := o.2.set st.mem.length .dead } fun s => code false c s) else none
      | _ => none
    | none => none
  | _ => none

def ev (P : Program) (tt : Table) (pl : yv) (nat : lI) (jv : FuncId → List V → Option V) (n : Nat) : jL := Nat.rec (fun _ _ _ => none) (fun _ r => jw P tt pl nat jv r) n

def sQ (P : Program) (code : jL) : Prop := ∀ b c st outs, code b c st = some outs → ∀ (ρ : Option Nat) (n0 : Nat) (Q : Exit → St → Prop), (b = true ∨ ρ = none) → (∀ o ∈ outs, Q o.1 o.2) → gD P ρ n0 c st Q

section
variable {P : Program} {tt : Table} {pl : yv} {nat : lI} {jv : FuncId → List V → Option V} (ht : TT P tt) (hm : P.follows .mixedOrders = true)
  (dB : ∀ (f : FuncId) (fn : Func) (body : Code), P.funcs[f]? = some fn → fn.body = some body → ∀ (xs : Array Value) (w : World), (callFunc f xs).run P w = .ok (.enter f xs) w)
include ht dB
theorem AX {code : jL} (MB : sQ P code) : AL P (Sa P tt code) := by
  intro f vs mem outs h
  unfold Sa at h
  split at h
  · rename_i fn hf
    split at h
    · rename_i body hb
      rw [Option.map_eq_some_iff] at h
      obtain ⟨XJ, h, Mx⟩ := h
      obtain ⟨l, h1, h2⟩ := dq h
      rw [wq, kz, nC] at h1
      refine Gb ht hf hb (dB f fn body hf hb) (MB _ _ _ _ h1 none _ _ (.inr rfl) fun o ho => ?_)
      obtain ⟨b, h3, h4⟩ := h2 o ho
      split at h3
      · rename_i he
        split at h3
        · rename_i r hr
          rw [yy] at h3
          split at h3
          · rename_i p hp
            rw [kz] at h3
            cases h3
            unfold R9 at hp
            dsimp only at hp
            split at hp
            · rename_i ou
              cases hp
              refine ⟨?_, r, _, ou.1, hr, ou.2.1, ou.2.2, by rw [← Mx]; exact pO (h4 _ (by simp))⟩
              cases Qv : o.1 <;> simp [rE, Qv] at he <;> simp
            · cases hp
          · cases h3
        · cases h3
      · cases h3
    · cases h
  · cases h
theorem yE {code : jL} (MB : sQ P code) : pL P (yD P tt code) := by
  intro f vs r h
  unfold yD at h
  split at h
  · rename_i fn hf
    split at h
    · rename_i body hb
      split at h
      · rename_i r1 rs FV
        split at h
        · rename_i aS
          cases h
          obtain ⟨l, h1, h2⟩ := dq FV
          rw [wq, nC] at h1
          refine Ga ht hf hb (dB f fn body hf hb) (MB _ _ _ _ h1 none _ _ (.inr rfl) fun o ho => ?_)
          obtain ⟨b, h3, h4⟩ := h2 o ho
          split at h3
          · rename_i he
            split at h3
            · rename_i r2 hr
              rw [yy] at h3
              cases h3
              have re : r2 = r := by
                rcases List.mem_cons.1 (h4 r2 (by simp)) with h | h
                · exact h
                · exact (oP (List.all_eq_true.1 aS _ h)).symm
              subst re
              refine ⟨?_, hr⟩
              cases Qv : o.1 <;> simp [rE, Qv] at he <;> simp
            · cases h3
          · cases h3
        · cases h
      · cases h
    · cases h
  · cases h
theorem GI {code : jL} (MB : sQ P code) : wu P (GG P tt code) := by
  intro f vs e rs h
  unfold GG at h
  split at h
  · rename_i outs ho
    split at h
    · rename_i v e' rs' hl
      cases h
      exact (AX ht dB MB f vs [] outs ho).live fun r m hr => AV hl r m hr
    · cases h
  · cases h
omit ht dB in
theorem Ka {code : jL} (MB : sQ P code) : Gx P (N8 code) := by
  intro k vs mem outs h
  unfold N8 at h
  split at h
  · rename_i fr params assign body hk
    split at h
    · rename_i hlen
      obtain ⟨l1, h1, h2⟩ := dq h
      rw [wq, nC] at h1
      refine wh hk hlen fun l => MB _ _ _ _ h1 (some l) _ _ (.inl rfl) fun o ho => ?_
      obtain ⟨b, h3, h4⟩ := h2 o ho
      split at h3
      · rename_i Mp p1 JP JQ he fJ
        refine ⟨he, Mp, p1, JP, JQ, fJ, ?_⟩
        obtain ⟨l2, h5, h6⟩ := dq h3
        rw [nC] at h5
        refine MB _ _ _ _ h5 (some l) _ _ (.inl rfl) fun u hu => ?_
        obtain ⟨b2, h7, h8⟩ := h6 u hu
        split at h7
        · rename_i jump s2 Uj JR p2 Gd Ge hj jA
          obtain ⟨n, hn, Jb, fF⟩ := AW h7
          exact ⟨n, jump, s2, Uj, JR, p2, Gd, Ge, hn, hj, jA, Jb, h4 _ (h8 _ fF)⟩
        · cases h7
      · cases h3
    · cases h
  · cases h

include hm in
theorem Sb (CA : sN P jv) (uX : ju P nat) : ∀ (n : Nat), sQ P (ev P tt pl nat jv n) ∧ ∀ b c st outs, ev P tt pl nat jv n b (.loop c) st = some outs → ∀ (ρ : Option Nat) (n0 : Nat) (Q : Exit → St → Prop), (b = true ∨ ρ = none) → (∀ o ∈ outs, Q o.1 o.2) → kU P ρ n0 c n st Q := by
  intro n
  induction n with
  | zero => exact ⟨fun b c st outs h => by simp [ev] at h, fun b c st outs h => by simp [ev] at h⟩
  | succ n ih =>
    obtain ⟨GJ, Y6⟩ := ih
    have kY : ∀ b c st, ev P tt pl nat jv (n + 1) b c st = jw P tt pl nat jv (ev P tt pl nat jv n) b c st := fun _ _ _ => rfl
    have loop : ∀ b c st outs, ev P tt pl nat jv (n + 1) b (.loop c) st = some outs → ∀ (ρ : Option Nat) (n0 : Nat) (Q : Exit → St → Prop), (b = true ∨ ρ = none) → (∀ o ∈ outs, Q o.1 o.2) → kU P ρ n0 c (n + 1) st Q := by
      intro b c st outs h ρ n0 Q hb hQ
      rw [kY] at h
      simp only [jw] at h
      obtain ⟨l, h1, h2⟩ := dq h
      refine GJ _ _ _ _ h1 ρ n0 _ hb fun o ho => ?_
      obtain ⟨e, s⟩ := o
      obtain ⟨b', h3, h4⟩ := h2 _ ho
      cases e with
      | normal => exact Y6 _ _ _ _ h3 ρ n0 Q hb fun o' Mb => hQ _ (h4 _ Mb)
      | _ => cases h3; exact hQ (_, _) (h4 _ (by simp))
    refine ⟨fun b c st outs h ρ n0 Q hb hQ => ?_, loop⟩
    cases c with
    | skip => rw [kY] at h; cases h; exact lA (hQ (_, _) (by simp))
    | ret => rw [kY] at h; cases h; exact oB (hQ (_, _) (by simp))
    | exit id => rw [kY] at h; cases h; exact sv (hQ (_, _) (by simp))
    | seq x y =>
      rw [kY] at h
      simp only [jw] at h
      obtain ⟨l, h1, h2⟩ := dq h
      refine kp (GJ _ _ _ _ h1 ρ n0 _ hb fun o ho => ?_)
      obtain ⟨e, s⟩ := o
      obtain ⟨b', h3, h4⟩ := h2 _ ho
      cases e with
      | normal => exact GJ _ _ _ _ h3 ρ n0 Q hb fun o' Mb => hQ _ (h4 _ Mb)
      | _ => cases h3; exact hQ (_, _) (h4 _ (by simp))
    | cond x y z =>
      rw [kY] at h
      simp only [jw] at h
      split at h
      · rename_i t hx
        exact lB hx (GJ _ _ _ _ h ρ n0 Q hb hQ)
      · cases h
    | block id c =>
      rw [kY] at h
      simp only [jw] at h
      obtain ⟨l, h1, h2⟩ := dq h
      refine jI (GJ _ _ _ _ h1 ρ n0 _ hb fun o ho => ?_)
      obtain ⟨e, s⟩ := o
      obtain ⟨b', h3, h4⟩ := h2 _ ho
      cases e with
      | exit j =>
        dsimp only at h3
        simp only [eD]
        split at h3
        · rename_i hj; cases h3; rw [if_pos hj]; exact hQ (_, _) (h4 _ (by simp))
        · rename_i hj; cases h3; rw [if_neg hj]; exact hQ (_, _) (h4 _ (by simp))
      | _ => cases h3; exact hQ (_, _) (h4 _ (by simp))
    | loop c => exact sw (n + 1) (loop _ _ _ _ h ρ n0 Q hb hQ)
    | region id ops d =>
      rw [kY] at h
      cases d with
      | false =>
        simp only [jw] at h
        obtain ⟨l, h1, h2⟩ := dq h
        refine kq ht (nD CA uX (AX ht dB GJ) (Ka GJ) h1 fun s hs => ?_)
        obtain ⟨b', h3, h4⟩ := h2 _ hs
        cases h3
        exact hQ (_, _) (h4 _ (by simp))
      | true =>
        simp only [jw] at h
        have one : ∀ (st : St) (outs : List (Exit × St)), (∀ o ∈ outs, Q o.1 o.2) → pP (J9 P tt nat jv (ev P tt pl nat jv n) ops st) (pl id ops) = some outs → gD P ρ n0 (.region id ops true) st Q := fun st outs hQ h => by
          obtain ⟨p, -, hp⟩ := qL h
          unfold J9 at hp
          split at hp
          · rename_i bM
            split at hp
            · rename_i s hs
              cases hp
              exact pK ht hm p.1 p.2 bM (qK uX (J8 CA (yE ht dB GJ)) (GI ht dB GJ) hs (hQ (_, _) (by simp)))
            · cases hp
          · cases hp
        split at h
        · rename_i x hx; cases h; exact one st _ hQ hx
        · split at h
          · rename_i st' NA
            exact AR NA (one st' _ hQ h)
          · cases h
    | rangeFunc f params assign body =>
      rw [kY] at h
      simp only [jw] at h
      split at h
      · cases h
      · rename_i yF
        have hρ : ρ = none := by rcases hb with h | h
                                 · exact absurd h yF
                                 · exact h
        subst hρ
        split at h
        · rename_i g vs hg
          obtain ⟨l, h1, h2⟩ := dq h
          refine sB hg (AX ht dB GJ _ _ _ _ h1) fun r Av hr => ?_
          obtain ⟨b', h3, h4⟩ := h2 _ hr
          dsimp only at h3
          split at h3
          · rename_i s jm Uk Mr Ms Mt NZ
            split at h3
            · rename_i QK
              refine ⟨s, jm, Uk, Mr, Ms, Mt, NZ, (fun e => by subst e; cases QK), ?_⟩
              split at h3
              · rw [nC] at h3; cases h3; exact hQ (_, _) (h4 _ (by simp))
              · rename_i c
                rw [nC] at h3
                exact GJ _ _ _ _ h3 none n0 Q (.inr rfl) fun o' Mb => hQ _ (h4 _ Mb)
            · cases h3
          · cases h3
        · cases h
    | _ => rw [kY] at h; simp [jw] at h

include hm in
theorem Sc (CA : sN P jv) (uX : ju P nat) (n : Nat) {f : FuncId} {vs : List V} {r : V} (h : yD P tt (ev P tt pl nat jv n) f vs = some r) : aP P f vs r := yE ht dB (Sb ht hm dB CA uX n).1 f vs r h
end
def Vw (P : Program) : Bool := P.funcs.all fun fn => fn.name != "runtime.NumGoroutine"
theorem GK {P : Program} (h : Vw P = true) (f : FuncId) (fn : Func) (body : Code) (hf : P.funcs[f]? = some fn) (hb : fn.body = some body) (xs : Array Value) (w : World) : (callFunc f xs).run P w = .ok (.enter f xs) w := by
  have aB : f < P.funcs.size := (Array.getElem?_eq_some_iff.1 hf).1
  have hn := (Array.all_eq_true.1 h) f aB
  have Y7 : P.funcs[f] = fn := (Array.getElem?_eq_some_iff.1 hf).2
  rw [Y7] at hn
  have bO : (fn.name == "runtime.NumGoroutine") = false := by simpa using hn
  simp only [callFunc,program,Sem.run_bind]
  show (match P.funcs[f]? with | none => _ | some fn => _ : Sem Next).run P w = _
  rw [hf]
  dsimp only
  rw [bO, hb]
  rfl
def Oa (l : List (Nat × Nat × Nat × List Pl)) : yv := fun id ops =>
  (l.filter fun e => e.1 == id && e.2.1 == ops.size).map fun e => (e.2.2.2, e.2.2.1)
def AY : List V → Option V
  | [.sc (.string a), .sc (.string b)] => if 2 ≤ b.size ∧ DS b.size = true ∧ a.size < 4294967281 then
      (match (List.range (a.size + 1 - b.size)).find? fun i => a.extract i (i + b.size) == b with
        | some i => some (.sc (.int .i64 i))
        | none => some (.sc (.int .i64 (-1)))) else none
  | _ => none
theorem Ej {P : Program} {f : FuncId} {fn : Func} {g : Nat} (hf : P.funcs[f]? = some fn) (hn : (fn.name == "runtime.NumGoroutine") = false) (hb : fn.body = none) (yG : Extern.findNext fn = none) (FN : Extern.find fn = some Extern.BytealgIndex.index)
    (hg : ∀ w, (globalAddr "internal/bytealg.MaxLen").run P w = .ok ⟨g, 0, none⟩ w) (hG : aG.g = some g) {vs : List V} {r : V} (h : AY vs = some r) : sr P f vs r := fun E w xs hF hx => by
  unfold AY at h
  split at h
  · rename_i a b
    split at h
    · rename_i hc
      obtain ⟨h2, hm, ha⟩ := hc
      rw [vI] at hm
      have hm : (b.size : Int) ≤ aG.n := by simpa using hm
      obtain ⟨x, r1, hy, Ak, hx⟩ := hx.of_cons
      obtain ⟨y, r2, hz, re, hx⟩ := hx.of_cons
      have := hx.of_nil
      subst this; subst hz
      obtain rfl := b9 Ak
      obtain rfl := b9 re
      obtain rfl : xs = #[.string a, .string b] := by rw [← Array.toArray_toList (xs := xs), hy]
      have lq : w.cell? ⟨g, 0, none⟩ = some (.int .i64 aG.n) := hF _ _ (E.gl.n g hG)
      have Vx : Extern.BytealgIndex.maxLen.run P w = .ok aG.n w := by
        simp [Extern.BytealgIndex.maxLen, hg, load, Sem.run, lq, asInt, asIntOf]
      have cO : (Extern.BytealgIndex.index #[.string a, .string b]).run P w = .ok (match (List.range (a.size + 1 - b.size)).find? fun i => a.extract i (i + b.size) == b with | some i => goInt i | none => goInt (-1)) w := by
        show (do
          let a ← Extern.Bytes.bytesOf (.string a)
          let b ← Extern.Bytes.bytesOf (.string b)
          if b.size < 2 || (b.size : Int) > (← Extern.BytealgIndex.maxLen) then
            unsupported (.noEntry "extern/internal/bytealg.Index.length")
          if a.size ≥ 2 ^ 32 - 15 then
            unsupported (.noEntry "extern/internal/bytealg.Index: a haystack of 2^32 - 15 bytes or more")
          match (List.range (a.size + 1 - b.size)).find? fun i => a.extract i (i + b.size) == b with
          | some i => pure (goInt i)
          | none => pure (goInt (-1)) : Sem Value).run P w = _
        have e1 : (decide (b.size < 2)) = false := by simp; omega
        have e2 : decide ((b.size : Int) > aG.n) = false := by simp; omega
        have e3 : ¬ a.size ≥ 2 ^ 32 - 15 := by omega
        simp only [Extern.Bytes.bytesOf,Sem.run_bind,Sem.run_pure,Result.andThen_ok,Vx,e1,e2,Bool.or_self,Bool.false_eq_true,if_false,e3]
        split <;> rfl
      refine ⟨(match (List.range (a.size + 1 - b.size)).find? fun i => a.extract i (i + b.size) == b with | some i => goInt i | none => goInt (-1)), ?_, ?_⟩
      · simp only [callFunc,program,Sem.run_bind]
        show (match P.funcs[f]? with | none => _ | some fn => _ : Sem Next).run P w = _
        rw [hf]
        dsimp only
        rw [hn, hb]
        simp only [Bool.false_eq_true,if_false,Option.isNone_none,if_true,yG,FN,Sem.run_bind,mark,Sem.run,Result.andThen_ok]
        rw [cO]; rfl
      · split at h
        · cases h; exact .sc _ _
        · cases h; exact .sc _ _
    · cases h
  · cases h
end Go.Eng
end
