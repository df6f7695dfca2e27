/-
  THE ENGINE, V: the engine as a function: what a closed call comes to, by computing.
-/
import Derived.Test.YtnfeacnbgbggfaaGreatDoorE3
set_option linter.all false
section
namespace Go.Eng
variable [aH]

abbrev yW := Nat → Array Oper → List (List Pl × Nat)
abbrev vn := FuncId → List V → List aw → Option (List (V × List aw))
abbrev lR := FuncId → List V → Option V
def jD (P : Program) (nat : lR) : Prop := ∀ f vs r, nat f vs = some r → sI P f vs r
abbrev EO := Nat → List V → List aw → Option (List (Bool × List aw))
abbrev jR := Bool → Code → St → Option (List (Exit × St))

def jS {α β : Type} (x : Option (List α)) (f : α → Option (List β)) : Option (List β) :=
  match x with
  | none => none
  | some l => l.foldr (fun a acc => match f a, acc with | some b, some c => some (b ++ c) | _, _ => none) (some [])
theorem vo {α β : Type} {f : α → Option (List β)} : ∀ {l : List α} {out : List β}, jS (some l) f = some out → ∀ a ∈ l, ∃ b, f a = some b ∧ ∀ x ∈ b, x ∈ out
  | [], _, _, a, ha => by simp at ha
  | c :: r, out, h, a, ha => by
    simp only [jS,List.foldr_cons] at h
    split at h
    · rename_i b t hb hc
      cases h
      rcases List.mem_cons.1 ha with rfl | ha
      · exact ⟨b, hb, fun x hx => List.mem_append_left _ hx⟩
      · obtain ⟨b', h1, h2⟩ := vo (l := r) (out := t) hc a ha
        exact ⟨b', h1, fun x hx => List.mem_append_right _ (h2 x hx)⟩
    · cases h
theorem dq {α β : Type} {x : Option (List α)} {f : α → Option (List β)} {out : List β} (h : jS x f = some out) : ∃ l, x = some l ∧ ∀ a ∈ l, ∃ b, f a = some b ∧ ∀ y ∈ b, y ∈ out := by
  cases x with
  | none => cases h
  | some l => exact ⟨l, rfl, vo h⟩

def G5 (st : St) (it : V) (str : Bool) : Option (List (V × List aw)) :=
  match it with
  | .ptr b 0 => match st.mem[b]? with
    | some (.dF m since seen last) => match st.mem[m]? with
      | some (.map aY clock) => if str = false ∧ oG aY seen last = false then
          some ((if (oF aY seen since).isEmpty then [(qM, st.mem)] else []) ++
            (oF aY seen since ++ yp aY seen since).map fun e => (C5 e, st.mem.set b (.dF m since (seen ++ [e.2.1]) clock)))
        else none
      | _ => none
    | some (.ia s pos) => if str = true then (if pos < s.size then some [(MN s pos, st.mem.set b (.ia s (pos + (Utf8.decode s pos).2)))] else some [(qM, st.mem)]) else none
    | some .iA => if str = false then some [(qM, st.mem)] else none
    | _ => none
  | _ => none
theorem cC {α : Type} {Q : α → Prop} {a : α} (h : ∀ p ∈ [a], Q p) : Q a := h a (List.mem_singleton.2 rfl)
theorem yX {st : St} {dst : Option Tmp} {it : V} {str : Bool} {outs : List (V × List aw)} {Q : St → Prop} (h : G5 st it str = some outs) (hQ : ∀ p ∈ outs, Q (St.put { st with mem := p.2 } dst p.1)) : nw st dst it str Q := by
  unfold G5 at h
  unfold nw
  split at h
  · split at h
    · rename_i h1
      simp only [h1]
      split at h
      · rename_i h2
        simp only [h2]
        split at h
        · rename_i h3
          cases h
          refine ⟨h3.1, h3.2, fun he => ?_, fun e he => ?_⟩
          · have := hQ (qM, st.mem) (by rw [he]; exact List.mem_append_left _ (List.mem_singleton.2 rfl)); exact this
          · have := hQ _ (List.mem_append_right _ (List.mem_map.2 ⟨e, he, rfl⟩)); exact this
        · cases h
      · cases h
    · rename_i h1
      simp only [h1]
      split at h
      · rename_i h3
        refine ⟨h3, ?_⟩
        split at h
        · rename_i h4; cases h; rw [if_pos h4]; exact (by have h9 := cC hQ; exact h9)
        · rename_i h4; cases h; rw [if_neg h4]; exact (by have h9 := cC hQ; exact h9)
      · cases h
    · rename_i h1
      simp only [h1]
      split at h
      · rename_i h3
        cases h
        exact ⟨h3, (by have h9 := cC hQ; exact h9)⟩
      · cases h
    · cases h
  · cases h

def Sn (jE : FuncId → List V → Option V) (g : FuncId) (vs : List V) (st : St) : Option (V × List aw) :=
  match cy st.mem vs with
  | some vs' => match jE g vs' with
    | some r => some (r, cp st.mem (vs.flatMap cn) r)
    | none => none
  | none => none
def s4 (P : Program) (jE : FuncId → List V → Option V) : Prop := ∀ f vs r, jE f vs = some r → aO P f vs r
def G6 (P : Program) (tt : Table) (nat : lR) (jE : FuncId → List V → Option V) (call : vn) (im : EO) (key : Nat) (o : Oper) (st : St) : Option (List (V × List aw)) :=
  match o.op with
  | .alloc T => match tt T with
    | some i => some [((.ptr key 0), ba st.mem key (.box (i.zero.map V.sc)))]
    | none => none
  | .box _ x => match fF (st.eval x) with
    | some cs => some [((.ptr key 0), ba st.mem key (.box cs))]
    | none => none
  | .build T parts => match gZ P tt T parts.toList st.eval with
    | some v => some [(v, st.mem)]
    | none => none
  | .buildSlice T len parts => match pM tt T len parts.toList st.eval with
    | some (size, rs) => some [((.ms key 0 0 len), ba st.mem key (.rows 0 size rs))]
    | none => match nL tt T len parts.toList st with
      | some (size, rs) => some [((.ms key 0 0 len), ba (bS st.mem (ff st.eval parts.toList)) key (.rows 0 size rs))]
      | none => none
  | .store T p x => match gY tt st.mem T (st.eval p) (st.eval x) with
    | some aE => some [((.sc undef), aE)]
    | none => match wL tt st.mem T (st.eval p) (st.eval x) with
      | some aE => some [((.sc undef), aE)]
      | none => none
  | .call { callee := .builtin .append, args := xs, argTypes := ts } => match xs.toList.map st.eval with
    | [s, x] => match dv tt st.mem ts.toList s x with
      | some (size, nt, rows) => some [((cu st.mem key size rows nt).2, (cu st.mem key size rows nt).1)]
      | none => none
    | _ => none
  | .call { callee := .value f, args := xs, .. } => match st.eval f with
    | .im k => match im k (xs.toList.map st.eval) st.mem with
      | some outs => some (outs.map fun p => ((.sc (.bool p.1)), p.2))
      | none => none
    | fv => match aX fv (xs.toList.map st.eval) with
      | some (g, vs) => match Sn jE g vs st with
        | some (r, aE) => some [(r, aE)]
        | none => match call g vs st.mem with
          | some outs => some (outs.map fun p => (p.1, p.2))
          | none => match nat g vs with
            | some r => some [(r, st.mem)]
            | none => none
      | none => none
  | .makeSlice T l c => match qN tt T (st.eval l) (st.eval c) with
    | some (size, rs, _) => some [((.ms key 0 0 rs.length), ba st.mem key (.rows 0 size rs))]
    | none => none
  | .makeMap _ none => some [((.mp key), ba st.mem key (.map [] 0))]
  | .mapUpdate T m k x => match ch P st.mem T (st.eval m) (st.eval k) (st.eval x) with
    | some aE => some [((.sc undef), aE)]
    | none => none
  | .insert T m k x => match ch P st.mem T (st.eval m) (st.eval k) (st.eval x) with
    | some aE => some [((.sc undef), aE)]
    | none => none
  | .mapEntry T m k => match pP P st.mem T (st.eval m) (st.eval k) with
    | some (aE, v) => some [(v, aE)]
    | none => none
  | .entryStore _ m s x => match pQ st.mem (st.eval m) (st.eval s) (st.eval x) with
    | some aE => some [((.sc undef), aE)]
    | none => none
  | .call { callee := .builtin .delete, args := xs, argTypes := ts } => match mu P st.mem ts (xs.toList.map st.eval) with
    | some aE => some [((.sc (.tuple #[])), aE)]
    | none => none
  | .range T x => match iH P st.mem T (st.eval x) with
    | some B => some [((.ptr key 0), ba st.mem key B)]
    | none => none
  | .next it str => G5 st (st.eval it) str
  | .binOp op T x y _ => match jC tt op T (st.eval x) (st.eval y) with
    | some n => if n = 0 then some [((.sc (.bool (kA op false))), st.mem), ((.sc (.bool (kA op true))), st.mem)] else some [((.sc (.bool (kA op false))), st.mem)]
    | none => match fO P tt st o with
      | some v => some [(v, st.mem)]
      | none => none
  | _ => match fO P tt st o with
    | some v => some [(v, st.mem)]
    | none => none

def Bq (P : Program) (call : vn) : Prop := ∀ f vs mem outs, call f vs mem = some outs → fi P f vs mem fun r m => (r, m) ∈ outs
def G7 (P : Program) (im : EO) : Prop := ∀ k vs mem outs, im k vs mem = some outs → EC P k vs mem fun b m => (b, m) ∈ outs

theorem yY {P : Program} {tt : Table} {nat : lR} {jE : FuncId → List V → Option V} {call : vn} {im : EO} (Dh : s4 P jE) (vp : jD P nat) (hc : Bq P call) (hy : G7 P im) {key : Nat} {o : Oper} {st : St} {outs : List (V × List aw)} {Q : St → Prop} (h : G6 P tt nat jE call im key o st = some outs) (hQ : ∀ p ∈ outs, Q (St.put { st with mem := p.2 } o.dst p.1)) :
    aS P tt key o st Q := by
  unfold G6 at h
  unfold aS
  split at h
  · rename_i heq; rw [heq]; dsimp only
    split at h
    · rename_i h1; cases h; rw [h1]; exact (by have h9 := cC hQ; exact h9)
    · cases h
  · rename_i heq; rw [heq]; dsimp only
    split at h
    · rename_i h1; cases h; rw [h1]; exact (by have h9 := cC hQ; exact h9)
    · cases h
  · rename_i heq; rw [heq]; dsimp only
    split at h
    · rename_i h1; cases h; rw [h1]; exact (by have h9 := cC hQ; exact h9)
    · cases h
  · rename_i heq; rw [heq]; dsimp only
    split at h
    · rename_i h1; cases h; rw [h1]; exact (by have h9 := cC hQ; exact h9)
    · rename_i h0
      rw [h0]; dsimp only
      split at h
      · rename_i h1; cases h; rw [h1]; exact (by have h9 := cC hQ; exact h9)
      · cases h
  · rename_i heq; rw [heq]; dsimp only
    split at h
    · rename_i h1; cases h; rw [h1]; exact (by have h9 := cC hQ; exact h9)
    · rename_i h0
      rw [h0]; dsimp only
      split at h
      · rename_i h1; cases h; rw [h1]; exact (by have h9 := cC hQ; exact h9)
      · cases h
  · rename_i heq; rw [heq]; dsimp only
    split at h
    · rename_i h0
      rw [h0]; dsimp only
      split at h
      · rename_i h1; cases h; rw [h1]; exact (by have h9 := cC hQ; exact h9)
      · cases h
    · cases h
  · rename_i heq; rw [heq]; dsimp only
    split at h
    · rename_i k hk
      rw [hk]; dsimp only
      split at h
      · rename_i os ho
        cases h
        exact .inr ⟨_, hy _ _ _ _ ho, fun b m hm => (by have := hQ _ (List.mem_map.2 ⟨_, hm, rfl⟩); exact this)⟩
      · cases h
    · rename_i fv Q6
      split at h
      · rename_i g vs hg
        split at h
        · rename_i r aE EP
          cases h
          unfold Sn at EP
          split at EP
          · rename_i vs' UG
            split at EP
            · rename_i r1 A1
              cases EP
              split
              · rename_i k hk; exact absurd hk (Q6 k)
              · rw [hg]; exact .inl ⟨vs', _, UG, Dh _ _ _ A1, (by have h9 := cC hQ; exact h9)⟩
            · cases EP
          · cases EP
        · split at h
          · rename_i os ho
            cases h
            split
            · rename_i k hk; exact absurd hk (Q6 k)
            · rw [hg]; exact .inr (.inr (.inl ⟨_, hc _ _ _ _ ho, fun b m hm => (by have := hQ _ (List.mem_map.2 ⟨_, hm, rfl⟩); exact this)⟩))
          · split at h
            · rename_i r hr
              cases h
              split
              · rename_i k hk; exact absurd hk (Q6 k)
              · rw [hg]; exact .inr (.inr (.inr ⟨r, vp _ _ _ hr, (by have h9 := cC hQ; exact h9)⟩))
            · cases h
      · cases h
  · rename_i heq; rw [heq]; dsimp only
    split at h
    · rename_i h1; cases h; rw [h1]; exact (by have h9 := cC hQ; exact h9)
    · cases h
  · rename_i heq; rw [heq]; dsimp only; cases h; exact (by have h9 := cC hQ; exact h9)
  · rename_i heq; rw [heq]; dsimp only
    split at h
    · rename_i h1; cases h; rw [h1]; exact (by have h9 := cC hQ; exact h9)
    · cases h
  · rename_i heq; rw [heq]; dsimp only
    split at h
    · rename_i h1; cases h; rw [h1]; exact (by have h9 := cC hQ; exact h9)
    · cases h
  · rename_i heq; rw [heq]; dsimp only
    split at h
    · rename_i h1; cases h; rw [h1]; exact (by have h9 := cC hQ; exact h9)
    · cases h
  · rename_i heq; rw [heq]; dsimp only
    split at h
    · rename_i h1; cases h; rw [h1]; exact (by have h9 := cC hQ; exact h9)
    · cases h
  · rename_i heq; rw [heq]; dsimp only
    split at h
    · rename_i h1; cases h; rw [h1]; exact (by have h9 := cC hQ; exact h9)
    · cases h
  · rename_i heq; rw [heq]; dsimp only
    split at h
    · rename_i h1; cases h; rw [h1]; exact (by have h9 := cC hQ; exact h9)
    · cases h
  · rename_i heq; rw [heq]; dsimp only
    exact yX h hQ
  · rename_i heq; rw [heq]; dsimp only
    split at h
    · rename_i n hn
      rw [hn]; dsimp only
      intro b hb
      split at h
      · cases h; cases b
        · have := hQ _ (List.mem_cons_self ..); exact this
        · have := hQ _ (List.mem_cons_of_mem _ (List.mem_singleton.2 rfl)); exact this
      · rename_i h0; cases h; rw [hb h0]; exact (by have h9 := cC hQ; exact h9)
    · rename_i hn
      rw [hn]; dsimp only
      split at h
      · rename_i h1; cases h; rw [h1]; exact (by have h9 := cC hQ; exact h9)
      · cases h
  · split at h
    · rename_i h1
      cases h
      split <;> first | (rw [h1]; exact (by have h9 := cC hQ; exact h9)) | (exfalso; solve_by_elim)
    · cases h

/-! ### what is computed is written out before it is handed on (the kernel would reckon it anew at each look) -/
def G8 {α β : Type} : List α → (List α → β) → β
  | [], k => k []
  | c :: r, k => G8 r fun r' => k (c :: r')
theorem kF {α β : Type} : ∀ (l : List α) (k : List α → β), G8 l k = k l
  | [], _ => rfl
  | c :: r, k => by rw [G8, kF r]
def hY {β : Type} (n : Nat) (k : Nat → β) : β := Nat.casesOn n (k 0) fun m => k (Nat.succ m)
theorem dP {β : Type} (n : Nat) (k : Nat → β) : hY n k = k n := by cases n <;> rfl
def OH {β : Type} (n : Int) (k : Int → β) : β := match n with | .ofNat m => hY m fun m' => k (.ofNat m') | .negSucc m => hY m fun m' => k (.negSucc m')
theorem Kt {β : Type} (n : Int) (k : Int → β) : OH n k = k n := by cases n <;> simp only [OH,dP]
def Br {β : Type} (s : ByteArray) (k : ByteArray → β) : β := G8 s.data.toList fun l => k ⟨⟨l⟩⟩
theorem ER {β : Type} (s : ByteArray) (k : ByteArray → β) : Br s k = k s := by rw [Br, kF]
def Ku {β : Type} (v : Value) (k : Value → β) : β :=
  match v with
  | .bool true => k (.bool true)
  | .bool false => k (.bool false)
  | .int t n => OH n fun n' => k (.int t n')
  | .string s => Br s fun s' => k (.string s')
  | v => k v
theorem Di {β : Type} (v : Value) (k : Value → β) : Ku v k = k v := by
  unfold Ku
  split
  · rfl
  · rfl
  · rw [Kt]
  · rw [ER]
  · rfl
def fW {β : Type} (v : V) (k : V → β) : β :=
  match v with
  | .undef => k .undef
  | .sc v => k (.sc v)
  | .agg cs => k (.agg cs)
  | .slice r => k (.slice r)
  | .ms a b c d => k (.ms a b c d)
  | .ptr a b => k (.ptr a b)
  | .dd a b c d => k (.dd a b c d)
  | .cg cs => k (.cg cs)
  | .fQ f a b => k (.fQ f a b)
  | .bN l => k (.bN l)
  | .im a => k (.im a)
  | .mp a => k (.mp a)
  | .gn => k .gn
  | .full r => k (.full r)
theorem M4 {β : Type} (v : V) (k : V → β) : fW v k = k v := by cases v <;> rfl
def Rb {β : Type} : List V → (List V → β) → β
  | [], k => k []
  | c :: r, k => fW c fun c' => Rb r fun r' => k (c' :: r')
theorem wW {β : Type} : ∀ (l : List V) (k : List V → β), Rb l k = k l
  | [], _ => rfl
  | c :: r, k => by rw [Rb, M4, wW r]
mutual
def fV {β : Type} : V → (V → β) → β
  | .undef, k => k .undef
  | .gn, k => k .gn
  | .sc v, k => Ku v fun v' => k (.sc v')
  | .agg cs, k => Dj cs fun np => k (.agg np)
  | .bN cs, k => Dj cs fun np => k (.bN np)
  | .slice cs, k => Dj cs fun np => k (.slice np)
  | .full cs, k => Dj cs fun np => k (.full np)
  | .cg cs, k => Dj cs fun np => k (.cg np)
  | .fQ f a b, k => Dj a fun a' => Dj b fun b' => k (.fQ f a' b')
  | .ms a b c d, k => hY a fun a' => hY b fun b' => hY c fun c' => hY d fun d' => k (.ms a' b' c' d')
  | .ptr a b, k => hY a fun a' => hY b fun b' => k (.ptr a' b')
  | .dd a b c d, k => hY a fun a' => hY b fun b' => hY c fun c' => hY d fun d' => k (.dd a' b' c' d')
  | .im a, k => hY a fun a' => k (.im a')
  | .mp a, k => hY a fun a' => k (.mp a')
def Dj {β : Type} : List V → (List V → β) → β
  | [], k => k []
  | c :: r, k => fV c fun c' => Dj r fun r' => k (c' :: r')
end
mutual
theorem yZ {β : Type} : ∀ (v : V) (k : V → β), fV v k = k v
  | .undef, _ => by rw [fV]
  | .gn, _ => by rw [fV]
  | .sc v, k => by rw [fV, Di]
  | .agg cs, k => by rw [fV, kG cs]
  | .bN cs, k => by rw [fV, kG cs]
  | .slice cs, k => by rw [fV, kG cs]
  | .full cs, k => by rw [fV, kG cs]
  | .cg cs, k => by rw [fV, kG cs]
  | .fQ f a b, k => by rw [fV, kG a, kG b]
  | .ms a b c d, k => by rw [fV, dP, dP, dP, dP]
  | .ptr a b, k => by rw [fV, dP, dP]
  | .dd a b c d, k => by rw [fV, dP, dP, dP, dP]
  | .im a, k => by rw [fV, dP]
  | .mp a, k => by rw [fV, dP]
theorem kG {β : Type} : ∀ (l : List V) (k : List V → β), Dj l k = k l
  | [], _ => by rw [Dj]
  | c :: r, k => by rw [Dj, yZ c, kG r]
end
def Kv {β : Type} : List (Value × Nat × V) → (List (Value × Nat × V) → β) → β
  | [], k => k []
  | (a, n, v) :: r, k => Ku a fun a' => hY n fun n' => fV v fun v' => Kv r fun r' => k ((a', n', v') :: r')
theorem Dk {β : Type} : ∀ (l : List (Value × Nat × V)) (k : List (Value × Nat × V) → β), Kv l k = k l
  | [], _ => rfl
  | (a, n, v) :: r, k => by rw [Kv, Di, dP, yZ, Dk r]
def fB {β : Type} (B : aw) (k : aw → β) : β :=
  match B with
  | .hole => k .hole
  | .dead => k .dead
  | .iA => k .iA
  | .box cs => Dj cs fun np => k (.box np)
  | .rows v e rs => hY v fun v' => hY e fun e' => Dj rs fun rs' => k (.rows v' e' rs')
  | .mX v e rs => hY v fun v' => hY e fun e' => Dj rs fun rs' => k (.mX v' e' rs')
  | .loop s p fr ps a b => k (.loop s p fr ps a b)
  | .map aY c => Kv aY fun kvs' => hY c fun c' => k (.map kvs' c')
  | .dF a b c d => hY a fun a' => hY b fun b' => G8 c fun c' => hY d fun d' => k (.dF a' b' c' d')
  | .ia s p => hY p fun p' => k (.ia s p')
theorem Sq {β : Type} (B : aw) (k : aw → β) : fB B k = k B := by
  cases B <;> simp only [fB,kG,dP,Dk,kF]
def Bs {β : Type} : List Nat → List aw → (List aw → β) → β
  | [], m, k => G8 m k
  | i :: r, m, k => match m[i]? with
    | some B => fB B fun B' => Bs r (m.set i B') k
    | none => Bs r m k
theorem oX {β : Type} : ∀ (ks : List Nat) (m : List aw) (k : List aw → β), Bs ks m k = k m
  | [], m, k => kF m k
  | i :: r, m, k => by
    simp only [Bs]
    split
    · rename_i B hB
      rw [Sq, oX r]
      congr 1
      apply List.ext_getElem?
      intro j
      rw [List.getElem?_set]
      split
      · rename_i pO; subst pO
        split
        · exact hB.symm
        · rename_i aD; rw [List.getElem?_eq_none (by omega)]
      · rfl
    · exact oX r m k
def vq (o : Oper) : Bool :=
  match o.op with
  | .move _ | .assign _ | .pick .. | .load .. | .extract .. | .nilCheck _ | .field .. => true
  | _ => false
def fD {β : Type} (b : Bool) (v : V) (k : V → β) : β := match b with | true => fW v k | false => fV v k
theorem M5 {β : Type} (b : Bool) (v : V) (k : V → β) : fD b v k = k v := by cases b <;> simp only [fD,M4,yZ]
def Kw {β : Type} (b : Bool) (d : Option Tmp) (ks : List Nat) (s : St) (k : St → β) : β :=
  match d with
  | some d => fD b (s.fr.getD d .undef) fun v => G8 (if d < s.fr.length then s.fr.set d v else s.fr) fun fr => Bs ks s.mem fun mem => k { fr := fr, mem := mem }
  | none => G8 s.fr fun fr => Bs ks s.mem fun mem => k { fr := fr, mem := mem }
theorem nQ {β : Type} (b : Bool) (d : Option Tmp) (ks : List Nat) (s : St) (k : St → β) : Kw b d ks s k = k s := by
  unfold Kw
  split
  · rename_i d
    rw [M5, kF, oX]
    congr 1
    split
    · rename_i hd
      obtain ⟨fr, mem⟩ := s
      dsimp only at hd ⊢
      congr 1
      apply List.ext_getElem?
      intro j
      rw [List.getElem?_set]
      split
      · rename_i pO; subst pO
        rw [List.getD_eq_getElem?_getD, List.getElem?_eq_getElem hd]; rfl
      · rfl
    · rfl
  · rw [kF, oX]
def Kx {β : Type} : List V → Nat → V → (List V → β) → β
  | [], _, _, k => k []
  | _ :: r, 0, v, k => k (v :: r)
  | c :: r, d + 1, v, k => Kx r d v fun r' => k (c :: r')
theorem Dl {β : Type} : ∀ (l : List V) (d : Nat) (v : V) (k : List V → β), Kx l d v k = k (l.set d v)
  | [], _, _, _ => rfl
  | _ :: _, 0, _, _ => rfl
  | c :: r, d + 1, v, k => by rw [Kx, Dl r]; rfl
def Dm {β : Type} (ks : List Nat) (m : List aw) (k : List aw → β) : β := match ks with | [] => k m | _ :: _ => Bs ks m k
theorem y0 {β : Type} (ks : List Nat) (m : List aw) (k : List aw → β) : Dm ks m k = k m := by
  unfold Dm
  split
  · rfl
  · rw [oX]
def OI {β : Type} (b : Bool) (d : Option Tmp) (ks : List Nat) (st : St) (v : V) (m : List aw) (k : St → β) : β :=
  match d with
  | some d => fD b v fun v => Kx st.fr d v fun fr => Dm ks m fun mem => k { fr := fr, mem := mem }
  | none => Dm ks m fun mem => k { fr := st.fr, mem := mem }
theorem Ky {β : Type} (b : Bool) (d : Option Tmp) (ks : List Nat) (st : St) (v : V) (m : List aw) (k : St → β) : OI b d ks st v m k = k (St.put { st with mem := m } d v) := by
  unfold OI
  split
  · rw [M5, Dl, y0]; rfl
  · rw [y0]; rfl
def G9 : V → List Nat
  | .ptr b _ => [b]
  | .dd b _ _ _ => [b]
  | .ms b _ _ _ => [b]
  | .mp b => [b]
  | _ => []
def Dn (key : Nat) (o : Oper) (st : St) : List Nat :=
  match o.op with
  | .alloc _ | .box .. | .buildSlice .. | .makeMap .. | .makeSlice .. | .range .. => [key]
  | .store _ p _ => G9 (st.eval p)
  | .call { callee := .builtin .append, args := xs, .. } => match xs.toList with | s :: _ => key :: G9 (st.eval s) | _ => []
  | .call { callee := .builtin .delete, args := xs, .. } => match xs.toList with | s :: _ => G9 (st.eval s) | _ => []
  | .mapUpdate _ m _ _ | .insert _ m _ _ | .mapEntry _ m _ | .entryStore _ m _ _ => G9 (st.eval m)
  | .call { callee := .value _, .. } => [0]
  | .next it _ => G9 (st.eval it)
  | _ => []

def Ha (P : Program) (tt : Table) (nat : lR) (jE : FuncId → List V → Option V) (call : vn) (im : EO) (all : Array Oper) : List Oper → St → Option (List St)
  | [], st => some [st]
  | o :: r, st => match cj all st.fr o with
    | some true => jS (G6 P tt nat jE call im st.mem.length o st) fun p => OI (vq o) o.dst (Dn st.mem.length o st) st p.1 p.2 fun s' => Ha P tt nat jE call im all r s'
    | some false => Ha P tt nat jE call im all r (st.put o.dst (.sc undef))
    | none => none
theorem nR {P : Program} {tt : Table} {nat : lR} {jE : FuncId → List V → Option V} (Dh : s4 P jE) {call : vn} {im : EO} (vp : jD P nat) (hc : Bq P call) (hy : G7 P im) {all : Array Oper} {Q : St → Prop} : ∀ {l : List Oper} {st : St} {outs : List St}, Ha P tt nat jE call im all l st = some outs → (∀ s ∈ outs, Q s) → cL P tt all l st Q
  | [], st, outs, h, hQ => by cases h; exact hQ _ (by simp)
  | o :: r, st, outs, h, hQ => by
    simp only [Ha] at h
    simp only [cL]
    split at h
    · rename_i hw
      rw [hw]
      obtain ⟨l, h1, h2⟩ := dq h
      refine yY Dh vp hc hy h1 fun s hs => ?_
      obtain ⟨b, h3, h4⟩ := h2 s hs
      rw [Ky] at h3
      exact nR Dh vp hc hy h3 fun s' lr => hQ _ (h4 _ lr)
    · rename_i hw
      rw [hw]
      exact nR Dh vp hc hy h hQ
    · cases h

/-! ### all rows frozen -/
def cN : Nat → List aw → List (Nat × Nat)
  | _, [] => []
  | i, .rows v _ _ :: r => (i, v) :: cN (i + 1) r
  | i, .mX v _ _ :: r => (i, v) :: cN (i + 1) r
  | i, _ :: r => cN (i + 1) r
theorem kH : ∀ {m : List aw} {n k v e : Nat} {rs : List V}, (m[k]? = some (.rows v e rs) ∨ m[k]? = some (.mX v e rs)) → (n + k, v) ∈ cN n m
  | [], n, k, v, e, rs, h => by simp at h
  | B :: r, n, 0, v, e, rs, h => by
    simp only [List.getElem?_cons_zero,Option.some.injEq] at h
    rcases h with rfl | rfl <;> simp [cN]
  | B :: r, n, k + 1, v, e, rs, h => by
    simp only [List.getElem?_cons_succ] at h
    have := kH (n := n + 1) h
    rw [show n + 1 + k = n + (k + 1) from by omega] at this
    cases B <;> simp only [cN] <;> first | exact this | exact List.mem_cons_of_mem _ this
def gF (mem : List aw) (v : V) : V := match bu mem v with | some v' => v' | none => v
def OJ (mem : List aw) : V → V
  | .agg cs => .agg (cs.map (gF mem))
  | .bN vs => .bN (vs.map fun v => match v with | .agg cs => .agg (cs.map (gF mem)) | v => gF mem v)
  | v => gF mem v
def Bt (mem : List aw) : aw → aw
  | .box cs => .box (cs.map (gF mem))
  | B => B
def Dp (st : St) : Option St :=
  let keys := cN 0 st.mem
  match cy st.mem (keys.map fun (k : Nat × Nat) => V.ms k.1 k.2 0 0) with
  | some _ => some { fr := st.fr.map (OJ st.mem), mem := (bS st.mem keys).map (Bt st.mem) }
  | none => none
theorem Dq : ∀ (keys : List (Nat × Nat)), (keys.map fun (k : Nat × Nat) => V.ms k.1 k.2 0 0).flatMap cn = keys
  | [] => rfl
  | k :: r => by simp [cn, ej, Dq r]
theorem ES {mem : List aw} {B : aw} (h : ∀ cs, B ≠ .box cs) : Bt mem B = B := by
  cases B <;> first | rfl | exact absurd rfl (h _)
theorem Bu (mem : List aw) (B : aw) : (Bt mem B).aC = B.aC := by cases B <;> rfl
theorem y3 {E : Env} {w : World} {a : Act} {st st' : St} (hs : bc E w a st) (h : Dp st = some st') : ∃ E', bc E' w a st' ∧ dt E w E' w := by
  unfold Dp at h
  dsimp only at h
  split at h
  · rename_i vs' hp
    cases h
    obtain ⟨ks, M6⟩ : ∃ ks, ks = ((cN 0 st.mem).map (fun (k : Nat × Nat) => V.ms k.1 k.2 0 0)).flatMap cn := ⟨_, rfl⟩
    have Sr : dt E w (E.kj w ks) w ∧ bc (E.kj w ks) w a { st with mem := bS st.mem ks } := by
      subst M6
      obtain ⟨hg, h1, h2⟩ := sF hs hp (F' := (E.kj w (((cN 0 st.mem).map (fun (k : Nat × Nat) => V.ms k.1 k.2 0 0)).flatMap cn)).F) (fun _ _ h => h) (fun ad y h => Env.C7 hs.F h) (fun _ _ h => .inl h) (Go.RowKit.Below.refl _ w)
      exact ⟨h1, h2⟩
    rw [Dq] at M6
    subst M6
    obtain ⟨du, jd⟩ := Sr
    have lC : ∀ {v : V} {x : Value}, aW E v x → aW (E.kj w (cN 0 st.mem)) (gF st.mem v) x := fun {v x} hr => by
      unfold gF
      split
      · rename_i v' hv
        refine (jB hs hr hv fun k hk => ?_).mono (Env.ml _)
        cases v <;> simp only [ej,List.mem_singleton,List.not_mem_nil] at hk
        subst hk
        simp only [bu] at hv
        split at hv
        · rename_i hm
          split at hv
          · rename_i hc; have := kH (n := 0) (.inl hm); rw [Nat.zero_add, hc.1] at this; exact this
          · cases hv
        · rename_i hm
          split at hv
          · rename_i hc; have := kH (n := 0) (.inr hm); rw [Nat.zero_add, hc.1] at this; exact this
          · cases hv
        · cases hv
      · exact hr.mono (Env.pR E w _)
    have J6 : ∀ {cs : List V} {xs : List Value}, aP E cs xs → aP (E.kj w (cN 0 st.mem)) (cs.map (gF st.mem)) xs := fun {cs xs} hr => by
      refine ⟨by simpa using hr.1, fun i c x hc hx => ?_⟩
      simp only [List.getElem?_map,Option.map_eq_some_iff] at hc
      obtain ⟨c0, Bv, rfl⟩ := hc
      exact lC (hr.2 i c0 x Bv hx)
    have h1 : ∀ {v : V} {x : Value}, aW E v x → aW (E.kj w (cN 0 st.mem)) (match v with | .agg cs => .agg (cs.map (gF st.mem)) | v => gF st.mem v) x := fun {v x} hr => by
      split
      · rename_i cs
        cases hr with
        | agg _ cs xs hl hh =>
          have := J6 (cs := cs) (xs := xs.toList) ⟨by simpa using hl, fun i c x hc hx => hh i c x hc (by simpa using hx)⟩
          exact .agg _ _ _ (by simpa using this.1) fun i c x hc hx => this.2 i c x hc (by simpa using hx)
      · exact lC hr
    have hV : ∀ {v : V} {x : Value}, aW E v x → aW (E.kj w (cN 0 st.mem)) (OJ st.mem v) x := fun {v x} hr => by
      unfold OJ
      split
      · exact h1 (v := .agg _) hr
      · rename_i vs
        cases hr with
        | bN _ vs xs hl hh =>
          refine .bN _ _ _ (by simpa using hl) fun i c x hc hx => ?_
          simp only [List.getElem?_map,Option.map_eq_some_iff] at hc
          obtain ⟨c0, Bv, rfl⟩ := hc
          exact h1 (hh i c0 x Bv hx)
      · exact lC hr
    refine ⟨_, ⟨jd.F, jd.lt, fun k B hk => ?_, fun k hk => jd.top k (by simpa using hk), fun k B hk v hv => ?_, jd.apart, ⟨by simpa using hs.fr.1, fun i v x hv hx => ?_⟩⟩, du⟩
    · simp only [List.getElem?_map,Option.map_eq_some_iff] at hk
      obtain ⟨B0, vd, rfl⟩ := hk
      have h0 := jd.mem k B0 vd
      by_cases Ss : ∃ cs, B0 = .box cs
      · obtain ⟨cs, rfl⟩ := Ss
        have hold : st.mem[k]? = some (.box cs) := by
          rw [kz] at vd
          cases JI : st.mem[k]? with
          | none => rw [JI] at vd; simp [jn] at vd
          | some B1 =>
            rw [JI] at vd
            cases B1 <;> simp only [jn] at vd <;> first | exact vd | (split at vd <;> cases vd)
        obtain ⟨g, T, xs, q1, q2, q3, q4⟩ := h0
        obtain ⟨g', T', om, r1, r2, r3, r4⟩ := hs.mem k _ hold
        have : g = g' := by
          have := du.le.aI _ _ _ r1
          have e : (E.kj w (cN 0 st.mem)).aI k 0 = some (g, 0, 0) := q1
          have e2 : (E.kj w (cN 0 st.mem)).aI k 0 = some (g', 0, 0) := this
          rw [e] at e2; cases e2; rfl
        subst this
        rw [r2] at q2; cases q2
        exact ⟨g, T, xs, q1, r2, J6 r3, q4⟩
      · rw [ES fun cs e => Ss ⟨cs, e⟩]; exact h0
    · simp only [List.getElem?_map,Option.map_eq_some_iff] at hk
      obtain ⟨B0, vd, rfl⟩ := hk
      rw [Bu] at hv
      exact jd.aC k B0 vd v hv
    · simp only [List.getElem?_map,Option.map_eq_some_iff] at hv
      obtain ⟨v0, Ga, rfl⟩ := hv
      exact hV (hs.fr.2 i v0 x Ga hx)
  · cases h
theorem Bw {P : Program} {ρ : Option Nat} {n0 : Nat} {c : Code} {st st' : St} {Q : Exit → St → Prop} (hf : Dp st = some st') (h : eL P ρ n0 c st' Q) : eL P ρ n0 c st Q := fun E0 w0 h0 E w a he hs uK => by
  obtain ⟨E', h1, h2⟩ := y3 hs hf
  exact h E0 w0 h0 E' w a (he.trans h2) h1 (uK.Gb h2)

/-! ### regions that draw -/
abbrev lS := FuncId → List V → Option V
abbrev qY := FuncId → List V → Option (Nat × List V)
def wX (P : Program) (live : qY) : Prop := ∀ f vs e rs, live f vs = some (e, rs) → sO P f vs e rs
def Bx (live : qY) (o : Oper) (key : Nat) (st : St) : Option St :=
  match o.op with
  | .call { callee := .value f, args := xs, .. } => match aX (st.eval f) (xs.toList.map st.eval) with
    | some (g, vs) => match cy [] vs with
      | some vs' => match live g vs' with
        | some (e, rs) => some (sP st key o.dst e rs)
        | none => none
      | none => none
    | none => none
  | _ => none
theorem wY {P : Program} {live : qY} (hl : wX P live) {o : Oper} {key : Nat} {st s : St} {Q : St → Prop} (h : Bx live o key st = some s) (hQ : Q s) : nO P o key st Q := by
  unfold Bx at h
  unfold nO
  split at h
  · rename_i heq; rw [heq]; dsimp only
    split at h
    · rename_i g vs hg
      rw [hg]; dsimp only
      split at h
      · rename_i vs' hv
        split at h
        · rename_i e rs hr
          cases h
          exact ⟨vs', e, rs, hv, hl _ _ _ _ hr, hQ⟩
        · cases h
      · cases h
    · cases h
  · cases h
def pZ (P : Program) (pure : lS) : Prop := ∀ f vs r, pure f vs = some r → aO P f vs r
def Kz (P : Program) (tt : Table) (nat : lR) (pure : lS) (o : Oper) (uN st : St) : Option St :=
  match o.op with
  | .call { callee := .value f, args := xs, .. } => match aX (uN.eval f) (xs.toList.map uN.eval) with
    | some (g, vs) => match cy [] vs with
      | some vs' => match pure g vs' with
        | some r => some (st.put o.dst r)
        | none => match nat g vs' with
          | some r => some (st.put o.dst r)
          | none => none
      | none => none
    | none => none
  | _ => match rI P tt o uN with
    | some v => some (st.put o.dst v)
    | none => none
theorem s5 {P : Program} {tt : Table} {nat : lR} (vp : jD P nat) {pure : lS} (hp : pZ P pure) {o : Oper} {uN st s : St} {Q : St → Prop} (h : Kz P tt nat pure o uN st = some s) (hQ : Q s) : uM P tt o uN st Q := by
  unfold Kz at h
  unfold uM
  split at h
  · rename_i heq; rw [heq]; dsimp only
    split at h
    · rename_i g vs hg
      rw [hg]; dsimp only
      split at h
      · rename_i vs' hv
        split at h
        · rename_i r hr
          cases h
          exact ⟨vs', r, hv, .inl (hp _ _ _ hr), hQ⟩
        · split at h
          · rename_i r hr
            cases h
            exact ⟨vs', r, hv, .inr (vp _ _ _ hr), hQ⟩
          · cases h
      · cases h
    · cases h
  · split at h
    · rename_i h1
      cases h
      split
      · exfalso; solve_by_elim
      · rw [h1]; exact hQ
    · cases h
def By (P : Program) (tt : Table) (nat : lR) (pure : lS) (live : qY) (all : Array Oper) (base : Nat) (o : Oper) (p : Pl) (st : St) : Option St :=
  match cj all st.fr o with
  | some true => match p.cls with
    | .n => Kz P tt nat pure o { st with mem := [] } st
    | .r => Kz P tt nat pure o { st with mem := dk (p.mask.map (base + ·) ++ p.abs) st.mem } st
    | .a => if isHole st.mem (base + p.key) = true then (match ee tt o (base + p.key) st with
      | some (B, v) => some (St.put { st with mem := st.mem.set (base + p.key) B } o.dst v)
      | none => Bx live o (base + p.key) st) else none
    | .w => if isHole st.mem (base + p.key) = true then (match oO P tt (base + p.key) o st with
      | some (m, v) => some (St.put { st with mem := m } o.dst v)
      | none => none) else none
    | .s => match rJ tt (base + p.key) o st with
      | some m => some (St.put { st with mem := m } o.dst (.sc undef))
      | none => none
    | .b => match k8 tt o st with
      | some v => some (st.put o.dst v)
      | none => none
    | .z => none
    | .e => none
  | some false => some (st.put o.dst (.sc undef))
  | none => none
theorem wZ {P : Program} {tt : Table} {nat : lR} (vp : jD P nat) {pure : lS} {live : qY} (hp : pZ P pure) (hl : wX P live) {all : Array Oper} {base : Nat} {o : Oper} {p : Pl} {st s : St} {Q : St → Prop} (h : By P tt nat pure live all base o p st = some s) (hQ : Q s) : dz P tt all base o p st Q := by
  unfold By at h
  unfold dz
  split at h
  · rename_i hw; rw [hw]; dsimp only
    split at h
    · rename_i ko; rw [ko]; exact s5 vp hp h hQ
    · rename_i ko; rw [ko]; exact s5 vp hp h hQ
    · rename_i ko; rw [ko]; dsimp only
      split at h
      · rename_i hh
        refine ⟨hh, ?_⟩
        split at h
        · rename_i h1; cases h; rw [h1]; exact hQ
        · rename_i h1; rw [h1]; exact wY hl h hQ
      · cases h
    · rename_i ko; rw [ko]; dsimp only
      split at h
      · rename_i hh
        refine ⟨hh, ?_⟩
        split at h
        · rename_i h1; cases h; rw [h1]; exact hQ
        · cases h
      · cases h
    · rename_i ko; rw [ko]; dsimp only
      split at h
      · rename_i h1; cases h; rw [h1]; exact hQ
      · cases h
    · rename_i ko; rw [ko]; dsimp only
      split at h
      · rename_i h1; cases h; rw [h1]; exact hQ
      · cases h
    · cases h
    · cases h
  · rename_i hw; rw [hw]; cases h; exact hQ
  · cases h
def y4 (P : Program) (tt : Table) (nat : lR) (pure : lS) (live : qY) (all : Array Oper) (base : Nat) : List Oper → List Pl → St → Option St
  | [], _, st => some st
  | o :: r, p :: ps, st => match By P tt nat pure live all base o p st with
    | some s => Kw (vq o) o.dst (Dn (base + p.key) o st) s fun s' => y4 P tt nat pure live all base r ps s'
    | none => none
  | _ :: _, [], _ => none
theorem qZ {P : Program} {tt : Table} {nat : lR} (vp : jD P nat) {pure : lS} {live : qY} (hp : pZ P pure) (hl : wX P live) {all : Array Oper} {base : Nat} {Q : St → Prop} : ∀ {l : List Oper} {ps : List Pl} {st s : St}, y4 P tt nat pure live all base l ps st = some s → Q s → runM P tt all base l ps st Q
  | [], _, st, s, h, hQ => by cases h; exact hQ
  | o :: r, p :: ps, st, s, h, hQ => by
    simp only [y4] at h
    simp only [runM]
    split at h
    · rename_i s1 h1
      rw [nQ] at h
      exact wZ vp hp hl h1 (qZ vp hp hl h hQ)
    · cases h
  | _ :: _, [], _, _, h, _ => by simp [y4] at h

/-! ### code -/
mutual
def OK : V → Nat
  | .ms b _ _ _ | .ptr b _ | .im b | .mp b | .dd b _ _ _ => b + 1
  | .agg cs | .bN cs => ET cs
  | .fQ _ a b => max (ET a) (ET b)
  | _ => 0
def ET : List V → Nat
  | [] => 0
  | c :: r => max (OK c) (ET r)
end
def V2 : aw → Nat
  | .box cs => ET cs
  | .loop _ _ fr _ _ _ => ET fr
  | .map aY _ => aY.foldr (fun k n => max (OK k.2.2) n) 0
  | .dF m _ _ _ => m + 1
  | _ => 0
def Su (l : List aw) : Nat := l.foldr (fun B n => max (V2 B) n) 0
def OL : Nat → Nat → List aw → Nat
  | 0, n, _ => n
  | k + 1, n, mem => let m := max n (Su (mem.take n)); if m = n then n else OL k m mem
def Sv (lo : Nat) (r : V) (mem : List aw) : Option (V × List aw) :=
  let n := OL 8 (max lo (OK r)) mem
  if lo ≤ n ∧ ai n r = true ∧ (mem.take n).all (az n) = true then some (r, mem.take n) else none

def rX : Exit → Bool
  | .ret => true
  | .normal => true
  | _ => false
def Dr : Value → Value → Bool
  | .agg a, .agg b => jr a.toList b.toList
  | .tuple a, .tuple b => jr a.toList b.toList
  | .func (.func f) a b, .func (.func g) c d => f == g && a.isEmpty && b.isEmpty && c.isEmpty && d.isEmpty
  | a, b => wO a b
theorem y5 {a b : Value} (h : Dr a b = true) : a = b := by
  unfold Dr at h
  split at h
  · rename_i x y; rw [← Array.toArray_toList (xs := x), kC h, Array.toArray_toList]
  · rename_i x y; rw [← Array.toArray_toList (xs := x), kC h, Array.toArray_toList]
  · simp only [Bool.and_eq_true,beq_iff_eq,Array.isEmpty_iff] at h
    obtain ⟨⟨⟨⟨rfl, rfl⟩, rfl⟩, rfl⟩, rfl⟩ := h
    rfl
  · exact vf h
mutual
def fj : V → V → Bool
  | .undef, .undef => true
  | .gn, .gn => true
  | .sc a, .sc b => Dr a b
  | .agg a, .agg b => fh a b
  | .bN a, .bN b => fh a b
  | .slice a, .slice b => fh a b
  | .full a, .full b => fh a b
  | .cg a, .cg b => fh a b
  | .ms a b c d, .ms a' b' c' d' => a == a' && b == b' && c == c' && d == d'
  | .ptr a b, .ptr a' b' => a == a' && b == b'
  | .dd a b c d, .dd a' b' c' d' => a == a' && b == b' && c == c' && d == d'
  | .mp a, .mp b => a == b
  | .im a, .im b => a == b
  | .fQ (.func f) a b, .fQ (.func g) c d => f == g && fh a c && fh b d
  | _, _ => false
def fh : List V → List V → Bool
  | [], [] => true
  | a :: r, b :: s => fj a b && fh r s
  | _, _ => false
end
mutual
theorem oY : ∀ {a b : V}, fj a b = true → a = b
  | .undef, b, h => by cases b <;> simp [fj] at h <;> rfl
  | .gn, b, h => by cases b <;> simp [fj] at h <;> rfl
  | .sc a, b, h => by
    cases b <;> simp only [fj,Bool.false_eq_true] at h
    rw [y5 h]
  | .agg a, b, h => by
    cases b <;> simp only [fj,Bool.false_eq_true] at h
    rw [dA h]
  | .bN a, b, h => by
    cases b <;> simp only [fj,Bool.false_eq_true] at h
    rw [dA h]
  | .slice a, b, h => by
    cases b <;> simp only [fj,Bool.false_eq_true] at h
    rw [dA h]
  | .full a, b, h => by
    cases b <;> simp only [fj,Bool.false_eq_true] at h
    rw [dA h]
  | .cg a, b, h => by
    cases b <;> simp only [fj,Bool.false_eq_true] at h
    rw [dA h]
  | .ms _ _ _ _, b, h => by
    cases b <;> simp only [fj,Bool.false_eq_true,Bool.and_eq_true,beq_iff_eq] at h
    obtain ⟨⟨⟨rfl, rfl⟩, rfl⟩, rfl⟩ := h; rfl
  | .ptr _ _, b, h => by
    cases b <;> simp only [fj,Bool.false_eq_true,Bool.and_eq_true,beq_iff_eq] at h
    obtain ⟨rfl, rfl⟩ := h; rfl
  | .dd _ _ _ _, b, h => by
    cases b <;> simp only [fj,Bool.false_eq_true,Bool.and_eq_true,beq_iff_eq] at h
    obtain ⟨⟨⟨rfl, rfl⟩, rfl⟩, rfl⟩ := h; rfl
  | .mp _, b, h => by
    cases b <;> simp only [fj,Bool.false_eq_true,beq_iff_eq] at h
    rw [h]
  | .im _, b, h => by
    cases b <;> simp only [fj,Bool.false_eq_true,beq_iff_eq] at h
    rw [h]
  | .fQ f a c, b, h => by
    cases b with
    | fQ g a' c' =>
      cases f <;> cases g <;> simp only [fj,Bool.false_eq_true,Bool.and_eq_true,beq_iff_eq] at h
      obtain ⟨⟨rfl, h1⟩, h2⟩ := h
      rw [dA h1, dA h2]
    | _ => cases f <;> simp [fj] at h
theorem dA : ∀ {a b : List V}, fh a b = true → a = b
  | [], b, h => by cases b <;> simp [fh] at h <;> rfl
  | c :: r, b, h => by
    cases b with
    | nil => simp [fh] at h
    | cons d s =>
      simp only [fh,Bool.and_eq_true] at h
      rw [oY h.1, dA h.2]
end
def mB : List (Value × Nat × V) → List (Value × Nat × V) → Bool
  | [], [] => true
  | a :: r, b :: s => Dr a.1 b.1 && a.2.1 == b.2.1 && fj a.2.2 b.2.2 && mB r s
  | _, _ => false
theorem s6 : ∀ {a b : List (Value × Nat × V)}, mB a b = true → a = b
  | [], [], _ => rfl
  | (k, n, v) :: r, (k', n', v') :: s, h => by
    simp only [mB,Bool.and_eq_true,beq_iff_eq] at h
    obtain ⟨⟨⟨h1, h2⟩, h3⟩, h4⟩ := h
    rw [y5 h1, h2, oY h3, s6 h4]
  | [], _ :: _, h => by simp [mB] at h
  | _ :: _, [], h => by simp [mB] at h
def Hb : aw → aw → Bool
  | .hole, .hole => true
  | .dead, .dead => true
  | .iA, .iA => true
  | .box a, .box b => fh a b
  | .rows v e a, .rows v' e' b => v == v' && e == e' && fh a b
  | .mX v e a, .mX v' e' b => v == v' && e == e' && fh a b
  | .map a c, .map b d => c == d && mB a b
  | .dF a b c d, .dF a' b' c' d' => a == a' && b == b' && c == c' && d == d'
  | _, _ => false
theorem Hc {a b : aw} (h : Hb a b = true) : a = b := by
  unfold Hb at h
  split at h
  · rfl
  · rfl
  · rfl
  · rw [dA h]
  · simp only [Bool.and_eq_true,beq_iff_eq] at h; obtain ⟨⟨rfl, rfl⟩, h⟩ := h; rw [dA h]
  · simp only [Bool.and_eq_true,beq_iff_eq] at h; obtain ⟨⟨rfl, rfl⟩, h⟩ := h; rw [dA h]
  · simp only [Bool.and_eq_true,beq_iff_eq] at h; obtain ⟨rfl, h⟩ := h; rw [s6 h]
  · simp only [Bool.and_eq_true,beq_iff_eq] at h; obtain ⟨⟨⟨rfl, rfl⟩, rfl⟩, rfl⟩ := h; rfl
  · cases h
def qa : List aw → List aw → Bool
  | [], [] => true
  | a :: r, b :: s => Hb a b && qa r s
  | _, _ => false
theorem vr : ∀ {a b : List aw}, qa a b = true → a = b
  | [], [], _ => rfl
  | x :: r, y :: s, h => by simp only [qa,Bool.and_eq_true] at h; rw [Hc h.1, vr h.2]
  | [], _ :: _, h => by simp [qa] at h
  | _ :: _, [], h => by simp [qa] at h
def dedup : List (V × List aw) → List (V × List aw)
  | [] => []
  | p :: r => if (dedup r).any (fun q => fj p.1 q.1 && qa p.2 q.2) = true then dedup r else p :: dedup r
theorem qb : ∀ {l : List (V × List aw)} {p : V × List aw}, p ∈ l → p ∈ dedup l
  | q :: r, p, h => by
    simp only [dedup]
    split
    · rename_i Od
      rcases List.mem_cons.1 h with rfl | h
      · obtain ⟨q', h1, h2⟩ := List.any_eq_true.1 Od
        simp only [Bool.and_eq_true] at h2
        have : p = q' := Prod.ext (oY h2.1) (vr h2.2)
        rw [this]; exact h1
      · exact qb h
    · rcases List.mem_cons.1 h with rfl | h
      · exact List.mem_cons_self ..
      · exact List.mem_cons_of_mem _ (qb h)
def Sw (P : Program) (tt : Table) (code : jR) : vn := fun f vs mem =>
  match P.funcs[f]? with
  | some fn => match fn.body with
    | some body => (jS (Rb vs fun vs => G8 mem fun mem => Kw true none [] (di fn vs mem) fun s => code false body s) fun o => if rX o.1 = true then (match gh tt fn.results o.2 with
      | some r => fV r fun r => match Sv mem.length r o.2.mem with | some p => G8 p.2 fun m => some [(p.1, m)] | none => none
      | none => none) else none).map dedup
    | none => none
  | none => none
def y6 (P : Program) (tt : Table) (code : jR) : lS := fun f vs =>
  match P.funcs[f]? with
  | some fn => match fn.body with
    | some body => match jS (Rb vs fun vs => Kw true none [] (di fn vs []) fun s => code false body s) fun o => if rX o.1 = true then (match jO tt fn.results o.2 with | some r => fV r fun r => some [r] | none => none) else none with
      | some (r :: rs) => if rs.all (fj r) = true then some r else none
      | _ => none
    | none => none
  | none => none
def Bz : List (V × List aw) → Option (Nat × Nat × List V)
  | [(.ms 0 v 0 l, [.rows v' e rs])] => if v' = v ∧ l = rs.length then some (v, e, rs) else none
  | [(.ms 0 v 0 0, [.rows v' e []]), (.sc (.slice none 0 0), [])] => if v' = v then some (v, e, []) else none
  | [(.sc (.slice none 0 0), []), (.ms 0 v 0 0, [.rows v' e []])] => if v' = v then some (v, e, []) else none
  | _ => none
theorem BA {outs : List (V × List aw)} {v e : Nat} {rs : List V} (h : Bz outs = some (v, e, rs)) : ∀ r m, (r, m) ∈ outs → (r = .ms 0 v 0 rs.length ∧ m = [.rows v e rs]) ∨ (r = .sc (.slice none 0 0) ∧ m = [] ∧ rs = []) := by
  unfold Bz at h
  split at h
  · split at h
    · rename_i hc; cases h; obtain ⟨rfl, rfl⟩ := hc
      intro r m hm; simp at hm; exact .inl hm
    · cases h
  · split at h
    · rename_i hc; cases h; subst hc
      intro r m hm; simp at hm
      rcases hm with ⟨rfl, rfl⟩ | ⟨rfl, rfl⟩
      · exact .inl ⟨rfl, rfl⟩
      · exact .inr ⟨rfl, rfl, rfl⟩
    · cases h
  · split at h
    · rename_i hc; cases h; subst hc
      intro r m hm; simp at hm
      rcases hm with ⟨rfl, rfl⟩ | ⟨rfl, rfl⟩
      · exact .inr ⟨rfl, rfl, rfl⟩
      · exact .inl ⟨rfl, rfl⟩
    · cases h
  · cases h
theorem fi.live {P : Program} {f : FuncId} {vs : List V} {R : V → List aw → Prop} {v e : Nat} {rs : List V} (h : fi P f vs [] R) (hR : ∀ r m, R r m → (r = .ms 0 v 0 rs.length ∧ m = [.rows v e rs]) ∨ (r = .sc (.slice none 0 0) ∧ m = [] ∧ rs = [])) : sO P f vs e rs := by
  refine ⟨v, h.1, fun E w xs hs hx => (h.2 E w xs hs hx).mono ?_⟩
  rintro en w' ⟨E', x, r, m, rfl, hr, du, lr, oD⟩
  rcases hR r m hr with ⟨rfl, rfl⟩ | ⟨rfl, rfl, rfl⟩
  · exact ⟨E', x, rfl, du, lr, oD⟩
  · obtain rfl := bR oD
    exact ⟨E', _, rfl, du, by simpa using lr.lQ v e, .cZ _ _ _ _⟩
def Hd (P : Program) (tt : Table) (code : jR) : qY := fun f vs =>
  match Sw P tt code f vs [] with
  | some outs => match Bz outs with | some (_, e, rs) => some (e, rs) | none => none
  | none => none
def He (lo : Nat) (b : Bool) (m : List aw) : Option (List (Bool × List aw)) :=
  let n := OL 8 lo m
  if lo ≤ n ∧ (m.take n).all (az n) = true then G8 (m.take n) fun m => some [(b, m)] else none
theorem BB {lo : Nat} {b : Bool} {m : List aw} {x : List (Bool × List aw)} (h : He lo b m = some x) : ∃ n, lo ≤ n ∧ (m.take n).all (az n) = true ∧ (b, m.take n) ∈ x := by
  unfold He at h
  dsimp only at h
  split at h
  · rename_i hc; rw [kF] at h; cases h; exact ⟨_, hc.1, hc.2, by simp⟩
  · cases h
def OM (code : jR) : EO := fun k vs mem =>
  match mem[k]? with
  | some (.loop .ready none fr params assign body) =>
    if vs.length = params.size then
      jS (Rb vs fun vs => Kw true none [] { fr := vg params.toList vs fr, mem := mem } fun s => code true assign s) fun o => match o.1, o.2.mem[k]? with
        | .normal, some (.loop .ready none MU p1 Kj Kk) =>
          jS (Kw true none [] { o.2 with mem := o.2.mem.set k (.loop .busy none MU p1 Kj Kk) } fun s => code true body s) fun u => match Bb u.1, u.2.mem[k]? with
            | some jump, some (.loop _ _ Kl p2 GL GM) =>
              He mem.length jump.isNone (u.2.mem.set k (.loop (if jump.isNone then .ready else .done) jump Kl p2 GL GM))
            | _, _ => none
        | _, _ => none
    else none
  | _ => none
def KA : LoopState → Bool
  | .busy => false
  | _ => true

def qc {α : Type} (f : α → Option (List (Exit × St))) : List α → Option (List (Exit × St))
  | [] => none
  | a :: r => match f a with | some x => some x | none => qc f r
theorem ra {α : Type} {f : α → Option (List (Exit × St))} : ∀ {l : List α} {x : List (Exit × St)}, qc f l = some x → ∃ a ∈ l, f a = some x
  | [], x, h => by cases h
  | a :: r, x, h => by
    simp only [qc] at h
    split at h
    · rename_i hx; cases h; exact ⟨a, List.mem_cons_self .., hx⟩
    · obtain ⟨b, h1, h2⟩ := ra h; exact ⟨b, List.mem_cons_of_mem _ h1, h2⟩
def ON (jE : FuncId → List V → Option V) (pure : lS) : lS := fun f vs => match jE f vs with | some r => some r | none => pure f vs
theorem KB {P : Program} {jE : FuncId → List V → Option V} {pure : lS} (h : s4 P jE) (hp : pZ P pure) : pZ P (ON jE pure) := fun f vs r hr => by
  unfold ON at hr
  split at hr
  · rename_i r' h1; cases hr; exact h _ _ _ h1
  · exact hp _ _ _ hr
def KC (P : Program) (tt : Table) (nat : lR) (jE : FuncId → List V → Option V) (code : jR) (ops : Array Oper) (st : St) (p : List Pl × Nat) : Option (List (Exit × St)) :=
  if sW ops p.1 = true then (match y4 P tt nat (ON jE (y6 P tt code)) (Hd P tt code) ops st.mem.length ops.toList p.1 { st with mem := st.mem ++ List.replicate p.2 .hole } with
    | some s => some [(.normal, s)]
    | none => none) else none
def jF (P : Program) (tt : Table) (pl : yW) (nat : lR) (jE : FuncId → List V → Option V) (code : jR) : jR := fun ρ c st =>
  match c with
  | .skip => some [(.normal, st)]
  | .ret => some [(.ret, st)]
  | .exit id => some [(.exit id, st)]
  | .seq a b => jS (code ρ a st) fun o => match o.1 with
    | .normal => code ρ b o.2
    | e => some [(e, o.2)]
  | .cond x a b => match st.eval x with
    | .sc (.bool t) => code ρ (if t = true then a else b) st
    | _ => none
  | .block id c => jS (code ρ c st) fun o => match o.1 with
    | .exit j => if j = id then some [(.normal, o.2)] else some [(.exit j, o.2)]
    | e => some [(e, o.2)]
  | .loop c => jS (code ρ c st) fun o => match o.1 with
    | .normal => code ρ (.loop c) o.2
    | e => some [(e, o.2)]
  | .region _ ops false => jS (Ha P tt nat jE (Sw P tt code) (OM code) ops ops.toList st) fun s => some [(.normal, s)]
  | .region id ops true => match qc (KC P tt nat jE code ops st) (pl id ops) with
    | some x => some x
    | none => match Dp st with
      | some st' => qc (KC P tt nat jE code ops st') (pl id ops)
      | none => none
  | .rangeFunc f params assign body => if ρ = true then none else
    match aX (st.eval f) [.im st.mem.length] with
    | some (g, vs) => jS (Sw P tt code g vs (st.mem ++ [.loop .ready none st.fr params assign body])) fun o => match o.2[st.mem.length]? with
      | some (.loop s jx _ _ _ _) => if KA s = true then (match jx with
        | none => Kw true none [] { st with mem := o.2.set st.mem.length .dead } fun s => some [(.normal, s)]
        | some c => Kw true none [] { st with mem := o.2.set st.mem.length .dead } fun s => code false c s) else none
      | _ => none
    | none => none
  | _ => none

def ev (P : Program) (tt : Table) (pl : yW) (nat : lR) (jE : FuncId → List V → Option V) (n : Nat) : jR := Nat.rec (fun _ _ _ => none) (fun _ r => jF P tt pl nat jE r) n

def s7 (P : Program) (code : jR) : Prop := ∀ b c st outs, code b c st = some outs → ∀ (ρ : Option Nat) (n0 : Nat) (Q : Exit → St → Prop), (b = true ∨ ρ = none) → (∀ o ∈ outs, Q o.1 o.2) → eL P ρ n0 c st Q

section
variable {P : Program} {tt : Table} {pl : yW} {nat : lR} {jE : FuncId → List V → Option V} (ht : TT P tt) (hm : P.follows .mixedOrders = true)
  (dj : ∀ (f : FuncId) (fn : Func) (body : Code), P.funcs[f]? = some fn → fn.body = some body → ∀ (xs : Array Value) (w : World), (callFunc f xs).run P w = .ok (.enter f xs) w)
include ht dj
theorem BC {code : jR} (M7 : s7 P code) : Bq P (Sw P tt code) := by
  intro f vs mem outs h
  unfold Sw at h
  split at h
  · rename_i fn hf
    split at h
    · rename_i body hb
      rw [Option.map_eq_some_iff] at h
      obtain ⟨Yg, h, M3⟩ := h
      obtain ⟨l, h1, h2⟩ := dq h
      rw [wW, kF, nQ] at h1
      refine GJ ht hf hb (dj f fn body hf hb) (M7 _ _ _ _ h1 none _ _ (.inr rfl) fun o ho => ?_)
      obtain ⟨b, h3, h4⟩ := h2 o ho
      split at h3
      · rename_i he
        split at h3
        · rename_i r hr
          rw [yZ] at h3
          split at h3
          · rename_i p hp
            rw [kF] at h3
            cases h3
            unfold Sv at hp
            dsimp only at hp
            split at hp
            · rename_i oB
              cases hp
              refine ⟨?_, r, _, oB.1, hr, oB.2.1, oB.2.2, by rw [← M3]; exact qb (h4 _ (by simp))⟩
              cases QX : o.1 <;> simp [rX, QX] at he <;> simp
            · cases hp
          · cases h3
        · cases h3
      · cases h3
    · cases h
  · cases h
theorem y7 {code : jR} (M7 : s7 P code) : pZ P (y6 P tt code) := by
  intro f vs r h
  unfold y6 at h
  split at h
  · rename_i fn hf
    split at h
    · rename_i body hb
      split at h
      · rename_i r1 rs Gt
        split at h
        · rename_i bh
          cases h
          obtain ⟨l, h1, h2⟩ := dq Gt
          rw [wW, nQ] at h1
          refine yE ht hf hb (dj f fn body hf hb) (M7 _ _ _ _ h1 none _ _ (.inr rfl) fun o ho => ?_)
          obtain ⟨b, h3, h4⟩ := h2 o ho
          split at h3
          · rename_i he
            split at h3
            · rename_i r2 hr
              rw [yZ] at h3
              cases h3
              have Ew : r2 = r := by
                rcases List.mem_cons.1 (h4 r2 (by simp)) with h | h
                · exact h
                · exact (oY (List.all_eq_true.1 bh _ h)).symm
              subst Ew
              refine ⟨?_, hr⟩
              cases QX : o.1 <;> simp [rX, QX] at he <;> simp
            · cases h3
          · cases h3
        · cases h
      · cases h
    · cases h
  · cases h
theorem Hf {code : jR} (M7 : s7 P code) : wX P (Hd P tt code) := by
  intro f vs e rs h
  unfold Hd at h
  split at h
  · rename_i outs ho
    split at h
    · rename_i v e' rs' hl
      cases h
      exact (BC ht dj M7 f vs [] outs ho).live fun r m hr => BA hl r m hr
    · cases h
  · cases h
omit ht dj in
theorem KD {code : jR} (M7 : s7 P code) : G7 P (OM code) := by
  intro k vs mem outs h
  unfold OM at h
  split at h
  · rename_i fr params assign body hk
    split at h
    · rename_i hlen
      obtain ⟨l1, h1, h2⟩ := dq h
      rw [wW, nQ] at h1
      refine wR hk hlen fun l => M7 _ _ _ _ h1 (some l) _ _ (.inl rfl) fun o ho => ?_
      obtain ⟨b, h3, h4⟩ := h2 o ho
      split at h3
      · rename_i MU p1 Kj Kk he fH
        refine ⟨he, MU, p1, Kj, Kk, fH, ?_⟩
        obtain ⟨l2, h5, h6⟩ := dq h3
        rw [nQ] at h5
        refine M7 _ _ _ _ h5 (some l) _ _ (.inl rfl) fun u hu => ?_
        obtain ⟨b2, h7, h8⟩ := h6 u hu
        split at h7
        · rename_i jump s2 UI Kl p2 GL GM hj kD
          obtain ⟨n, hn, JF, gJ⟩ := BB h7
          exact ⟨n, jump, s2, UI, Kl, p2, GL, GM, hn, hj, kD, JF, h4 _ (h8 _ gJ)⟩
        · cases h7
      · cases h3
    · cases h
  · cases h

include hm in
theorem Sx (Dh : s4 P jE) (vp : jD P nat) : ∀ (n : Nat), s7 P (ev P tt pl nat jE n) ∧ ∀ b c st outs, ev P tt pl nat jE n b (.loop c) st = some outs → ∀ (ρ : Option Nat) (n0 : Nat) (Q : Exit → St → Prop), (b = true ∨ ρ = none) → (∀ o ∈ outs, Q o.1 o.2) → jq P ρ n0 c n st Q := by
  intro n
  induction n with
  | zero => exact ⟨fun b c st outs h => by simp [ev] at h, fun b c st outs h => by simp [ev] at h⟩
  | succ n ih =>
    obtain ⟨Hg, ZF⟩ := ih
    have la : ∀ b c st, ev P tt pl nat jE (n + 1) b c st = jF P tt pl nat jE (ev P tt pl nat jE n) b c st := fun _ _ _ => rfl
    have loop : ∀ b c st outs, ev P tt pl nat jE (n + 1) b (.loop c) st = some outs → ∀ (ρ : Option Nat) (n0 : Nat) (Q : Exit → St → Prop), (b = true ∨ ρ = none) → (∀ o ∈ outs, Q o.1 o.2) → jq P ρ n0 c (n + 1) st Q := by
      intro b c st outs h ρ n0 Q hb hQ
      rw [la] at h
      simp only [jF] at h
      obtain ⟨l, h1, h2⟩ := dq h
      refine Hg _ _ _ _ h1 ρ n0 _ hb fun o ho => ?_
      obtain ⟨e, s⟩ := o
      obtain ⟨b', h3, h4⟩ := h2 _ ho
      cases e with
      | normal => exact ZF _ _ _ _ h3 ρ n0 Q hb fun o' MF => hQ _ (h4 _ MF)
      | _ => cases h3; exact hQ (_, _) (h4 _ (by simp))
    refine ⟨fun b c st outs h ρ n0 Q hb hQ => ?_, loop⟩
    cases c with
    | skip => rw [la] at h; cases h; exact iJ (hQ (_, _) (by simp))
    | ret => rw [la] at h; cases h; exact jo (hQ (_, _) (by simp))
    | exit id => rw [la] at h; cases h; exact oK (hQ (_, _) (by simp))
    | seq x y =>
      rw [la] at h
      simp only [jF] at h
      obtain ⟨l, h1, h2⟩ := dq h
      refine fI (Hg _ _ _ _ h1 ρ n0 _ hb fun o ho => ?_)
      obtain ⟨e, s⟩ := o
      obtain ⟨b', h3, h4⟩ := h2 _ ho
      cases e with
      | normal => exact Hg _ _ _ _ h3 ρ n0 Q hb fun o' MF => hQ _ (h4 _ MF)
      | _ => cases h3; exact hQ (_, _) (h4 _ (by simp))
    | cond x y z =>
      rw [la] at h
      simp only [jF] at h
      split at h
      · rename_i t hx
        exact fJ hx (Hg _ _ _ _ h ρ n0 Q hb hQ)
      · cases h
    | block id c =>
      rw [la] at h
      simp only [jF] at h
      obtain ⟨l, h1, h2⟩ := dq h
      refine gf (Hg _ _ _ _ h1 ρ n0 _ hb fun o ho => ?_)
      obtain ⟨e, s⟩ := o
      obtain ⟨b', h3, h4⟩ := h2 _ ho
      cases e with
      | exit j =>
        dsimp only at h3
        simp only [eC]
        split at h3
        · rename_i hj; cases h3; rw [if_pos hj]; exact hQ (_, _) (h4 _ (by simp))
        · rename_i hj; cases h3; rw [if_neg hj]; exact hQ (_, _) (h4 _ (by simp))
      | _ => cases h3; exact hQ (_, _) (h4 _ (by simp))
    | loop c => exact oL (n + 1) (loop _ _ _ _ h ρ n0 Q hb hQ)
    | region id ops d =>
      rw [la] at h
      cases d with
      | false =>
        simp only [jF] at h
        obtain ⟨l, h1, h2⟩ := dq h
        refine iK ht (nR Dh vp (BC ht dj Hg) (KD Hg) h1 fun s hs => ?_)
        obtain ⟨b', h3, h4⟩ := h2 _ hs
        cases h3
        exact hQ (_, _) (h4 _ (by simp))
      | true =>
        simp only [jF] at h
        have one : ∀ (st : St) (outs : List (Exit × St)), (∀ o ∈ outs, Q o.1 o.2) → qc (KC P tt nat jE (ev P tt pl nat jE n) ops st) (pl id ops) = some outs → eL P ρ n0 (.region id ops true) st Q := fun st outs hQ h => by
          obtain ⟨p, -, hp⟩ := ra h
          unfold KC at hp
          split at hp
          · rename_i bK
            split at hp
            · rename_i s hs
              cases hp
              exact pY ht hm p.1 p.2 bK (qZ vp (KB Dh (y7 ht dj Hg)) (Hf ht dj Hg) hs (hQ (_, _) (by simp)))
            · cases hp
          · cases hp
        split at h
        · rename_i x hx; cases h; exact one st _ hQ hx
        · split at h
          · rename_i st' Oc
            exact Bw Oc (one st' _ hQ h)
          · cases h
    | rangeFunc f params assign body =>
      rw [la] at h
      simp only [jF] at h
      split at h
      · cases h
      · rename_i EU
        have hρ : ρ = none := by rcases hb with h | h
                                 · exact absurd h EU
                                 · exact h
        subst hρ
        split at h
        · rename_i g vs hg
          obtain ⟨l, h1, h2⟩ := dq h
          refine sN hg (BC ht dj Hg _ _ _ _ h1) fun r Bc hr => ?_
          obtain ⟨b', h3, h4⟩ := h2 _ hr
          dsimp only at h3
          split at h3
          · rename_i s jx UJ MW MX MY OD
            split at h3
            · rename_i UR
              refine ⟨s, jx, UJ, MW, MX, MY, OD, (fun e => by subst e; cases UR), ?_⟩
              split at h3
              · rw [nQ] at h3; cases h3; exact hQ (_, _) (h4 _ (by simp))
              · rename_i c
                rw [nQ] at h3
                exact Hg _ _ _ _ h3 none n0 Q (.inr rfl) fun o' MF => hQ _ (h4 _ MF)
            · cases h3
          · cases h3
        · cases h
    | _ => rw [la] at h; simp [jF] at h

include hm in
theorem Sy (Dh : s4 P jE) (vp : jD P nat) (n : Nat) {f : FuncId} {vs : List V} {r : V} (h : y6 P tt (ev P tt pl nat jE n) f vs = some r) : aO P f vs r := y7 ht dj (Sx ht hm dj Dh vp n).1 f vs r h
end
def V3 (P : Program) : Bool := P.funcs.all fun fn => fn.name != "runtime.NumGoroutine"
theorem Hh {P : Program} (h : V3 P = true) (f : FuncId) (fn : Func) (body : Code) (hf : P.funcs[f]? = some fn) (hb : fn.body = some body) (xs : Array Value) (w : World) : (callFunc f xs).run P w = .ok (.enter f xs) w := by
  have aD : f < P.funcs.size := (Array.getElem?_eq_some_iff.1 hf).1
  have hn := (Array.all_eq_true.1 h) f aD
  have ZG : P.funcs[f] = fn := (Array.getElem?_eq_some_iff.1 hf).2
  rw [ZG] at hn
  have bH : (fn.name == "runtime.NumGoroutine") = false := by simpa using hn
  simp only [callFunc,program,Sem.run_bind]
  show (match P.funcs[f]? with | none => _ | some fn => _ : Sem Next).run P w = _
  rw [hf]
  dsimp only
  rw [bH, hb]
  rfl
def OO (l : List (Nat × Nat × Nat × List Pl)) : yW := fun id ops =>
  (l.filter fun e => e.1 == id && e.2.1 == ops.size).map fun e => (e.2.2.2, e.2.2.1)
def BD : List V → Option V
  | [.sc (.string a), .sc (.string b)] => if 2 ≤ b.size ∧ Er b.size = true ∧ a.size < 4294967281 then
      (match (List.range (a.size + 1 - b.size)).find? fun i => a.extract i (i + b.size) == b with
        | some i => some (.sc (.int .i64 i))
        | none => some (.sc (.int .i64 (-1)))) else none
  | _ => none
theorem EV {P : Program} {f : FuncId} {fn : Func} {g : Nat} (hf : P.funcs[f]? = some fn) (hn : (fn.name == "runtime.NumGoroutine") = false) (hb : fn.body = none) (y8 : Extern.findNext fn = none) (x9 : Extern.find fn = some Extern.BytealgIndex.index)
    (hg : ∀ w, (globalAddr "internal/bytealg.MaxLen").run P w = .ok ⟨g, 0, none⟩ w) (hG : aH.g = some g) {vs : List V} {r : V} (h : BD vs = some r) : sI P f vs r := fun E w xs hF hx => by
  unfold BD at h
  split at h
  · rename_i a b
    split at h
    · rename_i hc
      obtain ⟨h2, hm, ha⟩ := hc
      rw [wo] at hm
      have hm : (b.size : Int) ≤ aH.n := by simpa using hm
      obtain ⟨x, r1, hy, A1, hx⟩ := hx.of_cons
      obtain ⟨y, r2, hz, Ew, hx⟩ := hx.of_cons
      have := hx.of_nil
      subst this; subst hz
      obtain rfl := bR A1
      obtain rfl := bR Ew
      obtain rfl : xs = #[.string a, .string b] := by rw [← Array.toArray_toList (xs := xs), hy]
      have lC : w.cell? ⟨g, 0, none⟩ = some (.int .i64 aH.n) := hF _ _ (E.gl.n g hG)
      have V4 : Extern.BytealgIndex.maxLen.run P w = .ok aH.n w := by
        simp [Extern.BytealgIndex.maxLen, hg, load, Sem.run, lC, asInt, asIntOf]
      have cJ : (Extern.BytealgIndex.index #[.string a, .string b]).run P w = .ok (match (List.range (a.size + 1 - b.size)).find? fun i => a.extract i (i + b.size) == b with | some i => goInt i | none => goInt (-1)) w := by
        show (do
          let a ← Extern.Bytes.bytesOf (.string a)
          let b ← Extern.Bytes.bytesOf (.string b)
          if b.size < 2 || (b.size : Int) > (← Extern.BytealgIndex.maxLen) then
            unsupported (.noEntry "extern/internal/bytealg.Index.length")
          if a.size ≥ 2 ^ 32 - 15 then
            unsupported (.noEntry "extern/internal/bytealg.Index: a haystack of 2^32 - 15 bytes or more")
          match (List.range (a.size + 1 - b.size)).find? fun i => a.extract i (i + b.size) == b with
          | some i => pure (goInt i)
          | none => pure (goInt (-1)) : Sem Value).run P w = _
        have e1 : (decide (b.size < 2)) = false := by simp; omega
        have e2 : decide ((b.size : Int) > aH.n) = false := by simp; omega
        have e3 : ¬ a.size ≥ 2 ^ 32 - 15 := by omega
        simp only [Extern.Bytes.bytesOf,Sem.run_bind,Sem.run_pure,Result.andThen_ok,V4,e1,e2,Bool.or_self,Bool.false_eq_true,if_false,e3]
        split <;> rfl
      refine ⟨(match (List.range (a.size + 1 - b.size)).find? fun i => a.extract i (i + b.size) == b with | some i => goInt i | none => goInt (-1)), ?_, ?_⟩
      · simp only [callFunc,program,Sem.run_bind]
        show (match P.funcs[f]? with | none => _ | some fn => _ : Sem Next).run P w = _
        rw [hf]
        dsimp only
        rw [hn, hb]
        simp only [Bool.false_eq_true,if_false,Option.isNone_none,if_true,y8,x9,Sem.run_bind,mark,Sem.run,Result.andThen_ok]
        rw [cJ]; rfl
      · split at h
        · cases h; exact .sc _ _
        · cases h; exact .sc _ _
    · cases h
  · cases h
end Go.Eng
end
