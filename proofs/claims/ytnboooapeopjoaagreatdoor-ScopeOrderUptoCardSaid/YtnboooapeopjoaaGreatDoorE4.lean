/-
  THE ENGINE, V: the engine as a function: what a closed call comes to, by computing.
-/
import Derived.Test.YtnboooapeopjoaaGreatDoorE3
set_option linter.all false
section
namespace Go.Eng
variable [aA]

abbrev Ae := Nat → Array Oper → List (List Pl × Nat)
abbrev ij := FuncId → List V → List aC → Option (List (V × List aC))
abbrev lH := FuncId → List V → Option V
def jc (P : Program) (nat : lH) : Prop := ∀ f vs r, nat f vs = some r → m9 P f vs r
abbrev Fu := Nat → List V → List aC → Option (List (Bool × List aC))
abbrev lI := Bool → Code → St → Option (List (Exit × St))

def lJ {α β : Type} (x : Option (List α)) (f : α → Option (List β)) : Option (List β) :=
  match x with
  | none => none
  | some l => l.foldr (fun a acc => match f a, acc with | some b, some c => some (b ++ c) | _, _ => none) (some [])
theorem wS {α β : Type} {f : α → Option (List β)} : ∀ {l : List α} {out : List β}, lJ (some l) f = some out → ∀ a ∈ l, ∃ b, f a = some b ∧ ∀ x ∈ b, x ∈ out
  | [], _, _, a, ha => by simp at ha
  | c :: r, out, h, a, ha => by
    simp only [lJ,List.foldr_cons] at h
    split at h
    · rename_i b t hb hc
      cases h
      rcases List.mem_cons.1 ha with rfl | ha
      · exact ⟨b, hb, fun x hx => List.mem_append_left _ hx⟩
      · obtain ⟨b', h1, h2⟩ := wS (l := r) (out := t) hc a ha
        exact ⟨b', h1, fun x hx => List.mem_append_right _ (h2 x hx)⟩
    · cases h
theorem ez {α β : Type} {x : Option (List α)} {f : α → Option (List β)} {out : List β} (h : lJ x f = some out) : ∃ l, x = some l ∧ ∀ a ∈ l, ∃ b, f a = some b ∧ ∀ y ∈ b, y ∈ out := by
  cases x with
  | none => cases h
  | some l => exact ⟨l, rfl, wS h⟩

def HS (st : St) (it : V) (str : Bool) : Option (List (V × List aC)) :=
  match it with
  | .ptr b 0 => match st.mem[b]? with
    | some (.fh m since seen last) => match st.mem[m]? with
      | some (.map bV clock) => if str = false ∧ xR bV seen last = false then
          some ((if (tX bV seen since).isEmpty then [(tY, st.mem)] else []) ++
            (tX bV seen since ++ Hp bV seen since).map fun e => (Hq e, st.mem.set b (.fh m since (seen ++ [e.2.1]) clock)))
        else none
      | _ => none
    | some (.jP s pos) => if str = true then (if pos < s.size then some [(NV s pos, st.mem.set b (.jP s (pos + (Utf8.decode s pos).2)))] else some [(tY, st.mem)]) else none
    | some .j7 => if str = false then some [(tY, st.mem)] else none
    | _ => none
  | _ => none
theorem dF {α : Type} {Q : α → Prop} {a : α} (h : ∀ p ∈ [a], Q p) : Q a := h a (List.mem_singleton.2 rfl)
theorem Af {st : St} {dst : Option Tmp} {it : V} {str : Bool} {outs : List (V × List aC)} {Q : St → Prop} (h : HS st it str = some outs) (hQ : ∀ p ∈ outs, Q (St.put { st with mem := p.2 } dst p.1)) : p8 st dst it str Q := by
  unfold HS at h
  unfold p8
  split at h
  · split at h
    · rename_i h1
      simp only [h1]
      split at h
      · rename_i h2
        simp only [h2]
        split at h
        · rename_i h3
          cases h
          refine ⟨h3.1, h3.2, fun he => ?_, fun e he => ?_⟩
          · have := hQ (tY, st.mem) (by rw [he]; exact List.mem_append_left _ (List.mem_singleton.2 rfl)); exact this
          · have := hQ _ (List.mem_append_right _ (List.mem_map.2 ⟨e, he, rfl⟩)); exact this
        · cases h
      · cases h
    · rename_i h1
      simp only [h1]
      split at h
      · rename_i h3
        refine ⟨h3, ?_⟩
        split at h
        · rename_i h4; cases h; rw [if_pos h4]; exact (by have h9 := dF hQ; exact h9)
        · rename_i h4; cases h; rw [if_neg h4]; exact (by have h9 := dF hQ; exact h9)
      · cases h
    · rename_i h1
      simp only [h1]
      split at h
      · rename_i h3
        cases h
        exact ⟨h3, (by have h9 := dF hQ; exact h9)⟩
      · cases h
    · cases h
  · cases h

def Tx (jd : FuncId → List V → Option V) (g : FuncId) (vs : List V) (st : St) : Option (V × List aC) :=
  match dq st.mem vs with
  | some vs' => match jd g vs' with
    | some r => some (r, bx st.mem (vs.flatMap cL) r)
    | none => none
  | none => none
def lK (P : Program) (jd : FuncId → List V → Option V) : Prop := ∀ f vs r, jd f vs = some r → aT P f vs r
def HT (P : Program) (tt : Table) (nat : lH) (jd : FuncId → List V → Option V) (call : ij) (fP : Fu) (key : Nat) (o : Oper) (st : St) : Option (List (V × List aC)) :=
  match o.op with
  | .alloc T => match tt T with
    | some i => some [((.ptr key 0), bO st.mem key (.box (i.zero.map V.sc)))]
    | none => none
  | .box _ x => match iB (st.eval x) with
    | some cs => some [((.ptr key 0), bO st.mem key (.box cs))]
    | none => none
  | .build T parts => match jG P tt T parts.toList st.eval with
    | some v => some [(v, st.mem)]
    | none => none
  | .buildSlice T len parts => match rE tt T len parts.toList st.eval with
    | some (size, rs) => some [((.ms key 0 0 len), bO st.mem key (.rows 0 size rs))]
    | none => match LQ tt T len parts.toList st with
      | some (size, rs) => some [((.ms key 0 0 len), bO (aR st.mem (xU st.eval parts.toList)) key (.rows 0 size rs))]
      | none => none
  | .store T p x => match jF tt st.mem T (st.eval p) (st.eval x) with
    | some aQ => some [((.sc undef), aQ)]
    | none => match xV tt st.mem T (st.eval p) (st.eval x) with
      | some aQ => some [((.sc undef), aQ)]
      | none => none
  | .call { callee := .builtin .append, args := xs, argTypes := ts } => match xs.toList.map st.eval with
    | [s, x] => match eK tt st.mem ts.toList s x with
      | some (size, o4, rows) => some [((dt st.mem key size rows o4).2, (dt st.mem key size rows o4).1)]
      | none => none
    | _ => none
  | .call { callee := .value f, args := xs, .. } => match st.eval f with
    | .fP k => match fP k (xs.toList.map st.eval) st.mem with
      | some outs => some (outs.map fun p => ((.sc (.bool p.1)), p.2))
      | none => none
    | fv => match bD fv (xs.toList.map st.eval) with
      | some (g, vs) => match Tx jd g vs st with
        | some (r, aQ) => some [(r, aQ)]
        | none => match call g vs st.mem with
          | some outs => some (outs.map fun p => (p.1, p.2))
          | none => match nat g vs with
            | some r => some [(r, st.mem)]
            | none => none
      | none => none
  | .makeSlice T l c => match sy tt T (st.eval l) (st.eval c) with
    | some (size, rs, _) => some [((.ms key 0 0 rs.length), bO st.mem key (.rows 0 size rs))]
    | none => none
  | .makeMap _ none => some [((.mp key), bO st.mem key (.map [] 0))]
  | .mapUpdate T m k x => match bX P st.mem T (st.eval m) (st.eval k) (st.eval x) with
    | some aQ => some [((.sc undef), aQ)]
    | none => none
  | .insert T m k x => match bX P st.mem T (st.eval m) (st.eval k) (st.eval x) with
    | some aQ => some [((.sc undef), aQ)]
    | none => none
  | .mapEntry T m k => match rF P st.mem T (st.eval m) (st.eval k) with
    | some (aQ, v) => some [(v, aQ)]
    | none => none
  | .entryStore _ m s x => match rG st.mem (st.eval m) (st.eval s) (st.eval x) with
    | some aQ => some [((.sc undef), aQ)]
    | none => none
  | .call { callee := .builtin .delete, args := xs, argTypes := ts } => match n6 P st.mem ts (xs.toList.map st.eval) with
    | some aQ => some [((.sc (.tuple #[])), aQ)]
    | none => none
  | .range T x => match lB P st.mem T (st.eval x) with
    | some B => some [((.ptr key 0), bO st.mem key B)]
    | none => none
  | .next it str => HS st (st.eval it) str
  | .binOp op T x y _ => match k7 tt op T (st.eval x) (st.eval y) with
    | some n => if n = 0 then some [((.sc (.bool (l0 op false))), st.mem), ((.sc (.bool (l0 op true))), st.mem)] else some [((.sc (.bool (l0 op false))), st.mem)]
    | none => match iJ P tt st o with
      | some v => some [(v, st.mem)]
      | none => none
  | _ => match iJ P tt st o with
    | some v => some [(v, st.mem)]
    | none => none

def fS (P : Program) (call : ij) : Prop := ∀ f vs mem outs, call f vs mem = some outs → cj P f vs mem fun r m => (r, m) ∈ outs
def HU (P : Program) (fP : Fu) : Prop := ∀ k vs mem outs, fP k vs mem = some outs → Fi P k vs mem fun b m => (b, m) ∈ outs

theorem Ag {P : Program} {tt : Table} {nat : lH} {jd : FuncId → List V → Option V} {call : ij} {fP : Fu} (tg : lK P jd) (bh : jc P nat) (hc : fS P call) (hy : HU P fP) {key : Nat} {o : Oper} {st : St} {outs : List (V × List aC)} {Q : St → Prop} (h : HT P tt nat jd call fP key o st = some outs) (hQ : ∀ p ∈ outs, Q (St.put { st with mem := p.2 } o.dst p.1)) :
    bP P tt key o st Q := by
  unfold HT at h
  unfold bP
  split at h
  · rename_i heq; rw [heq]; dsimp only
    split at h
    · rename_i h1; cases h; rw [h1]; exact (by have h9 := dF hQ; exact h9)
    · cases h
  · rename_i heq; rw [heq]; dsimp only
    split at h
    · rename_i h1; cases h; rw [h1]; exact (by have h9 := dF hQ; exact h9)
    · cases h
  · rename_i heq; rw [heq]; dsimp only
    split at h
    · rename_i h1; cases h; rw [h1]; exact (by have h9 := dF hQ; exact h9)
    · cases h
  · rename_i heq; rw [heq]; dsimp only
    split at h
    · rename_i h1; cases h; rw [h1]; exact (by have h9 := dF hQ; exact h9)
    · rename_i h0
      rw [h0]; dsimp only
      split at h
      · rename_i h1; cases h; rw [h1]; exact (by have h9 := dF hQ; exact h9)
      · cases h
  · rename_i heq; rw [heq]; dsimp only
    split at h
    · rename_i h1; cases h; rw [h1]; exact (by have h9 := dF hQ; exact h9)
    · rename_i h0
      rw [h0]; dsimp only
      split at h
      · rename_i h1; cases h; rw [h1]; exact (by have h9 := dF hQ; exact h9)
      · cases h
  · rename_i heq; rw [heq]; dsimp only
    split at h
    · rename_i h0
      rw [h0]; dsimp only
      split at h
      · rename_i h1; cases h; rw [h1]; exact (by have h9 := dF hQ; exact h9)
      · cases h
    · cases h
  · rename_i heq; rw [heq]; dsimp only
    split at h
    · rename_i k hk
      rw [hk]; dsimp only
      split at h
      · rename_i os ho
        cases h
        exact .inr ⟨_, hy _ _ _ _ ho, fun b m hm => (by have := hQ _ (List.mem_map.2 ⟨_, hm, rfl⟩); exact this)⟩
      · cases h
    · rename_i fv R7
      split at h
      · rename_i g vs hg
        split at h
        · rename_i r aQ Fv
          cases h
          unfold Tx at Fv
          split at Fv
          · rename_i vs' S7
            split at Fv
            · rename_i r1 Cg
              cases Fv
              split
              · rename_i k hk; exact absurd hk (R7 k)
              · rw [hg]; exact .inl ⟨vs', _, S7, tg _ _ _ Cg, (by have h9 := dF hQ; exact h9)⟩
            · cases Fv
          · cases Fv
        · split at h
          · rename_i os ho
            cases h
            split
            · rename_i k hk; exact absurd hk (R7 k)
            · rw [hg]; exact .inr (.inr (.inl ⟨_, hc _ _ _ _ ho, fun b m hm => (by have := hQ _ (List.mem_map.2 ⟨_, hm, rfl⟩); exact this)⟩))
          · split at h
            · rename_i r hr
              cases h
              split
              · rename_i k hk; exact absurd hk (R7 k)
              · rw [hg]; exact .inr (.inr (.inr ⟨r, bh _ _ _ hr, (by have h9 := dF hQ; exact h9)⟩))
            · cases h
      · cases h
  · rename_i heq; rw [heq]; dsimp only
    split at h
    · rename_i h1; cases h; rw [h1]; exact (by have h9 := dF hQ; exact h9)
    · cases h
  · rename_i heq; rw [heq]; dsimp only; cases h; exact (by have h9 := dF hQ; exact h9)
  · rename_i heq; rw [heq]; dsimp only
    split at h
    · rename_i h1; cases h; rw [h1]; exact (by have h9 := dF hQ; exact h9)
    · cases h
  · rename_i heq; rw [heq]; dsimp only
    split at h
    · rename_i h1; cases h; rw [h1]; exact (by have h9 := dF hQ; exact h9)
    · cases h
  · rename_i heq; rw [heq]; dsimp only
    split at h
    · rename_i h1; cases h; rw [h1]; exact (by have h9 := dF hQ; exact h9)
    · cases h
  · rename_i heq; rw [heq]; dsimp only
    split at h
    · rename_i h1; cases h; rw [h1]; exact (by have h9 := dF hQ; exact h9)
    · cases h
  · rename_i heq; rw [heq]; dsimp only
    split at h
    · rename_i h1; cases h; rw [h1]; exact (by have h9 := dF hQ; exact h9)
    · cases h
  · rename_i heq; rw [heq]; dsimp only
    split at h
    · rename_i h1; cases h; rw [h1]; exact (by have h9 := dF hQ; exact h9)
    · cases h
  · rename_i heq; rw [heq]; dsimp only
    exact Af h hQ
  · rename_i heq; rw [heq]; dsimp only
    split at h
    · rename_i n hn
      rw [hn]; dsimp only
      intro b hb
      split at h
      · cases h; cases b
        · have := hQ _ (List.mem_cons_self ..); exact this
        · have := hQ _ (List.mem_cons_of_mem _ (List.mem_singleton.2 rfl)); exact this
      · rename_i h0; cases h; rw [hb h0]; exact (by have h9 := dF hQ; exact h9)
    · rename_i hn
      rw [hn]; dsimp only
      split at h
      · rename_i h1; cases h; rw [h1]; exact (by have h9 := dF hQ; exact h9)
      · cases h
  · split at h
    · rename_i h1
      cases h
      split <;> first | (rw [h1]; exact (by have h9 := dF hQ; exact h9)) | (exfalso; solve_by_elim)
    · cases h

/-! ### what is computed is written out before it is handed on (the kernel would reckon it anew at each look) -/
def HV {α β : Type} : List α → (List α → β) → β
  | [], k => k []
  | c :: r, k => HV r fun r' => k (c :: r')
theorem l9 {α β : Type} : ∀ (l : List α) (k : List α → β), HV l k = k l
  | [], _ => rfl
  | c :: r, k => by rw [HV, l9 r]
def jI {β : Type} (n : Nat) (k : Nat → β) : β := Nat.casesOn n (k 0) fun m => k (Nat.succ m)
theorem fa {β : Type} (n : Nat) (k : Nat → β) : jI n k = k n := by cases n <;> rfl
def PO {β : Type} (n : Int) (k : Int → β) : β := match n with | .ofNat m => jI m fun m' => k (.ofNat m') | .negSucc m => jI m fun m' => k (.negSucc m')
theorem Mb {β : Type} (n : Int) (k : Int → β) : PO n k = k n := by cases n <;> simp only [PO,fa]
def CC {β : Type} (s : ByteArray) (k : ByteArray → β) : β := HV s.data.toList fun l => k ⟨⟨l⟩⟩
theorem Fw {β : Type} (s : ByteArray) (k : ByteArray → β) : CC s k = k s := by rw [CC, l9]
def Mc {β : Type} (v : Value) (k : Value → β) : β :=
  match v with
  | .bool true => k (.bool true)
  | .bool false => k (.bool false)
  | .int t n => PO n fun n' => k (.int t n')
  | .string s => CC s fun s' => k (.string s')
  | v => k v
theorem Ef {β : Type} (v : Value) (k : Value → β) : Mc v k = k v := by
  unfold Mc
  split
  · rfl
  · rfl
  · rw [Mb]
  · rw [Fw]
  · rfl
def fW {β : Type} (v : V) (k : V → β) : β :=
  match v with
  | .undef => k .undef
  | .sc v => k (.sc v)
  | .agg cs => k (.agg cs)
  | .slice r => k (.slice r)
  | .ms a b c d => k (.ms a b c d)
  | .ptr a b => k (.ptr a b)
  | .dZ a b c d => k (.dZ a b c d)
  | .cH cs => k (.cH cs)
  | .bp f a b => k (.bp f a b)
  | .cC l => k (.cC l)
  | .fP a => k (.fP a)
  | .mp a => k (.mp a)
  | .gn => k .gn
  | .full r => k (.full r)
theorem N8 {β : Type} (v : V) (k : V → β) : fW v k = k v := by cases v <;> rfl
def Sf {β : Type} : List V → (List V → β) → β
  | [], k => k []
  | c :: r, k => fW c fun c' => Sf r fun r' => k (c' :: r')
theorem x6 {β : Type} : ∀ (l : List V) (k : List V → β), Sf l k = k l
  | [], _ => rfl
  | c :: r, k => by rw [Sf, N8, x6 r]
mutual
def fV {β : Type} : V → (V → β) → β
  | .undef, k => k .undef
  | .gn, k => k .gn
  | .sc v, k => Mc v fun v' => k (.sc v')
  | .agg cs, k => Eg cs fun BU => k (.agg BU)
  | .cC cs, k => Eg cs fun BU => k (.cC BU)
  | .slice cs, k => Eg cs fun BU => k (.slice BU)
  | .full cs, k => Eg cs fun BU => k (.full BU)
  | .cH cs, k => Eg cs fun BU => k (.cH BU)
  | .bp f a b, k => Eg a fun a' => Eg b fun b' => k (.bp f a' b')
  | .ms a b c d, k => jI a fun a' => jI b fun b' => jI c fun c' => jI d fun d' => k (.ms a' b' c' d')
  | .ptr a b, k => jI a fun a' => jI b fun b' => k (.ptr a' b')
  | .dZ a b c d, k => jI a fun a' => jI b fun b' => jI c fun c' => jI d fun d' => k (.dZ a' b' c' d')
  | .fP a, k => jI a fun a' => k (.fP a')
  | .mp a, k => jI a fun a' => k (.mp a')
def Eg {β : Type} : List V → (List V → β) → β
  | [], k => k []
  | c :: r, k => fV c fun c' => Eg r fun r' => k (c' :: r')
end
mutual
theorem Ah {β : Type} : ∀ (v : V) (k : V → β), fV v k = k v
  | .undef, _ => by rw [fV]
  | .gn, _ => by rw [fV]
  | .sc v, k => by rw [fV, Ef]
  | .agg cs, k => by rw [fV, ma cs]
  | .cC cs, k => by rw [fV, ma cs]
  | .slice cs, k => by rw [fV, ma cs]
  | .full cs, k => by rw [fV, ma cs]
  | .cH cs, k => by rw [fV, ma cs]
  | .bp f a b, k => by rw [fV, ma a, ma b]
  | .ms a b c d, k => by rw [fV, fa, fa, fa, fa]
  | .ptr a b, k => by rw [fV, fa, fa]
  | .dZ a b c d, k => by rw [fV, fa, fa, fa, fa]
  | .fP a, k => by rw [fV, fa]
  | .mp a, k => by rw [fV, fa]
theorem ma {β : Type} : ∀ (l : List V) (k : List V → β), Eg l k = k l
  | [], _ => by rw [Eg]
  | c :: r, k => by rw [Eg, Ah c, ma r]
end
def Me {β : Type} : List (Value × Nat × V) → (List (Value × Nat × V) → β) → β
  | [], k => k []
  | (a, n, v) :: r, k => Mc a fun a' => jI n fun n' => fV v fun v' => Me r fun r' => k ((a', n', v') :: r')
theorem Eh {β : Type} : ∀ (l : List (Value × Nat × V)) (k : List (Value × Nat × V) → β), Me l k = k l
  | [], _ => rfl
  | (a, n, v) :: r, k => by rw [Me, Ef, fa, Ah, Eh r]
def fB {β : Type} (B : aC) (k : aC → β) : β :=
  match B with
  | .hole => k .hole
  | .dead => k .dead
  | .j7 => k .j7
  | .box cs => Eg cs fun BU => k (.box BU)
  | .rows v e rs => jI v fun v' => jI e fun e' => Eg rs fun jw => k (.rows v' e' jw)
  | .pV v e rs => jI v fun v' => jI e fun e' => Eg rs fun jw => k (.pV v' e' jw)
  | .loop s p fr ps a b => k (.loop s p fr ps a b)
  | .map bV c => Me bV fun kvs' => jI c fun c' => k (.map kvs' c')
  | .fh a b c d => jI a fun a' => jI b fun b' => HV c fun c' => jI d fun d' => k (.fh a' b' c' d')
  | .jP s p => jI p fun p' => k (.jP s p')
theorem Tz {β : Type} (B : aC) (k : aC → β) : fB B k = k B := by
  cases B <;> simp only [fB,ma,fa,Eh,l9]
def CD {β : Type} : List Nat → List aC → (List aC → β) → β
  | [], m, k => HV m k
  | i :: r, m, k => match m[i]? with
    | some B => fB B fun B' => CD r (m.set i B') k
    | none => CD r m k
theorem qs {β : Type} : ∀ (ks : List Nat) (m : List aC) (k : List aC → β), CD ks m k = k m
  | [], m, k => l9 m k
  | i :: r, m, k => by
    simp only [CD]
    split
    · rename_i B hB
      rw [Tz, qs r]
      congr 1
      apply List.ext_getElem?
      intro j
      rw [List.getElem?_set]
      split
      · rename_i D3; subst D3
        split
        · exact hB.symm
        · rename_i aZ; rw [List.getElem?_eq_none (by omega)]
      · rfl
    · exact qs r m k
def wT (o : Oper) : Bool :=
  match o.op with
  | .move _ | .assign _ | .pick .. | .load .. | .extract .. | .nilCheck _ | .field .. => true
  | _ => false
def fD {β : Type} (b : Bool) (v : V) (k : V → β) : β := match b with | true => fW v k | false => fV v k
theorem N9 {β : Type} (b : Bool) (v : V) (k : V → β) : fD b v k = k v := by cases b <;> simp only [fD,N8,Ah]
def Mf {β : Type} (b : Bool) (d : Option Tmp) (ks : List Nat) (s : St) (k : St → β) : β :=
  match d with
  | some d => fD b (s.fr.getD d .undef) fun v => HV (if d < s.fr.length then s.fr.set d v else s.fr) fun fr => CD ks s.mem fun mem => k { fr := fr, mem := mem }
  | none => HV s.fr fun fr => CD ks s.mem fun mem => k { fr := fr, mem := mem }
theorem pe {β : Type} (b : Bool) (d : Option Tmp) (ks : List Nat) (s : St) (k : St → β) : Mf b d ks s k = k s := by
  unfold Mf
  split
  · rename_i d
    rw [N9, l9, qs]
    congr 1
    split
    · rename_i hd
      obtain ⟨fr, mem⟩ := s
      dsimp only at hd ⊢
      congr 1
      apply List.ext_getElem?
      intro j
      rw [List.getElem?_set]
      split
      · rename_i D3; subst D3
        rw [List.getD_eq_getElem?_getD, List.getElem?_eq_getElem hd]; rfl
      · rfl
    · rfl
  · rw [l9, qs]
def Mg {β : Type} : List V → Nat → V → (List V → β) → β
  | [], _, _, k => k []
  | _ :: r, 0, v, k => k (v :: r)
  | c :: r, d + 1, v, k => Mg r d v fun r' => k (c :: r')
theorem Ei {β : Type} : ∀ (l : List V) (d : Nat) (v : V) (k : List V → β), Mg l d v k = k (l.set d v)
  | [], _, _, _ => rfl
  | _ :: _, 0, _, _ => rfl
  | c :: r, d + 1, v, k => by rw [Mg, Ei r]; rfl
def Ej {β : Type} (ks : List Nat) (m : List aC) (k : List aC → β) : β := match ks with | [] => k m | _ :: _ => CD ks m k
theorem Ai {β : Type} (ks : List Nat) (m : List aC) (k : List aC → β) : Ej ks m k = k m := by
  unfold Ej
  split
  · rfl
  · rw [qs]
def PQ {β : Type} (b : Bool) (d : Option Tmp) (ks : List Nat) (st : St) (v : V) (m : List aC) (k : St → β) : β :=
  match d with
  | some d => fD b v fun v => Mg st.fr d v fun fr => Ej ks m fun mem => k { fr := fr, mem := mem }
  | none => Ej ks m fun mem => k { fr := st.fr, mem := mem }
theorem Mh {β : Type} (b : Bool) (d : Option Tmp) (ks : List Nat) (st : St) (v : V) (m : List aC) (k : St → β) : PQ b d ks st v m k = k (St.put { st with mem := m } d v) := by
  unfold PQ
  split
  · rw [N9, Ei, Ai]; rfl
  · rw [Ai]; rfl
def HW : V → List Nat
  | .ptr b _ => [b]
  | .dZ b _ _ _ => [b]
  | .ms b _ _ _ => [b]
  | .mp b => [b]
  | _ => []
def Ek (key : Nat) (o : Oper) (st : St) : List Nat :=
  match o.op with
  | .alloc _ | .box .. | .buildSlice .. | .makeMap .. | .makeSlice .. | .range .. => [key]
  | .store _ p _ => HW (st.eval p)
  | .call { callee := .builtin .append, args := xs, .. } => match xs.toList with | s :: _ => key :: HW (st.eval s) | _ => []
  | .call { callee := .builtin .delete, args := xs, .. } => match xs.toList with | s :: _ => HW (st.eval s) | _ => []
  | .mapUpdate _ m _ _ | .insert _ m _ _ | .mapEntry _ m _ | .entryStore _ m _ _ => HW (st.eval m)
  | .call { callee := .value _, .. } => [0]
  | .next it _ => HW (st.eval it)
  | _ => []

def Fx (P : Program) (tt : Table) (nat : lH) (jd : FuncId → List V → Option V) (call : ij) (fP : Fu) (all : Array Oper) : List Oper → St → Option (List St)
  | [], st => some [st]
  | o :: r, st => match df all st.fr o with
    | some true => lJ (HT P tt nat jd call fP st.mem.length o st) fun p => PQ (wT o) o.dst (Ek st.mem.length o st) st p.1 p.2 fun s' => Fx P tt nat jd call fP all r s'
    | some false => Fx P tt nat jd call fP all r (st.put o.dst (.sc undef))
    | none => none
theorem mb {P : Program} {tt : Table} {nat : lH} {jd : FuncId → List V → Option V} (tg : lK P jd) {call : ij} {fP : Fu} (bh : jc P nat) (hc : fS P call) (hy : HU P fP) {all : Array Oper} {Q : St → Prop} : ∀ {l : List Oper} {st : St} {outs : List St}, Fx P tt nat jd call fP all l st = some outs → (∀ s ∈ outs, Q s) → dc P tt all l st Q
  | [], st, outs, h, hQ => by cases h; exact hQ _ (by simp)
  | o :: r, st, outs, h, hQ => by
    simp only [Fx] at h
    simp only [dc]
    split at h
    · rename_i hw
      rw [hw]
      obtain ⟨l, h1, h2⟩ := ez h
      refine Ag tg bh hc hy h1 fun s hs => ?_
      obtain ⟨b, h3, h4⟩ := h2 s hs
      rw [Mh] at h3
      exact mb tg bh hc hy h3 fun s' lS => hQ _ (h4 _ lS)
    · rename_i hw
      rw [hw]
      exact mb tg bh hc hy h hQ
    · cases h

/-! ### all rows frozen -/
def dP : Nat → List aC → List (Nat × Nat)
  | _, [] => []
  | i, .rows v _ _ :: r => (i, v) :: dP (i + 1) r
  | i, .pV v _ _ :: r => (i, v) :: dP (i + 1) r
  | i, _ :: r => dP (i + 1) r
theorem mc : ∀ {m : List aC} {n k v e : Nat} {rs : List V}, (m[k]? = some (.rows v e rs) ∨ m[k]? = some (.pV v e rs)) → (n + k, v) ∈ dP n m
  | [], n, k, v, e, rs, h => by simp at h
  | B :: r, n, 0, v, e, rs, h => by
    simp only [List.getElem?_cons_zero,Option.some.injEq] at h
    rcases h with rfl | rfl <;> simp [dP]
  | B :: r, n, k + 1, v, e, rs, h => by
    simp only [List.getElem?_cons_succ] at h
    have := mc (n := n + 1) h
    rw [show n + 1 + k = n + (k + 1) from by omega] at this
    cases B <;> simp only [dP] <;> first | exact this | exact List.mem_cons_of_mem _ this
def gh (mem : List aC) (v : V) : V := match cq mem v with | some v' => v' | none => v
def PR (mem : List aC) : V → V
  | .agg cs => .agg (cs.map (gh mem))
  | .cC vs => .cC (vs.map fun v => match v with | .agg cs => .agg (cs.map (gh mem)) | v => gh mem v)
  | v => gh mem v
def rP (mem : List aC) : aC → aC
  | .box cs => .box (cs.map (gh mem))
  | B => B
def Aj (st : St) : Option St :=
  let keys := dP 0 st.mem
  match dq st.mem (keys.map fun (k : Nat × Nat) => V.ms k.1 k.2 0 0) with
  | some _ => some { fr := st.fr.map (PR st.mem), mem := (aR st.mem keys).map (rP st.mem) }
  | none => none
theorem El : ∀ (keys : List (Nat × Nat)), (keys.map fun (k : Nat × Nat) => V.ms k.1 k.2 0 0).flatMap cL = keys
  | [] => rfl
  | k :: r => by simp [cL, gM, El r]
theorem Fy {mem : List aC} {B : aC} (h : ∀ cs, B ≠ .box cs) : rP mem B = B := by
  cases B <;> first | rfl | exact absurd rfl (h _)
theorem CE (mem : List aC) (B : aC) : (rP mem B).b7 = B.b7 := by cases B <;> rfl
theorem Ak {E : Env} {w : World} {a : Act} {st st' : St} (hs : bH E w a st) (h : Aj st = some st') : ∃ E', bH E' w a st' ∧ ec E w E' w := by
  unfold Aj at h
  dsimp only at h
  split at h
  · rename_i vs' hp
    cases h
    obtain ⟨ks, Y9⟩ : ∃ ks, ks = ((dP 0 st.mem).map (fun (k : Nat × Nat) => V.ms k.1 k.2 0 0)).flatMap cL := ⟨_, rfl⟩
    have TA : ec E w (E.lR w ks) w ∧ bH (E.lR w ks) w a { st with mem := aR st.mem ks } := by
      subst Y9
      obtain ⟨hg, h1, h2⟩ := ue hs hp (F' := (E.lR w (((dP 0 st.mem).map (fun (k : Nat × Nat) => V.ms k.1 k.2 0 0)).flatMap cL)).F) (fun _ _ h => h) (fun ad y h => Env.D6 hs.F h) (fun _ _ h => .inl h) (Go.RowKit.Below.refl _ w)
      exact ⟨h1, h2⟩
    rw [El] at Y9
    subst Y9
    obtain ⟨ea, o0⟩ := TA
    have p6 : ∀ {v : V} {x : Value}, bC E v x → bC (E.lR w (dP 0 st.mem)) (gh st.mem v) x := fun {v x} hr => by
      unfold gh
      split
      · rename_i v' hv
        refine (k6 hs hr hv fun k hk => ?_).mono (Env.nY _)
        cases v <;> simp only [gM,List.mem_singleton,List.not_mem_nil] at hk
        subst hk
        simp only [cq] at hv
        split at hv
        · rename_i hm
          split at hv
          · rename_i hc; have := mc (n := 0) (.inl hm); rw [Nat.zero_add, hc.1] at this; exact this
          · cases hv
        · rename_i hm
          split at hv
          · rename_i hc; have := mc (n := 0) (.inr hm); rw [Nat.zero_add, hc.1] at this; exact this
          · cases hv
        · cases hv
      · exact hr.mono (Env.rH E w _)
    have LN : ∀ {cs : List V} {xs : List Value}, bo E cs xs → bo (E.lR w (dP 0 st.mem)) (cs.map (gh st.mem)) xs := fun {cs xs} hr => by
      refine ⟨by simpa using hr.1, fun i c x hc hx => ?_⟩
      simp only [List.getElem?_map,Option.map_eq_some_iff] at hc
      obtain ⟨c0, CF, rfl⟩ := hc
      exact p6 (hr.2 i c0 x CF hx)
    have h1 : ∀ {v : V} {x : Value}, bC E v x → bC (E.lR w (dP 0 st.mem)) (match v with | .agg cs => .agg (cs.map (gh st.mem)) | v => gh st.mem v) x := fun {v x} hr => by
      split
      · rename_i cs
        cases hr with
        | agg _ cs xs hl hh =>
          have := LN (cs := cs) (xs := xs.toList) ⟨by simpa using hl, fun i c x hc hx => hh i c x hc (by simpa using hx)⟩
          exact .agg _ _ _ (by simpa using this.1) fun i c x hc hx => this.2 i c x hc (by simpa using hx)
      · exact p6 hr
    have hV : ∀ {v : V} {x : Value}, bC E v x → bC (E.lR w (dP 0 st.mem)) (PR st.mem v) x := fun {v x} hr => by
      unfold PR
      split
      · exact h1 (v := .agg _) hr
      · rename_i vs
        cases hr with
        | cC _ vs xs hl hh =>
          refine .cC _ _ _ (by simpa using hl) fun i c x hc hx => ?_
          simp only [List.getElem?_map,Option.map_eq_some_iff] at hc
          obtain ⟨c0, CF, rfl⟩ := hc
          exact h1 (hh i c0 x CF hx)
      · exact p6 hr
    refine ⟨_, ⟨o0.F, o0.lt, fun k B hk => ?_, fun k hk => o0.top k (by simpa using hk), fun k B hk v hv => ?_, o0.apart, ⟨by simpa using hs.fr.1, fun i v x hv hx => ?_⟩⟩, ea⟩
    · simp only [List.getElem?_map,Option.map_eq_some_iff] at hk
      obtain ⟨B0, D7, rfl⟩ := hk
      have h0 := o0.mem k B0 D7
      by_cases TB : ∃ cs, B0 = .box cs
      · obtain ⟨cs, rfl⟩ := TB
        have hold : st.mem[k]? = some (.box cs) := by
          rw [lZ] at D7
          cases Lo : st.mem[k]? with
          | none => rw [Lo] at D7; simp [kK] at D7
          | some B1 =>
            rw [Lo] at D7
            cases B1 <;> simp only [kK] at D7 <;> first | exact D7 | (split at D7 <;> cases D7)
        obtain ⟨g, T, xs, q1, q2, q3, q4⟩ := h0
        obtain ⟨g', T', o6, r1, r2, r3, r4⟩ := hs.mem k _ hold
        have : g = g' := by
          have := ea.le.bd _ _ _ r1
          have e : (E.lR w (dP 0 st.mem)).bd k 0 = some (g, 0, 0) := q1
          have e2 : (E.lR w (dP 0 st.mem)).bd k 0 = some (g', 0, 0) := this
          rw [e] at e2; cases e2; rfl
        subst this
        rw [r2] at q2; cases q2
        exact ⟨g, T, xs, q1, r2, LN r3, q4⟩
      · rw [Fy fun cs e => TB ⟨cs, e⟩]; exact h0
    · simp only [List.getElem?_map,Option.map_eq_some_iff] at hk
      obtain ⟨B0, D7, rfl⟩ := hk
      rw [CE] at hv
      exact o0.b7 k B0 D7 v hv
    · simp only [List.getElem?_map,Option.map_eq_some_iff] at hv
      obtain ⟨v0, Hg, rfl⟩ := hv
      exact hV (hs.fr.2 i v0 x Hg hx)
  · cases h
theorem uD {P : Program} {ρ : Option Nat} {n0 : Nat} {c : Code} {st st' : St} {Q : Exit → St → Prop} (hf : Aj st = some st') (h : cD P ρ n0 c st' Q) : cD P ρ n0 c st Q := fun E0 w0 h0 E w a he hs y3 => by
  obtain ⟨E', h1, h2⟩ := Ak hs hf
  exact h E0 w0 h0 E' w a (he.trans h2) h1 (y3.G4 h2)

/-! ### regions that draw -/
abbrev lL := FuncId → List V → Option V
abbrev sO := FuncId → List V → Option (Nat × List V)
def x7 (P : Program) (live : sO) : Prop := ∀ f vs e rs, live f vs = some (e, rs) → sI P f vs e rs
def CG (live : sO) (o : Oper) (key : Nat) (st : St) : Option St :=
  match o.op with
  | .call { callee := .value f, args := xs, .. } => match bD (st.eval f) (xs.toList.map st.eval) with
    | some (g, vs) => match dq [] vs with
      | some vs' => match live g vs' with
        | some (e, rs) => some (rL st key o.dst e rs)
        | none => none
      | none => none
    | none => none
  | _ => none
theorem x8 {P : Program} {live : sO} (hl : x7 P live) {o : Oper} {key : Nat} {st s : St} {Q : St → Prop} (h : CG live o key st = some s) (hQ : Q s) : pc P o key st Q := by
  unfold CG at h
  unfold pc
  split at h
  · rename_i heq; rw [heq]; dsimp only
    split at h
    · rename_i g vs hg
      rw [hg]; dsimp only
      split at h
      · rename_i vs' hv
        split at h
        · rename_i e rs hr
          cases h
          exact ⟨vs', e, rs, hv, hl _ _ _ _ hr, hQ⟩
        · cases h
      · cases h
    · cases h
  · cases h
def pf (P : Program) (pure : lL) : Prop := ∀ f vs r, pure f vs = some r → aT P f vs r
def Mi (P : Program) (tt : Table) (nat : lH) (pure : lL) (o : Oper) (wk st : St) : Option St :=
  match o.op with
  | .call { callee := .value f, args := xs, .. } => match bD (wk.eval f) (xs.toList.map wk.eval) with
    | some (g, vs) => match dq [] vs with
      | some vs' => match pure g vs' with
        | some r => some (st.put o.dst r)
        | none => match nat g vs' with
          | some r => some (st.put o.dst r)
          | none => none
      | none => none
    | none => none
  | _ => match tf P tt o wk with
    | some v => some (st.put o.dst v)
    | none => none
theorem uE {P : Program} {tt : Table} {nat : lH} (bh : jc P nat) {pure : lL} (hp : pf P pure) {o : Oper} {wk st s : St} {Q : St → Prop} (h : Mi P tt nat pure o wk st = some s) (hQ : Q s) : pb P tt o wk st Q := by
  unfold Mi at h
  unfold pb
  split at h
  · rename_i heq; rw [heq]; dsimp only
    split at h
    · rename_i g vs hg
      rw [hg]; dsimp only
      split at h
      · rename_i vs' hv
        split at h
        · rename_i r hr
          cases h
          exact ⟨vs', r, hv, .inl (hp _ _ _ hr), hQ⟩
        · split at h
          · rename_i r hr
            cases h
            exact ⟨vs', r, hv, .inr (bh _ _ _ hr), hQ⟩
          · cases h
      · cases h
    · cases h
  · split at h
    · rename_i h1
      cases h
      split
      · exfalso; solve_by_elim
      · rw [h1]; exact hQ
    · cases h
def CH (pure : lL) (o : Oper) (st : St) : Option St :=
  match o.op with
  | .call { callee := .value f, args := xs, .. } => match bD (st.eval f) (xs.toList.map st.eval) with
    | some (g, vs) => match dq st.mem vs with
      | some vs' => match pure g vs' with
        | some r => some (St.put { st with mem := bx st.mem (vs.flatMap cL) r } o.dst r)
        | none => none
      | none => none
    | none => none
  | _ => none
theorem x9 {P : Program} {pure : lL} (hp : pf P pure) {o : Oper} {st s : St} {Q : St → Prop} (h : CH pure o st = some s) (hQ : Q s) : lC P o st Q := by
  unfold CH at h
  unfold lC
  split at h
  · rename_i f xs ts jD
    split at h
    · rename_i g vs hg
      split at h
      · rename_i vs' hv
        split at h
        · rename_i r hr
          cases h
          rw [jD]
          dsimp only
          rw [hg]
          exact ⟨vs', r, hv, hp _ _ _ hr, hQ⟩
        · cases h
      · cases h
    · cases h
  · cases h
abbrev Al := FuncId → List V → Nat → List aC → Option (V × aC)
def Em (P : Program) (Am : Al) : Prop := ∀ f vs k mem v B, Am f vs k mem = some (v, B) → ∃ B0, mem[k]? = some B0 ∧ B0.b7 = 0 ∧ B.b7 = 0 ∧ aF P f vs mem v (mem.set k B)
def CI (Am : Al) (o : Oper) (k : Nat) (st : St) : Option St :=
  match o.op with
  | .call { callee := .value f, args := xs, .. } => match bD (st.eval f) (xs.toList.map st.eval) with
    | some (g, vs) => match Am g vs k st.mem with
      | some (v, B) => some (St.put { st with mem := st.mem.set k B } o.dst v)
      | none => none
    | none => none
  | _ => none
theorem ya {P : Program} {tt : Table} {Am : Al} (he : Em P Am) {o : Oper} {k : Nat} {st s : St} {Q : St → Prop} (h : CI Am o k st = some s) (hQ : Q s) : qh P tt o k st Q := by
  unfold CI at h
  unfold qh
  split at h
  · rename_i f xs ts jD
    split at h
    · rename_i g vs hg
      split at h
      · rename_i v B hb
        cases h
        obtain ⟨B0, h1, h2, h3, h4⟩ := he _ _ _ _ _ _ hb
        rw [jD]
        dsimp only
        rw [hg]
        exact ⟨v, B0, B, h2, h3, h1, h4, hQ⟩
      · cases h
    · cases h
  · cases h
def CJ (P : Program) (tt : Table) (nat : lH) (pure : lL) (live : sO) (Am : Al) (all : Array Oper) (base : Nat) (o : Oper) (p : Pl) (st : St) : Option St :=
  match df all st.fr o with
  | some true => match p.cls with
    | .n => Mi P tt nat pure o { st with mem := [] } st
    | .r => Mi P tt nat pure o { st with mem := ep (p.mask.map (base + ·) ++ p.abs) st.mem } st
    | .a => if isHole st.mem (base + p.key) = true then (match fJ tt o (base + p.key) st with
      | some (B, v) => some (St.put { st with mem := st.mem.set (base + p.key) B } o.dst v)
      | none => CG live o (base + p.key) st) else none
    | .w => if isHole st.mem (base + p.key) = true then (match qg P tt (base + p.key) o st with
      | some (m, v) => some (St.put { st with mem := m } o.dst v)
      | none => none) else none
    | .s => match mL tt (base + p.key) o st with
      | some m => some (St.put { st with mem := m } o.dst (.sc undef))
      | none => none
    | .b => match mF tt o st with
      | some v => some (st.put o.dst v)
      | none => none
    | .z => CH pure o st
    | .e => match mL tt p.key o st with
      | some m => some (St.put { st with mem := m } o.dst (.sc undef))
      | none => CI Am o p.key st
  | some false => some (st.put o.dst (.sc undef))
  | none => none
theorem yb {P : Program} {tt : Table} {nat : lH} (bh : jc P nat) {pure : lL} {live : sO} {Am : Al} (hp : pf P pure) (hl : x7 P live) (hE : Em P Am) {all : Array Oper} {base : Nat} {o : Oper} {p : Pl} {st s : St} {Q : St → Prop} (h : CJ P tt nat pure live Am all base o p st = some s) (hQ : Q s) : dW P tt all base o p st Q := by
  unfold CJ at h
  unfold dW
  split at h
  · rename_i hw; rw [hw]; dsimp only
    split at h
    · rename_i mC; rw [mC]; exact uE bh hp h hQ
    · rename_i mC; rw [mC]; exact uE bh hp h hQ
    · rename_i mC; rw [mC]; dsimp only
      split at h
      · rename_i hh
        refine ⟨hh, ?_⟩
        split at h
        · rename_i h1; cases h; rw [h1]; exact hQ
        · rename_i h1; rw [h1]; exact x8 hl h hQ
      · cases h
    · rename_i mC; rw [mC]; dsimp only
      split at h
      · rename_i hh
        refine ⟨hh, ?_⟩
        split at h
        · rename_i h1; cases h; rw [h1]; exact hQ
        · cases h
      · cases h
    · rename_i mC; rw [mC]; dsimp only
      split at h
      · rename_i h1; cases h; rw [h1]; exact hQ
      · cases h
    · rename_i mC; rw [mC]; dsimp only
      split at h
      · rename_i h1; cases h; rw [h1]; exact hQ
      · cases h
    · rename_i mC; rw [mC]; exact x9 hp h hQ
    · rename_i mC; rw [mC]; dsimp only
      split at h
      · rename_i m h1
        cases h
        unfold qh
        split
        · rename_i f xs ts jD; unfold mL at h1; rw [jD] at h1; cases h1
        · rw [h1]; exact hQ
      · exact ya hE h hQ
  · rename_i hw; rw [hw]; cases h; exact hQ
  · cases h
def An (P : Program) (tt : Table) (nat : lH) (pure : lL) (live : sO) (Am : Al) (all : Array Oper) (base : Nat) : List Oper → List Pl → St → Option St
  | [], _, st => some st
  | o :: r, p :: ps, st => match CJ P tt nat pure live Am all base o p st with
    | some s => Mf (wT o) o.dst (Ek (base + p.key) o st) s fun s' => An P tt nat pure live Am all base r ps s'
    | none => none
  | _ :: _, [], _ => none
theorem sP {P : Program} {tt : Table} {nat : lH} (bh : jc P nat) {pure : lL} {live : sO} {Am : Al} (hp : pf P pure) (hl : x7 P live) (hE : Em P Am) {all : Array Oper} {base : Nat} {Q : St → Prop} : ∀ {l : List Oper} {ps : List Pl} {st s : St}, An P tt nat pure live Am all base l ps st = some s → Q s → runM P tt all base l ps st Q
  | [], _, st, s, h, hQ => by cases h; exact hQ
  | o :: r, p :: ps, st, s, h, hQ => by
    simp only [An] at h
    simp only [runM]
    split at h
    · rename_i s1 h1
      rw [pe] at h
      exact yb bh hp hl hE h1 (sP bh hp hl hE h hQ)
    · cases h
  | _ :: _, [], _, _, h, _ => by simp [An] at h

/-! ### code -/
mutual
def PS : V → Nat
  | .ms b _ _ _ | .ptr b _ | .fP b | .mp b | .dZ b _ _ _ => b + 1
  | .agg cs | .cC cs => Fz cs
  | .bp _ a b => max (Fz a) (Fz b)
  | _ => 0
def Fz : List V → Nat
  | [] => 0
  | c :: r => max (PS c) (Fz r)
end
def Za : aC → Nat
  | .box cs => Fz cs
  | .loop _ _ fr _ _ _ => Fz fr
  | .map bV _ => bV.foldr (fun k n => max (PS k.2.2) n) 0
  | .fh m _ _ _ => m + 1
  | _ => 0
def TC (l : List aC) : Nat := l.foldr (fun B n => max (Za B) n) 0
def PT : Nat → Nat → List aC → Nat
  | 0, n, _ => n
  | k + 1, n, mem => let m := max n (TC (mem.take n)); if m = n then n else PT k m mem
def TD (lo : Nat) (r : V) (mem : List aC) : Option (V × List aC) :=
  let n := PT 8 (max lo (PS r)) mem
  if lo ≤ n ∧ au n r = true ∧ (mem.take n).all (az n) = true then some (r, mem.take n) else none

def tu : Exit → Bool
  | .ret => true
  | .normal => true
  | _ => false
def En : Value → Value → Bool
  | .agg a, .agg b => kL a.toList b.toList
  | .tuple a, .tuple b => kL a.toList b.toList
  | .func (.func f) a b, .func (.func g) c d => f == g && a.isEmpty && b.isEmpty && c.isEmpty && d.isEmpty
  | a, b => xY a b
theorem Ao {a b : Value} (h : En a b = true) : a = b := by
  unfold En at h
  split at h
  · rename_i x y; rw [← Array.toArray_toList (xs := x), l6 h, Array.toArray_toList]
  · rename_i x y; rw [← Array.toArray_toList (xs := x), l6 h, Array.toArray_toList]
  · simp only [Bool.and_eq_true,beq_iff_eq,Array.isEmpty_iff] at h
    obtain ⟨⟨⟨⟨rfl, rfl⟩, rfl⟩, rfl⟩, rfl⟩ := h
    rfl
  · exact wM h
mutual
def il : V → V → Bool
  | .undef, .undef => true
  | .gn, .gn => true
  | .sc a, .sc b => En a b
  | .agg a, .agg b => fT a b
  | .cC a, .cC b => fT a b
  | .slice a, .slice b => fT a b
  | .full a, .full b => fT a b
  | .cH a, .cH b => fT a b
  | .ms a b c d, .ms a' b' c' d' => a == a' && b == b' && c == c' && d == d'
  | .ptr a b, .ptr a' b' => a == a' && b == b'
  | .dZ a b c d, .dZ a' b' c' d' => a == a' && b == b' && c == c' && d == d'
  | .mp a, .mp b => a == b
  | .fP a, .fP b => a == b
  | .bp (.func f) a b, .bp (.func g) c d => f == g && fT a c && fT b d
  | _, _ => false
def fT : List V → List V → Bool
  | [], [] => true
  | a :: r, b :: s => il a b && fT r s
  | _, _ => false
end
mutual
theorem qt : ∀ {a b : V}, il a b = true → a = b
  | .undef, b, h => by cases b <;> simp [il] at h <;> rfl
  | .gn, b, h => by cases b <;> simp [il] at h <;> rfl
  | .sc a, b, h => by
    cases b <;> simp only [il,Bool.false_eq_true] at h
    rw [Ao h]
  | .agg a, b, h => by
    cases b <;> simp only [il,Bool.false_eq_true] at h
    rw [dN h]
  | .cC a, b, h => by
    cases b <;> simp only [il,Bool.false_eq_true] at h
    rw [dN h]
  | .slice a, b, h => by
    cases b <;> simp only [il,Bool.false_eq_true] at h
    rw [dN h]
  | .full a, b, h => by
    cases b <;> simp only [il,Bool.false_eq_true] at h
    rw [dN h]
  | .cH a, b, h => by
    cases b <;> simp only [il,Bool.false_eq_true] at h
    rw [dN h]
  | .ms _ _ _ _, b, h => by
    cases b <;> simp only [il,Bool.false_eq_true,Bool.and_eq_true,beq_iff_eq] at h
    obtain ⟨⟨⟨rfl, rfl⟩, rfl⟩, rfl⟩ := h; rfl
  | .ptr _ _, b, h => by
    cases b <;> simp only [il,Bool.false_eq_true,Bool.and_eq_true,beq_iff_eq] at h
    obtain ⟨rfl, rfl⟩ := h; rfl
  | .dZ _ _ _ _, b, h => by
    cases b <;> simp only [il,Bool.false_eq_true,Bool.and_eq_true,beq_iff_eq] at h
    obtain ⟨⟨⟨rfl, rfl⟩, rfl⟩, rfl⟩ := h; rfl
  | .mp _, b, h => by
    cases b <;> simp only [il,Bool.false_eq_true,beq_iff_eq] at h
    rw [h]
  | .fP _, b, h => by
    cases b <;> simp only [il,Bool.false_eq_true,beq_iff_eq] at h
    rw [h]
  | .bp f a c, b, h => by
    cases b with
    | bp g a' c' =>
      cases f <;> cases g <;> simp only [il,Bool.false_eq_true,Bool.and_eq_true,beq_iff_eq] at h
      obtain ⟨⟨rfl, h1⟩, h2⟩ := h
      rw [dN h1, dN h2]
    | _ => cases f <;> simp [il] at h
theorem dN : ∀ {a b : List V}, fT a b = true → a = b
  | [], b, h => by cases b <;> simp [fT] at h <;> rfl
  | c :: r, b, h => by
    cases b with
    | nil => simp [fT] at h
    | cons d s =>
      simp only [fT,Bool.and_eq_true] at h
      rw [qt h.1, dN h.2]
end
def oc : List (Value × Nat × V) → List (Value × Nat × V) → Bool
  | [], [] => true
  | a :: r, b :: s => En a.1 b.1 && a.2.1 == b.2.1 && il a.2.2 b.2.2 && oc r s
  | _, _ => false
theorem uF : ∀ {a b : List (Value × Nat × V)}, oc a b = true → a = b
  | [], [], _ => rfl
  | (k, n, v) :: r, (k', n', v') :: s, h => by
    simp only [oc,Bool.and_eq_true,beq_iff_eq] at h
    obtain ⟨⟨⟨h1, h2⟩, h3⟩, h4⟩ := h
    rw [Ao h1, h2, qt h3, uF h4]
  | [], _ :: _, h => by simp [oc] at h
  | _ :: _, [], h => by simp [oc] at h
def HX : aC → aC → Bool
  | .hole, .hole => true
  | .dead, .dead => true
  | .j7, .j7 => true
  | .box a, .box b => fT a b
  | .rows v e a, .rows v' e' b => v == v' && e == e' && fT a b
  | .pV v e a, .pV v' e' b => v == v' && e == e' && fT a b
  | .map a c, .map b d => c == d && oc a b
  | .fh a b c d, .fh a' b' c' d' => a == a' && b == b' && c == c' && d == d'
  | _, _ => false
theorem HY {a b : aC} (h : HX a b = true) : a = b := by
  unfold HX at h
  split at h
  · rfl
  · rfl
  · rfl
  · rw [dN h]
  · simp only [Bool.and_eq_true,beq_iff_eq] at h; obtain ⟨⟨rfl, rfl⟩, h⟩ := h; rw [dN h]
  · simp only [Bool.and_eq_true,beq_iff_eq] at h; obtain ⟨⟨rfl, rfl⟩, h⟩ := h; rw [dN h]
  · simp only [Bool.and_eq_true,beq_iff_eq] at h; obtain ⟨rfl, h⟩ := h; rw [uF h]
  · simp only [Bool.and_eq_true,beq_iff_eq] at h; obtain ⟨⟨⟨rfl, rfl⟩, rfl⟩, rfl⟩ := h; rfl
  · cases h
def ny : List aC → List aC → Bool
  | [], [] => true
  | a :: r, b :: s => HX a b && ny r s
  | _, _ => false
theorem od : ∀ {a b : List aC}, ny a b = true → a = b
  | [], [], _ => rfl
  | x :: r, y :: s, h => by simp only [ny,Bool.and_eq_true] at h; rw [HY h.1, od h.2]
  | [], _ :: _, h => by simp [ny] at h
  | _ :: _, [], h => by simp [ny] at h
def dedup : List (V × List aC) → List (V × List aC)
  | [] => []
  | p :: r => if (dedup r).any (fun q => il p.1 q.1 && ny p.2 q.2) = true then dedup r else p :: dedup r
theorem oe : ∀ {l : List (V × List aC)} {p : V × List aC}, p ∈ l → p ∈ dedup l
  | q :: r, p, h => by
    simp only [dedup]
    split
    · rename_i b9
      rcases List.mem_cons.1 h with rfl | h
      · obtain ⟨q', h1, h2⟩ := List.any_eq_true.1 b9
        simp only [Bool.and_eq_true] at h2
        have : p = q' := Prod.ext (qt h2.1) (od h2.2)
        rw [this]; exact h1
      · exact oe h
    · rcases List.mem_cons.1 h with rfl | h
      · exact List.mem_cons_self ..
      · exact List.mem_cons_of_mem _ (oe h)
def Lu (P : Program) (tt : Table) (code : lI) : ij := fun f vs mem =>
  match P.funcs[f]? with
  | some fn => match fn.body with
    | some body => (lJ (Sf vs fun vs => HV mem fun mem => Mf true none [] (bA fn vs mem) fun s => code false body s) fun o => if tu o.1 = true then (match gU tt fn.results o.2 with
      | some r => fV r fun r => match TD mem.length r o.2.mem with | some p => HV p.2 fun m => some [(p.1, m)] | none => none
      | none => none) else none).map dedup
    | none => none
  | none => none
def sS (P : Program) (tt : Table) (code : lI) : lL := fun f vs =>
  match P.funcs[f]? with
  | some fn => match fn.body with
    | some body => match lJ (Sf vs fun vs => Mf true none [] (bA fn vs []) fun s => code false body s) fun o => if tu o.1 = true then (match qb tt fn.results o.2 with | some r => fV r fun r => some [r] | none => none) else none with
      | some (r :: rs) => if rs.all (il r) = true then some r else none
      | _ => none
    | none => none
  | none => none
def CK : List (V × List aC) → Option (Nat × Nat × List V)
  | [(.ms 0 v 0 l, [.rows v' e rs])] => if v' = v ∧ l = rs.length then some (v, e, rs) else none
  | [(.ms 0 v 0 0, [.rows v' e []]), (.sc (.slice none 0 0), [])] => if v' = v then some (v, e, []) else none
  | [(.sc (.slice none 0 0), []), (.ms 0 v 0 0, [.rows v' e []])] => if v' = v then some (v, e, []) else none
  | _ => none
theorem CL {outs : List (V × List aC)} {v e : Nat} {rs : List V} (h : CK outs = some (v, e, rs)) : ∀ r m, (r, m) ∈ outs → (r = .ms 0 v 0 rs.length ∧ m = [.rows v e rs]) ∨ (r = .sc (.slice none 0 0) ∧ m = [] ∧ rs = []) := by
  unfold CK at h
  split at h
  · split at h
    · rename_i hc; cases h; obtain ⟨rfl, rfl⟩ := hc
      intro r m hm; simp at hm; exact .inl hm
    · cases h
  · split at h
    · rename_i hc; cases h; subst hc
      intro r m hm; simp at hm
      rcases hm with ⟨rfl, rfl⟩ | ⟨rfl, rfl⟩
      · exact .inl ⟨rfl, rfl⟩
      · exact .inr ⟨rfl, rfl, rfl⟩
    · cases h
  · split at h
    · rename_i hc; cases h; subst hc
      intro r m hm; simp at hm
      rcases hm with ⟨rfl, rfl⟩ | ⟨rfl, rfl⟩
      · exact .inr ⟨rfl, rfl, rfl⟩
      · exact .inl ⟨rfl, rfl⟩
    · cases h
  · cases h
theorem cj.live {P : Program} {f : FuncId} {vs : List V} {R : V → List aC → Prop} {v e : Nat} {rs : List V} (h : cj P f vs [] R) (hR : ∀ r m, R r m → (r = .ms 0 v 0 rs.length ∧ m = [.rows v e rs]) ∨ (r = .sc (.slice none 0 0) ∧ m = [] ∧ rs = [])) : sI P f vs e rs := by
  refine ⟨v, h.1, fun E w xs hs hx => (h.2 E w xs hs hx).mono ?_⟩
  rintro en w' ⟨E', x, r, m, rfl, hr, ea, lS, jX⟩
  rcases hR r m hr with ⟨rfl, rfl⟩ | ⟨rfl, rfl, rfl⟩
  · exact ⟨E', x, rfl, ea, lS, jX⟩
  · obtain rfl := dk jX
    exact ⟨E', _, rfl, ea, by simpa using lS.qq v e, .eN _ _ _ _⟩
def HZ (P : Program) (tt : Table) (code : lI) : sO := fun f vs =>
  match Lu P tt code f vs [] with
  | some outs => match CK outs with | some (_, e, rs) => some (e, rs) | none => none
  | none => none
def H0 (lo : Nat) (b : Bool) (m : List aC) : Option (List (Bool × List aC)) :=
  let n := PT 8 lo m
  if lo ≤ n ∧ (m.take n).all (az n) = true then HV (m.take n) fun m => some [(b, m)] else none
theorem CM {lo : Nat} {b : Bool} {m : List aC} {x : List (Bool × List aC)} (h : H0 lo b m = some x) : ∃ n, lo ≤ n ∧ (m.take n).all (az n) = true ∧ (b, m.take n) ∈ x := by
  unfold H0 at h
  dsimp only at h
  split at h
  · rename_i hc; rw [l9] at h; cases h; exact ⟨_, hc.1, hc.2, by simp⟩
  · cases h
def Mj (code : lI) : Fu := fun k vs mem =>
  match mem[k]? with
  | some (.loop .ready none fr params assign body) =>
    if vs.length = params.size then
      lJ (Sf vs fun vs => Mf true none [] { fr := kM params.toList vs fr, mem := mem } fun s => code true assign s) fun o => match o.1, o.2.mem[k]? with
        | .normal, some (.loop .ready none N2 p1 L1 L2) =>
          lJ (Mf true none [] { o.2 with mem := o.2.mem.set k (.loop .busy none N2 p1 L1 L2) } fun s => code true body s) fun u => match nn u.1, u.2.mem[k]? with
            | some jump, some (.loop _ _ L3 p2 HB HC) =>
              H0 mem.length jump.isNone (u.2.mem.set k (.loop (if jump.isNone then .ready else .done) jump L3 p2 HB HC))
            | _, _ => none
        | _, _ => none
    else none
  | _ => none
def Mk : LoopState → Bool
  | .busy => false
  | _ => true

def rQ {α : Type} (f : α → Option (List (Exit × St))) : List α → Option (List (Exit × St))
  | [] => none
  | a :: r => match f a with | some x => some x | none => rQ f r
theorem sT {α : Type} {f : α → Option (List (Exit × St))} : ∀ {l : List α} {x : List (Exit × St)}, rQ f l = some x → ∃ a ∈ l, f a = some x
  | [], x, h => by cases h
  | a :: r, x, h => by
    simp only [rQ] at h
    split at h
    · rename_i hx; cases h; exact ⟨a, List.mem_cons_self .., hx⟩
    · obtain ⟨b, h1, h2⟩ := sT h; exact ⟨b, List.mem_cons_of_mem _ h1, h2⟩
def PU (jd : FuncId → List V → Option V) (pure : lL) : lL := fun f vs => match jd f vs with | some r => some r | none => pure f vs
theorem Ml {P : Program} {jd : FuncId → List V → Option V} {pure : lL} (h : lK P jd) (hp : pf P pure) : pf P (PU jd pure) := fun f vs r hr => by
  unfold PU at hr
  split at hr
  · rename_i r' h1; cases hr; exact h _ _ _ h1
  · exact hp _ _ _ hr
theorem aF.uG {P : Program} {f : FuncId} {vs : List V} {mem m m2 : List aC} {v v' : V} (h : aF P f vs mem v m)
    (step : ∀ (E : Env) (w : World) (x : Value), bH E w { tmps := #[], defers := [] } { fr := [], mem := m } → bC E v x → ∃ E2, bH E2 w { tmps := #[], defers := [] } { fr := [], mem := m2 } ∧ ec E w E2 w ∧ bC E2 v' x)
    (hv : au mem.length v' = true) (hm : (m2.take mem.length).all (az mem.length) = true) : aF P f vs mem v' (m2.take mem.length) := by
  refine ⟨h.1, fun E w xs hs hx => (h.2 E w xs hs hx).mono ?_⟩
  rintro e w' ⟨E', x, rfl, ea, lS, jX⟩
  obtain ⟨E2, s2, PV, HR⟩ := step E' w' x lS jX
  have he := ea.trans PV
  have hc := s2.cut (n := mem.length) rfl hm
  refine ⟨E2.cut mem.length, x, rfl, ⟨⟨he.le.F, fun k v t hk => ?_⟩, fun k v g e c hk => ?_, he.F, he.os, he.tape, he.output, he.size, he.heap⟩, hc, e9 HR hv⟩
  · have : k < mem.length := by
      rcases Nat.lt_or_ge k mem.length with aZ | gv
      · exact aZ
      · rw [hs.top k gv v] at hk; cases hk
    exact (if_pos this).trans (he.le.bd _ _ _ hk)
  · have : E2.bd k v = some (g, e, c) := by
      by_cases iE : k < mem.length
      · exact ((if_pos iE).symm.trans hk : E2.bd k v = _)
      · have h2 : (E2.cut mem.length).bd k v = none := if_neg iE
        rw [h2] at hk; cases hk
    exact he.bd _ _ _ _ _ this
theorem aF.PW {P : Program} {f : FuncId} {vs : List V} {mem m : List aC} {v v' : V} (h : aF P f vs mem v m) (hp : e8 m v = some v') (hv : au mem.length v' = true) (hm : ((aR m (cL v)).take mem.length).all (az mem.length) = true) :
    aF P f vs mem v' ((aR m (cL v)).take mem.length) := h.uG (fun E w x hs jX => by
  obtain ⟨E2, s2, PV, r2⟩ := hs.freeze (vs := [v]) (vs' := [v']) (by simp [dq, hp])
  have hr : [v].flatMap cL = cL v := by simp
  rw [hr] at s2
  obtain ⟨y, ys, hy, HR, -⟩ := (r2 [x] (.cons jX (.nil _))).of_cons
  cases hy
  exact ⟨E2, s2, PV, HR⟩) hv hm
def PX (n : Nat) (v : V) (m : List aC) : Option (V × List aC) :=
  if m.length = n then some (v, m) else match v with
    | .ptr k 0 => match m[k]? with
      | some (.box cs) => if n ≤ k ∧ cs.all eO = true ∧ ((m.set k .dead).take n).all (az n) = true then some (.cH cs, (m.set k .dead).take n) else none
      | _ => none
    | _ => match e8 m v with
      | some v' => if au n v' = true ∧ ((aR m (cL v)).take n).all (az n) = true then some (v', (aR m (cL v)).take n) else none
      | none => none
theorem Mm {P : Program} {f : FuncId} {vs : List V} {mem m0 m : List aC} {v0 v : V} (h : aF P f vs mem v0 m0) (BX : PX mem.length v0 m0 = some (v, m)) : aF P f vs mem v m := by
  unfold PX at BX
  split at BX
  · cases BX; exact h
  · split at BX
    · rename_i k
      split at BX
      · rename_i cs hk
        split at BX
        · rename_i wE
          cases BX
          refine h.uG (fun E w x hs jX => ?_) (by simp [au]) wE.2.2
          exact hs.PN jX hk wE.2.1
        · cases BX
      · cases BX
    · split at BX
      · rename_i w hw
        split at BX
        · rename_i wE
          cases BX
          exact h.PW hw wE.1 wE.2
        · cases BX
      · cases BX
def PY (call : ij) : Al := fun f vs k mem =>
  match mem[k]? with
  | some B0 => match call f vs mem with
    | some [(v0, m0)] => match PX mem.length v0 m0 with
      | some (v, m) => match m[k]? with
        | some B => if B0.b7 = 0 ∧ B.b7 = 0 ∧ ny m (mem.set k B) = true then some (v, B) else none
        | none => none
      | none => none
    | _ => none
  | none => none
theorem Mn {P : Program} {call : ij} (hc : fS P call) : Em P (PY call) := by
  intro f vs k mem v B h
  unfold PY at h
  split at h
  · rename_i B0 h0
    split at h
    · rename_i v0 m0 hf
      split at h
      · rename_i v' m BX
        split at h
        · rename_i B' hB
          split at h
          · rename_i mZ
            cases h
            obtain ⟨h1, h2, h3⟩ := mZ
            have e := od h3
            have h4 := hc f vs mem _ hf
            have h5 : aF P f vs mem v0 m0 := ⟨h4.1, fun E w xs hs hx => (h4.2 E w xs hs hx).mono fun e w' ⟨E', x, r', m', p1, p2, p4⟩ => by
              simp only [List.mem_singleton,Prod.mk.injEq] at p2
              obtain ⟨rfl, rfl⟩ := p2
              exact ⟨E', x, p1, p4⟩⟩
            refine ⟨B0, h0, h1, h2, ?_⟩
            rw [← e]
            exact Mm h5 BX
          · cases h
        · cases h
      · cases h
    · cases h
  · cases h
def H2 (ops : List Oper) (st : St) (x : Operand) : Option Nat :=
  match (match x with
    | .tmp t => (match ops.find? (fun o : Oper => o.dst == some t) with
      | some o => (match o.op with | .fieldAddr _ y _ => some (st.eval y) | .move y => some (st.eval y) | _ => none)
      | none => none)
    | _ => none) with
  | some (.ptr k _) => some k
  | _ => match st.eval x with
    | .ptr k _ => some k
    | _ => none
def Ap (ops : List Oper) (st : St) : List Oper → List Pl → List (Nat × Nat)
  | o :: r, p :: ps => if p.cls = .e ∧ 900 ≤ p.key then (match o.op with | .store _ x _ => (match H2 ops st x with | some k => (p.key, k) :: Ap ops st r ps | none => Ap ops st r ps) | _ => Ap ops st r ps) else Ap ops st r ps
  | _, _ => []
def Mo (mem : List aC) (w : Nat) : Nat := match mem[w]? with
  | some (.box cs) => match (cs[8]? : Option V) with
    | some (.bp _ _ _) => w
    | _ => match (cs[6]? : Option V) with
      | some (.bp _ _ [.ptr okk _, .ptr tk _]) => match (mem[tk]? : Option aC) with
        | some (.box [.bp _ _ [.ptr ik _]]) => match (mem[ik]? : Option aC) with
          | some (.box [.mp m]) => m
          | _ => okk
        | _ => okk
      | _ => w
  | _ => w
def yc (ops : List Oper) (st : St) : List Oper → List (Nat × Nat)
  | o :: r => match o.op with
    | .call { callee := .value _, args := xs, .. } => match xs.toList with
      | x :: _ => match H2 ops st x with
        | some w => [(99, Mo st.mem w)]
        | none => yc ops st r
      | [] => yc ops st r
    | _ => yc ops st r
  | [] => []
def TE (l : List (Nat × Nat)) (a : Nat) : Nat := match l.find? (fun p : Nat × Nat => p.1 == a) with
  | some p => p.2
  | none => a
def H3 (ops : Array Oper) (st : St) (pl : List Pl) : List Pl := match yc ops.toList st ops.toList ++ Ap ops.toList st ops.toList pl with
  | [] => pl
  | l => pl.map fun p => { p with key := if p.cls = .e then TE l p.key else p.key, abs := p.abs.map (TE l) }
def TF (mS call : ij) : ij := fun f vs mem => match mS f vs mem with
  | some r => some r
  | none => call f vs mem
theorem CN {P : Program} {mS call : ij} (ho : fS P mS) (hc : fS P call) : fS P (TF mS call) := fun f vs mem outs h => by
  unfold TF at h
  split at h
  · rename_i hr; cases h; exact ho _ _ _ _ hr
  · exact hc _ _ _ _ h
def X3 : ij := fun _ _ _ => none
theorem PZ {P : Program} : fS P X3 := fun _ _ _ _ h => by cases h
def Mp (P : Program) (tt : Table) (nat : lH) (jd : FuncId → List V → Option V) (mS : ij) (code : lI) (ops : Array Oper) (st : St) (p : List Pl × Nat) : Option (List (Exit × St)) :=
  if qn ops (H3 ops st p.1) = true then (match An P tt nat (PU jd (sS P tt code)) (HZ P tt code) (PY (TF mS (Lu P tt code))) ops st.mem.length ops.toList (H3 ops st p.1) { st with mem := st.mem ++ List.replicate p.2 .hole } with
    | some s => some [(.normal, s)]
    | none => none) else none
def k9 (P : Program) (tt : Table) (pl : Ae) (nat : lH) (jd : FuncId → List V → Option V) (mS : ij) (code : lI) : lI := fun ρ c st =>
  match c with
  | .skip => some [(.normal, st)]
  | .ret => some [(.ret, st)]
  | .exit id => some [(.exit id, st)]
  | .seq a b => lJ (code ρ a st) fun o => match o.1 with
    | .normal => code ρ b o.2
    | e => some [(e, o.2)]
  | .cond x a b => match st.eval x with
    | .sc (.bool t) => code ρ (if t = true then a else b) st
    | _ => none
  | .block id c => lJ (code ρ c st) fun o => match o.1 with
    | .exit j => if j = id then some [(.normal, o.2)] else some [(.exit j, o.2)]
    | e => some [(e, o.2)]
  | .loop c => lJ (code ρ c st) fun o => match o.1 with
    | .normal => code ρ (.loop c) o.2
    | e => some [(e, o.2)]
  | .region _ ops false => match Fx P tt nat jd (TF mS (Lu P tt code)) (Mj code) ops ops.toList st with
    | some l => some (l.map fun s => (.normal, s))
    | none => match Aj st with
      | some st' => lJ (Fx P tt nat jd (TF mS (Lu P tt code)) (Mj code) ops ops.toList st') fun s => some [(.normal, s)]
      | none => none
  | .region id ops true => match rQ (Mp P tt nat jd mS code ops st) (pl id ops) with
    | some x => some x
    | none => match Aj st with
      | some st' => rQ (Mp P tt nat jd mS code ops st') (pl id ops)
      | none => none
  | .rangeFunc f params assign body => if ρ = true then none else
    match bD (st.eval f) [.fP st.mem.length] with
    | some (g, vs) => lJ (Lu P tt code g vs (st.mem ++ [.loop .ready none st.fr params assign body])) fun o => match o.2[st.mem.length]? with
      | some (.loop s jV _ _ _ _) => if Mk s = true then (match jV with
        | none => Mf true none [] { st with mem := o.2.set st.mem.length .dead } fun s => some [(.normal, s)]
        | some c => Mf true none [] { st with mem := o.2.set st.mem.length .dead } fun s => code false c s) else none
      | _ => none
    | none => none
  | _ => none

def ev (P : Program) (tt : Table) (pl : Ae) (nat : lH) (jd : FuncId → List V → Option V) (mS : ij) (n : Nat) : lI := Nat.rec (fun _ _ _ => none) (fun _ r => k9 P tt pl nat jd mS r) n

def uH (P : Program) (code : lI) : Prop := ∀ b c st outs, code b c st = some outs → ∀ (ρ : Option Nat) (n0 : Nat) (Q : Exit → St → Prop), (b = true ∨ ρ = none) → (∀ o ∈ outs, Q o.1 o.2) → cD P ρ n0 c st Q

section
variable {P : Program} {tt : Table} {pl : Ae} {nat : lH} {jd : FuncId → List V → Option V} {mS : ij} (ht : TT P tt) (hm : P.follows .mixedOrders = true)
  (dz : ∀ (f : FuncId) (fn : Func) (body : Code), P.funcs[f]? = some fn → fn.body = some body → ∀ (xs : Array Value) (w : World), (callFunc f xs).run P w = .ok (.enter f xs) w)
include ht dz
theorem rR {code : lI} (Oa : uH P code) : fS P (Lu P tt code) := by
  intro f vs mem outs h
  unfold Lu at h
  split at h
  · rename_i fn hf
    split at h
    · rename_i body hb
      rw [Option.map_eq_some_iff] at h
      obtain ⟨acN, h, PG⟩ := h
      obtain ⟨l, h1, h2⟩ := ez h
      rw [x6, l9, pe] at h1
      refine HA ht hf hb (dz f fn body hf hb) (Oa _ _ _ _ h1 none _ _ (.inr rfl) fun o ho => ?_)
      obtain ⟨b, h3, h4⟩ := h2 o ho
      split at h3
      · rename_i he
        split at h3
        · rename_i r hr
          rw [Ah] at h3
          split at h3
          · rename_i p hp
            rw [l9] at h3
            cases h3
            unfold TD at hp
            dsimp only at hp
            split at hp
            · rename_i mZ
              cases hp
              refine ⟨?_, r, _, mZ.1, hr, mZ.2.1, mZ.2.2, by rw [← PG]; exact oe (h4 _ (by simp))⟩
              cases R2 : o.1 <;> simp [tu, R2] at he <;> simp
            · cases hp
          · cases h3
        · cases h3
      · cases h3
    · cases h
  · cases h
theorem Aq {code : lI} (Oa : uH P code) : pf P (sS P tt code) := by
  intro f vs r h
  unfold sS at h
  split at h
  · rename_i fn hf
    split at h
    · rename_i body hb
      split at h
      · rename_i r1 rs Hj
        split at h
        · rename_i cK
          cases h
          obtain ⟨l, h1, h2⟩ := ez Hj
          rw [x6, pe] at h1
          refine iS ht hf hb (dz f fn body hf hb) (Oa _ _ _ _ h1 none _ _ (.inr rfl) fun o ho => ?_)
          obtain ⟨b, h3, h4⟩ := h2 o ho
          split at h3
          · rename_i he
            split at h3
            · rename_i r2 hr
              rw [Ah] at h3
              cases h3
              have Cm : r2 = r := by
                rcases List.mem_cons.1 (h4 r2 (by simp)) with h | h
                · exact h
                · exact (qt (List.all_eq_true.1 cK _ h)).symm
              subst Cm
              refine ⟨?_, hr⟩
              cases R2 : o.1 <;> simp [tu, R2] at he <;> simp
            · cases h3
          · cases h3
        · cases h
      · cases h
    · cases h
  · cases h
theorem H4 {code : lI} (Oa : uH P code) : x7 P (HZ P tt code) := by
  intro f vs e rs h
  unfold HZ at h
  split at h
  · rename_i outs ho
    split at h
    · rename_i v e' jw hl
      cases h
      exact (rR ht dz Oa f vs [] outs ho).live fun r m hr => CL hl r m hr
    · cases h
  · cases h
omit ht dz in
theorem Eo {code : lI} (Oa : uH P code) : HU P (Mj code) := by
  intro k vs mem outs h
  unfold Mj at h
  split at h
  · rename_i fr params assign body hk
    split at h
    · rename_i hlen
      obtain ⟨l1, h1, h2⟩ := ez h
      rw [x6, pe] at h1
      refine qe hk hlen fun l => Oa _ _ _ _ h1 (some l) _ _ (.inl rfl) fun o ho => ?_
      obtain ⟨b, h3, h4⟩ := h2 o ho
      split at h3
      · rename_i N2 p1 L1 L2 he ff
        refine ⟨he, N2, p1, L1, L2, ff, ?_⟩
        obtain ⟨l2, h5, h6⟩ := ez h3
        rw [pe] at h5
        refine Oa _ _ _ _ h5 (some l) _ _ (.inl rfl) fun u hu => ?_
        obtain ⟨b2, h7, h8⟩ := h6 u hu
        split at h7
        · rename_i jump s2 XW L3 p2 HB HC hj iU
          obtain ⟨n, hn, Ll, kX⟩ := CM h7
          exact ⟨n, jump, s2, XW, L3, p2, HB, HC, hn, hj, iU, Ll, h4 _ (h8 _ kX)⟩
        · cases h7
      · cases h3
    · cases h
  · cases h

include hm in
theorem Ob (tg : lK P jd) (FA : fS P mS) (bh : jc P nat) : ∀ (n : Nat), uH P (ev P tt pl nat jd mS n) ∧ ∀ b c st outs, ev P tt pl nat jd mS n b (.loop c) st = some outs → ∀ (ρ : Option Nat) (n0 : Nat) (Q : Exit → St → Prop), (b = true ∨ ρ = none) → (∀ o ∈ outs, Q o.1 o.2) → iD P ρ n0 c n st Q := by
  intro n
  induction n with
  | zero => exact ⟨fun b c st outs h => by simp [ev] at h, fun b c st outs h => by simp [ev] at h⟩
  | succ n ih =>
    obtain ⟨Ep, ihl⟩ := ih
    have ig : ∀ b c st, ev P tt pl nat jd mS (n + 1) b c st = k9 P tt pl nat jd mS (ev P tt pl nat jd mS n) b c st := fun _ _ _ => rfl
    have loop : ∀ b c st outs, ev P tt pl nat jd mS (n + 1) b (.loop c) st = some outs → ∀ (ρ : Option Nat) (n0 : Nat) (Q : Exit → St → Prop), (b = true ∨ ρ = none) → (∀ o ∈ outs, Q o.1 o.2) → iD P ρ n0 c (n + 1) st Q := by
      intro b c st outs h ρ n0 Q hb hQ
      rw [ig] at h
      simp only [k9] at h
      obtain ⟨l, h1, h2⟩ := ez h
      refine Ep _ _ _ _ h1 ρ n0 _ hb fun o ho => ?_
      obtain ⟨e, s⟩ := o
      obtain ⟨b', h3, h4⟩ := h2 _ ho
      cases e with
      | normal => exact ihl _ _ _ _ h3 ρ n0 Q hb fun o' NM => hQ _ (h4 _ NM)
      | _ => cases h3; exact hQ (_, _) (h4 _ (by simp))
    refine ⟨fun b c st outs h ρ n0 Q hb hQ => ?_, loop⟩
    cases c with
    | skip => rw [ig] at h; cases h; exact bn (hQ (_, _) (by simp))
    | ret => rw [ig] at h; cases h; exact aY (hQ (_, _) (by simp))
    | exit id => rw [ig] at h; cases h; exact dy (hQ (_, _) (by simp))
    | seq x y =>
      rw [ig] at h
      simp only [k9] at h
      obtain ⟨l, h1, h2⟩ := ez h
      refine aS (Ep _ _ _ _ h1 ρ n0 _ hb fun o ho => ?_)
      obtain ⟨e, s⟩ := o
      obtain ⟨b', h3, h4⟩ := h2 _ ho
      cases e with
      | normal => exact Ep _ _ _ _ h3 ρ n0 Q hb fun o' NM => hQ _ (h4 _ NM)
      | _ => cases h3; exact hQ (_, _) (h4 _ (by simp))
    | cond x y z =>
      rw [ig] at h
      simp only [k9] at h
      split at h
      · rename_i t hx
        exact aL hx (Ep _ _ _ _ h ρ n0 Q hb hQ)
      · cases h
    | block id c =>
      rw [ig] at h
      simp only [k9] at h
      obtain ⟨l, h1, h2⟩ := ez h
      refine bf (Ep _ _ _ _ h1 ρ n0 _ hb fun o ho => ?_)
      obtain ⟨e, s⟩ := o
      obtain ⟨b', h3, h4⟩ := h2 _ ho
      cases e with
      | exit j =>
        dsimp only at h3
        simp only [fR]
        split at h3
        · rename_i hj; cases h3; rw [if_pos hj]; exact hQ (_, _) (h4 _ (by simp))
        · rename_i hj; cases h3; rw [if_neg hj]; exact hQ (_, _) (h4 _ (by simp))
      | _ => cases h3; exact hQ (_, _) (h4 _ (by simp))
    | loop c => exact ni (n + 1) (loop _ _ _ _ h ρ n0 Q hb hQ)
    | region id ops d =>
      rw [ig] at h
      cases d with
      | false =>
        simp only [k9] at h
        split at h
        · rename_i l h1
          cases h
          exact ja ht (mb tg bh (CN FA (rR ht dz Ep)) (Eo Ep) h1 fun s hs => hQ (_, _) (List.mem_map.2 ⟨s, hs, rfl⟩))
        · split at h
          · rename_i st' Hs
            obtain ⟨l, h1, h2⟩ := ez h
            refine uD Hs (ja ht (mb tg bh (CN FA (rR ht dz Ep)) (Eo Ep) h1 fun s hs => ?_))
            obtain ⟨b', h3, h4⟩ := h2 _ hs
            cases h3
            exact hQ (_, _) (h4 _ (by simp))
          · cases h
      | true =>
        simp only [k9] at h
        have one : ∀ (st : St) (outs : List (Exit × St)), (∀ o ∈ outs, Q o.1 o.2) → rQ (Mp P tt nat jd mS (ev P tt pl nat jd mS n) ops st) (pl id ops) = some outs → cD P ρ n0 (.region id ops true) st Q := fun st outs hQ h => by
          obtain ⟨p, -, hp⟩ := sT h
          unfold Mp at hp
          split at hp
          · rename_i dx
            split at hp
            · rename_i s hs
              cases hp
              exact lG ht hm (H3 ops st p.1) p.2 dx (sP bh (Ml tg (Aq ht dz Ep)) (H4 ht dz Ep) (Mn (CN FA (rR ht dz Ep))) hs (hQ (_, _) (by simp)))
            · cases hp
          · cases hp
        split at h
        · rename_i x hx; cases h; exact one st _ hQ hx
        · split at h
          · rename_i st' Hs
            exact uD Hs (one st' _ hQ h)
          · cases h
    | rangeFunc f params assign body =>
      rw [ig] at h
      simp only [k9] at h
      split at h
      · cases h
      · rename_i hbf
        have hρ : ρ = none := by rcases hb with h | h
                                 · exact absurd h hbf
                                 · exact h
        subst hρ
        split at h
        · rename_i g vs hg
          obtain ⟨l, h1, h2⟩ := ez h
          refine nr hg (rR ht dz Ep _ _ _ _ h1) fun r te hr => ?_
          obtain ⟨b', h3, h4⟩ := h2 _ hr
          dsimp only at h3
          split at h3
          · rename_i s jV Sa Lr Ls Lt Sb
            split at h3
            · rename_i rv
              refine ⟨s, jV, Sa, Lr, Ls, Lt, Sb, (fun e => by subst e; cases rv), ?_⟩
              split at h3
              · rw [pe] at h3; cases h3; exact hQ (_, _) (h4 _ (by simp))
              · rename_i c
                rw [pe] at h3
                exact Ep _ _ _ _ h3 none n0 Q (.inr rfl) fun o' NM => hQ _ (h4 _ NM)
            · cases h3
          · cases h3
        · cases h
    | _ => rw [ig] at h; simp [k9] at h

include hm in
theorem Oc (tg : lK P jd) (FA : fS P mS) (bh : jc P nat) (n : Nat) {f : FuncId} {vs : List V} {r : V} (h : sS P tt (ev P tt pl nat jd mS n) f vs = some r) : aT P f vs r := Aq ht dz (Ob ht hm dz tg FA bh n).1 f vs r h
include hm in
theorem P0 (tg : lK P jd) (FA : fS P mS) (bh : jc P nat) (n : Nat) {f : FuncId} {vs : List V} {mem : List aC} {outs : List (V × List aC)} (h : Lu P tt (ev P tt pl nat jd mS n) f vs mem = some outs) : cj P f vs mem fun r m => (r, m) ∈ outs := rR ht dz (Ob ht hm dz tg FA bh n).1 f vs mem outs h
end
def Zb (P : Program) : Bool := P.funcs.all fun fn => fn.name != "runtime.NumGoroutine"
theorem H5 {P : Program} (h : Zb P = true) (f : FuncId) (fn : Func) (body : Code) (hf : P.funcs[f]? = some fn) (hb : fn.body = some body) (xs : Array Value) (w : World) : (callFunc f xs).run P w = .ok (.enter f xs) w := by
  have aZ : f < P.funcs.size := (Array.getElem?_eq_some_iff.1 hf).1
  have hn := (Array.all_eq_true.1 h) f aZ
  have hfe : P.funcs[f] = fn := (Array.getElem?_eq_some_iff.1 hf).2
  rw [hfe] at hn
  have ch : (fn.name == "runtime.NumGoroutine") = false := by simpa using hn
  simp only [callFunc,program,Sem.run_bind]
  show (match P.funcs[f]? with | none => _ | some fn => _ : Sem Next).run P w = _
  rw [hf]
  dsimp only
  rw [ch, hb]
  rfl
def P1 (l : List (Nat × Nat × Nat × List Pl)) : Ae := fun id ops =>
  (l.filter fun e => e.1 == id && e.2.1 == ops.size).map fun e => (e.2.2.2, e.2.2.1)
def CO : List V → Option V
  | [.sc (.string a), .sc (.string b)] => if 2 ≤ b.size ∧ E7 b.size = true ∧ a.size < 4294967281 then
      (match (List.range (a.size + 1 - b.size)).find? fun i => a.extract i (i + b.size) == b with
        | some i => some (.sc (.int .i64 i))
        | none => some (.sc (.int .i64 (-1)))) else none
  | _ => none
theorem FD {P : Program} {f : FuncId} {fn : Func} {g : Nat} (hf : P.funcs[f]? = some fn) (hn : (fn.name == "runtime.NumGoroutine") = false) (hb : fn.body = none) (H6 : Extern.findNext fn = none) (zb : Extern.find fn = some Extern.BytealgIndex.index)
    (hg : ∀ w, (globalAddr "internal/bytealg.MaxLen").run P w = .ok ⟨g, 0, none⟩ w) (hG : aA.g = some g) {vs : List V} {r : V} (h : CO vs = some r) : m9 P f vs r := fun E w xs hF hx => by
  unfold CO at h
  split at h
  · rename_i a b
    split at h
    · rename_i hc
      obtain ⟨h2, hm, ha⟩ := hc
      rw [xy] at hm
      have hm : (b.size : Int) ≤ aA.n := by simpa using hm
      obtain ⟨x, r1, hy, Cg, hx⟩ := hx.of_cons
      obtain ⟨y, r2, hz, Cm, hx⟩ := hx.of_cons
      have := hx.of_nil
      subst this; subst hz
      obtain rfl := dk Cg
      obtain rfl := dk Cm
      obtain rfl : xs = #[.string a, .string b] := by rw [← Array.toArray_toList (xs := xs), hy]
      have p6 : w.cell? ⟨g, 0, none⟩ = some (.int .i64 aA.n) := hF _ _ (E.gl.n g hG)
      have Zc : Extern.BytealgIndex.maxLen.run P w = .ok aA.n w := by
        simp [Extern.BytealgIndex.maxLen, hg, load, Sem.run, p6, asInt, asIntOf]
      have dE : (Extern.BytealgIndex.index #[.string a, .string b]).run P w = .ok (match (List.range (a.size + 1 - b.size)).find? fun i => a.extract i (i + b.size) == b with | some i => goInt i | none => goInt (-1)) w := by
        show (do
          let a ← Extern.Bytes.bytesOf (.string a)
          let b ← Extern.Bytes.bytesOf (.string b)
          if b.size < 2 || (b.size : Int) > (← Extern.BytealgIndex.maxLen) then
            unsupported (.noEntry "extern/internal/bytealg.Index.length")
          if a.size ≥ 2 ^ 32 - 15 then
            unsupported (.noEntry "extern/internal/bytealg.Index: a haystack of 2^32 - 15 bytes or more")
          match (List.range (a.size + 1 - b.size)).find? fun i => a.extract i (i + b.size) == b with
          | some i => pure (goInt i)
          | none => pure (goInt (-1)) : Sem Value).run P w = _
        have e1 : (decide (b.size < 2)) = false := by simp; omega
        have e2 : decide ((b.size : Int) > aA.n) = false := by simp; omega
        have e3 : ¬ a.size ≥ 2 ^ 32 - 15 := by omega
        simp only [Extern.Bytes.bytesOf,Sem.run_bind,Sem.run_pure,Result.andThen_ok,Zc,e1,e2,Bool.or_self,Bool.false_eq_true,if_false,e3]
        split <;> rfl
      refine ⟨(match (List.range (a.size + 1 - b.size)).find? fun i => a.extract i (i + b.size) == b with | some i => goInt i | none => goInt (-1)), ?_, ?_⟩
      · simp only [callFunc,program,Sem.run_bind]
        show (match P.funcs[f]? with | none => _ | some fn => _ : Sem Next).run P w = _
        rw [hf]
        dsimp only
        rw [hn, hb]
        simp only [Bool.false_eq_true,if_false,Option.isNone_none,if_true,H6,zb,Sem.run_bind,mark,Sem.run,Result.andThen_ok]
        rw [dE]; rfl
      · split at h
        · cases h; exact .sc _ _
        · cases h; exact .sc _ _
    · cases h
  · cases h
end Go.Eng
end
