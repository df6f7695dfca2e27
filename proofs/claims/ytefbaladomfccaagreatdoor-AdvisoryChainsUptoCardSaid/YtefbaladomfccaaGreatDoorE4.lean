/-
  THE ENGINE, V: the engine as a function: what a closed call comes to, by computing.
-/
import Derived.Test.YtefbaladomfccaaGreatDoorE3
set_option linter.all false
section
namespace Go.Eng
variable [Glob]

abbrev Plans := Nat → Array Oper → List (List Pl × Nat)
abbrev CallF := FuncId → List V → List Blk → Option (List (V × List Blk))
abbrev NatF := FuncId → List V → Option V
def NatFOk (P : Program) (nat : NatF) : Prop := ∀ f vs r, nat f vs = some r → NatOk P f vs r
abbrev YldF := Nat → List V → List Blk → Option (List (Bool × List Blk))
abbrev CodeF := Bool → Code → St → Option (List (Exit × St))

def bindO {α β : Type} (x : Option (List α)) (f : α → Option (List β)) : Option (List β) :=
  match x with
  | none => none
  | some l => l.foldr (fun a acc => match f a, acc with | some b, some c => some (b ++ c) | _, _ => none) (some [])
theorem bindO_mem {α β : Type} {f : α → Option (List β)} : ∀ {l : List α} {out : List β}, bindO (some l) f = some out → ∀ a ∈ l, ∃ b, f a = some b ∧ ∀ x ∈ b, x ∈ out
  | [], _, _, a, ha => by simp at ha
  | c :: r, out, h, a, ha => by
    simp only [bindO,List.foldr_cons] at h
    split at h
    · rename_i b t hb hc
      cases h
      rcases List.mem_cons.1 ha with rfl | ha
      · exact ⟨b, hb, fun x hx => List.mem_append_left _ hx⟩
      · obtain ⟨b', h1, h2⟩ := bindO_mem (l := r) (out := t) hc a ha
        exact ⟨b', h1, fun x hx => List.mem_append_right _ (h2 x hx)⟩
    · cases h
theorem bindO_some {α β : Type} {x : Option (List α)} {f : α → Option (List β)} {out : List β} (h : bindO x f = some out) : ∃ l, x = some l ∧ ∀ a ∈ l, ∃ b, f a = some b ∧ ∀ y ∈ b, y ∈ out := by
  cases x with
  | none => cases h
  | some l => exact ⟨l, rfl, bindO_mem h⟩

def nextF (st : St) (it : V) (str : Bool) : Option (List (V × List Blk)) :=
  match it with
  | .ptr b 0 => match st.mem[b]? with
    | some (.miter m since seen last) => match st.mem[m]? with
      | some (.map kvs clock) => if str = false ∧ stuckAt kvs seen last = false then
          some ((if (oldOf kvs seen since).isEmpty then [(overV, st.mem)] else []) ++
            (oldOf kvs seen since ++ newOf kvs seen since).map fun e => (nextE e, st.mem.set b (.miter m since (seen ++ [e.2.1]) clock)))
        else none
      | _ => none
    | some (.siter s pos) => if str = true then (if pos < s.size then some [(runeE s pos, st.mem.set b (.siter s (pos + (Utf8.decode s pos).2)))] else some [(overV, st.mem)]) else none
    | some .niter => if str = false then some [(overV, st.mem)] else none
    | _ => none
  | _ => none
theorem one_of {α : Type} {Q : α → Prop} {a : α} (h : ∀ p ∈ [a], Q p) : Q a := h a (List.mem_singleton.2 rfl)
theorem nextF_sound {st : St} {dst : Option Tmp} {it : V} {str : Bool} {outs : List (V × List Blk)} {Q : St → Prop} (h : nextF st it str = some outs) (hQ : ∀ p ∈ outs, Q (St.put { st with mem := p.2 } dst p.1)) : nextQ st dst it str Q := by
  unfold nextF at h
  unfold nextQ
  split at h
  · split at h
    · rename_i h1
      simp only [h1]
      split at h
      · rename_i h2
        simp only [h2]
        split at h
        · rename_i h3
          cases h
          refine ⟨h3.1, h3.2, fun he => ?_, fun e he => ?_⟩
          · have := hQ (overV, st.mem) (by rw [he]; exact List.mem_append_left _ (List.mem_singleton.2 rfl)); exact this
          · have := hQ _ (List.mem_append_right _ (List.mem_map.2 ⟨e, he, rfl⟩)); exact this
        · cases h
      · cases h
    · rename_i h1
      simp only [h1]
      split at h
      · rename_i h3
        refine ⟨h3, ?_⟩
        split at h
        · rename_i h4; cases h; rw [if_pos h4]; exact (by have h9 := one_of hQ; exact h9)
        · rename_i h4; cases h; rw [if_neg h4]; exact (by have h9 := one_of hQ; exact h9)
      · cases h
    · rename_i h1
      simp only [h1]
      split at h
      · rename_i h3
        cases h
        exact ⟨h3, (by have h9 := one_of hQ; exact h9)⟩
      · cases h
    · cases h
  · cases h

def orcF (orc : FuncId → List V → Option V) (g : FuncId) (vs : List V) (st : St) : Option (V × List Blk) :=
  match purL st.mem vs with
  | some vs' => match orc g vs' with
    | some r => some (r, memAfter st.mem (vs.flatMap ref1) r)
    | none => none
  | none => none
def OrcOk (P : Program) (orc : FuncId → List V → Option V) : Prop := ∀ f vs r, orc f vs = some r → FnOk P f vs r
def stepF (P : Program) (tt : Table) (nat : NatF) (orc : FuncId → List V → Option V) (call : CallF) (yld : YldF) (key : Nat) (o : Oper) (st : St) : Option (List (V × List Blk)) :=
  match o.op with
  | .alloc T => match tt T with
    | some i => some [((.ptr key 0), setMem st.mem key (.box (i.zero.map V.sc)))]
    | none => none
  | .box _ x => match cellsV (st.eval x) with
    | some cs => some [((.ptr key 0), setMem st.mem key (.box cs))]
    | none => none
  | .build T parts => match buildV P tt T parts.toList st.eval with
    | some v => some [(v, st.mem)]
    | none => none
  | .buildSlice T len parts => match litV tt T len parts.toList st.eval with
    | some (size, rs) => some [((.ms key 0 0 len), setMem st.mem key (.rows 0 size rs))]
    | none => match litP tt T len parts.toList st with
      | some (size, rs) => some [((.ms key 0 0 len), setMem (frzAll st.mem (keysOf st.eval parts.toList)) key (.rows 0 size rs))]
      | none => none
  | .store T p x => match storeV tt st.mem T (st.eval p) (st.eval x) with
    | some mem' => some [((.sc undef), mem')]
    | none => match storeP tt st.mem T (st.eval p) (st.eval x) with
      | some mem' => some [((.sc undef), mem')]
      | none => none
  | .call { callee := .builtin .append, args := xs, argTypes := ts } => match xs.toList.map st.eval with
    | [s, x] => match appendV tt st.mem ts.toList s x with
      | some (size, old, rows) => some [((appOut st.mem key size rows old).2, (appOut st.mem key size rows old).1)]
      | none => none
    | _ => none
  | .call { callee := .value f, args := xs, .. } => match st.eval f with
    | .yld k => match yld k (xs.toList.map st.eval) st.mem with
      | some outs => some (outs.map fun p => ((.sc (.bool p.1)), p.2))
      | none => none
    | fv => match calleeOf fv (xs.toList.map st.eval) with
      | some (g, vs) => match orcF orc g vs st with
        | some (r, mem') => some [(r, mem')]
        | none => match call g vs st.mem with
          | some outs => some (outs.map fun p => (p.1, p.2))
          | none => match nat g vs with
            | some r => some [(r, st.mem)]
            | none => none
      | none => none
  | .makeSlice T l c => match makeV tt T (st.eval l) (st.eval c) with
    | some (size, rs, _) => some [((.ms key 0 0 rs.length), setMem st.mem key (.rows 0 size rs))]
    | none => none
  | .makeMap _ none => some [((.mp key), setMem st.mem key (.map [] 0))]
  | .mapUpdate T m k x => match insertV P st.mem T (st.eval m) (st.eval k) (st.eval x) with
    | some mem' => some [((.sc undef), mem')]
    | none => none
  | .insert T m k x => match insertV P st.mem T (st.eval m) (st.eval k) (st.eval x) with
    | some mem' => some [((.sc undef), mem')]
    | none => none
  | .mapEntry T m k => match entryV P st.mem T (st.eval m) (st.eval k) with
    | some (mem', v) => some [(v, mem')]
    | none => none
  | .entryStore _ m s x => match stampV st.mem (st.eval m) (st.eval s) (st.eval x) with
    | some mem' => some [((.sc undef), mem')]
    | none => none
  | .call { callee := .builtin .delete, args := xs, argTypes := ts } => match deleteV P st.mem ts (xs.toList.map st.eval) with
    | some mem' => some [((.sc (.tuple #[])), mem')]
    | none => none
  | .range T x => match rangeBlk P st.mem T (st.eval x) with
    | some B => some [((.ptr key 0), setMem st.mem key B)]
    | none => none
  | .next it str => nextF st (st.eval it) str
  | .binOp op T x y _ => match nilLen tt op T (st.eval x) (st.eval y) with
    | some n => if n = 0 then some [((.sc (.bool (nilAns op false))), st.mem), ((.sc (.bool (nilAns op true))), st.mem)] else some [((.sc (.bool (nilAns op false))), st.mem)]
    | none => match opV P tt st o with
      | some v => some [(v, st.mem)]
      | none => none
  | _ => match opV P tt st o with
    | some v => some [(v, st.mem)]
    | none => none

def CallOk (P : Program) (call : CallF) : Prop := ∀ f vs mem outs, call f vs mem = some outs → FnOkR P f vs mem fun r m => (r, m) ∈ outs
def YldOk (P : Program) (yld : YldF) : Prop := ∀ k vs mem outs, yld k vs mem = some outs → YOkR P k vs mem fun b m => (b, m) ∈ outs

theorem stepF_sound {P : Program} {tt : Table} {nat : NatF} {orc : FuncId → List V → Option V} {call : CallF} {yld : YldF} (hor : OrcOk P orc) (hna : NatFOk P nat) (hc : CallOk P call) (hy : YldOk P yld) {key : Nat} {o : Oper} {st : St} {outs : List (V × List Blk)} {Q : St → Prop} (h : stepF P tt nat orc call yld key o st = some outs) (hQ : ∀ p ∈ outs, Q (St.put { st with mem := p.2 } o.dst p.1)) :
    stepOp P tt key o st Q := by
  unfold stepF at h
  unfold stepOp
  split at h
  · rename_i heq; rw [heq]; dsimp only
    split at h
    · rename_i h1; cases h; rw [h1]; exact (by have h9 := one_of hQ; exact h9)
    · cases h
  · rename_i heq; rw [heq]; dsimp only
    split at h
    · rename_i h1; cases h; rw [h1]; exact (by have h9 := one_of hQ; exact h9)
    · cases h
  · rename_i heq; rw [heq]; dsimp only
    split at h
    · rename_i h1; cases h; rw [h1]; exact (by have h9 := one_of hQ; exact h9)
    · cases h
  · rename_i heq; rw [heq]; dsimp only
    split at h
    · rename_i h1; cases h; rw [h1]; exact (by have h9 := one_of hQ; exact h9)
    · rename_i h0
      rw [h0]; dsimp only
      split at h
      · rename_i h1; cases h; rw [h1]; exact (by have h9 := one_of hQ; exact h9)
      · cases h
  · rename_i heq; rw [heq]; dsimp only
    split at h
    · rename_i h1; cases h; rw [h1]; exact (by have h9 := one_of hQ; exact h9)
    · rename_i h0
      rw [h0]; dsimp only
      split at h
      · rename_i h1; cases h; rw [h1]; exact (by have h9 := one_of hQ; exact h9)
      · cases h
  · rename_i heq; rw [heq]; dsimp only
    split at h
    · rename_i h0
      rw [h0]; dsimp only
      split at h
      · rename_i h1; cases h; rw [h1]; exact (by have h9 := one_of hQ; exact h9)
      · cases h
    · cases h
  · rename_i heq; rw [heq]; dsimp only
    split at h
    · rename_i k hk
      rw [hk]; dsimp only
      split at h
      · rename_i os ho
        cases h
        exact .inr ⟨_, hy _ _ _ _ ho, fun b m hm => (by have := hQ _ (List.mem_map.2 ⟨_, hm, rfl⟩); exact this)⟩
      · cases h
    · rename_i fv hfv
      split at h
      · rename_i g vs hg
        split at h
        · rename_i r mem' hor'
          cases h
          unfold orcF at hor'
          split at hor'
          · rename_i vs' hvs
            split at hor'
            · rename_i r1 hr1
              cases hor'
              split
              · rename_i k hk; exact absurd hk (hfv k)
              · rw [hg]; exact .inl ⟨vs', _, hvs, hor _ _ _ hr1, (by have h9 := one_of hQ; exact h9)⟩
            · cases hor'
          · cases hor'
        · split at h
          · rename_i os ho
            cases h
            split
            · rename_i k hk; exact absurd hk (hfv k)
            · rw [hg]; exact .inr (.inr (.inl ⟨_, hc _ _ _ _ ho, fun b m hm => (by have := hQ _ (List.mem_map.2 ⟨_, hm, rfl⟩); exact this)⟩))
          · split at h
            · rename_i r hr
              cases h
              split
              · rename_i k hk; exact absurd hk (hfv k)
              · rw [hg]; exact .inr (.inr (.inr ⟨r, hna _ _ _ hr, (by have h9 := one_of hQ; exact h9)⟩))
            · cases h
      · cases h
  · rename_i heq; rw [heq]; dsimp only
    split at h
    · rename_i h1; cases h; rw [h1]; exact (by have h9 := one_of hQ; exact h9)
    · cases h
  · rename_i heq; rw [heq]; dsimp only; cases h; exact (by have h9 := one_of hQ; exact h9)
  · rename_i heq; rw [heq]; dsimp only
    split at h
    · rename_i h1; cases h; rw [h1]; exact (by have h9 := one_of hQ; exact h9)
    · cases h
  · rename_i heq; rw [heq]; dsimp only
    split at h
    · rename_i h1; cases h; rw [h1]; exact (by have h9 := one_of hQ; exact h9)
    · cases h
  · rename_i heq; rw [heq]; dsimp only
    split at h
    · rename_i h1; cases h; rw [h1]; exact (by have h9 := one_of hQ; exact h9)
    · cases h
  · rename_i heq; rw [heq]; dsimp only
    split at h
    · rename_i h1; cases h; rw [h1]; exact (by have h9 := one_of hQ; exact h9)
    · cases h
  · rename_i heq; rw [heq]; dsimp only
    split at h
    · rename_i h1; cases h; rw [h1]; exact (by have h9 := one_of hQ; exact h9)
    · cases h
  · rename_i heq; rw [heq]; dsimp only
    split at h
    · rename_i h1; cases h; rw [h1]; exact (by have h9 := one_of hQ; exact h9)
    · cases h
  · rename_i heq; rw [heq]; dsimp only
    exact nextF_sound h hQ
  · rename_i heq; rw [heq]; dsimp only
    split at h
    · rename_i n hn
      rw [hn]; dsimp only
      intro b hb
      split at h
      · cases h; cases b
        · have := hQ _ (List.mem_cons_self ..); exact this
        · have := hQ _ (List.mem_cons_of_mem _ (List.mem_singleton.2 rfl)); exact this
      · rename_i h0; cases h; rw [hb h0]; exact (by have h9 := one_of hQ; exact h9)
    · rename_i hn
      rw [hn]; dsimp only
      split at h
      · rename_i h1; cases h; rw [h1]; exact (by have h9 := one_of hQ; exact h9)
      · cases h
  · split at h
    · rename_i h1
      cases h
      split <;> first | (rw [h1]; exact (by have h9 := one_of hQ; exact h9)) | (exfalso; solve_by_elim)
    · cases h

/-! ### what is computed is written out before it is handed on (the kernel would reckon it anew at each look) -/
def fSp {α β : Type} : List α → (List α → β) → β
  | [], k => k []
  | c :: r, k => fSp r fun r' => k (c :: r')
theorem fSp_eq {α β : Type} : ∀ (l : List α) (k : List α → β), fSp l k = k l
  | [], _ => rfl
  | c :: r, k => by rw [fSp, fSp_eq r]
def fNat {β : Type} (n : Nat) (k : Nat → β) : β := Nat.casesOn n (k 0) fun m => k (Nat.succ m)
theorem fNat_eq {β : Type} (n : Nat) (k : Nat → β) : fNat n k = k n := by cases n <;> rfl
def fInt {β : Type} (n : Int) (k : Int → β) : β := match n with | .ofNat m => fNat m fun m' => k (.ofNat m') | .negSucc m => fNat m fun m' => k (.negSucc m')
theorem fInt_eq {β : Type} (n : Int) (k : Int → β) : fInt n k = k n := by cases n <;> simp only [fInt,fNat_eq]
def fBytes {β : Type} (s : ByteArray) (k : ByteArray → β) : β := fSp s.data.toList fun l => k ⟨⟨l⟩⟩
theorem fBytes_eq {β : Type} (s : ByteArray) (k : ByteArray → β) : fBytes s k = k s := by rw [fBytes, fSp_eq]
def fVal {β : Type} (v : Value) (k : Value → β) : β :=
  match v with
  | .bool true => k (.bool true)
  | .bool false => k (.bool false)
  | .int t n => fInt n fun n' => k (.int t n')
  | .string s => fBytes s fun s' => k (.string s')
  | v => k v
theorem fVal_eq {β : Type} (v : Value) (k : Value → β) : fVal v k = k v := by
  unfold fVal
  split
  · rfl
  · rfl
  · rw [fInt_eq]
  · rw [fBytes_eq]
  · rfl
def fW {β : Type} (v : V) (k : V → β) : β :=
  match v with
  | .undef => k .undef
  | .sc v => k (.sc v)
  | .agg cs => k (.agg cs)
  | .slice r => k (.slice r)
  | .ms a b c d => k (.ms a b c d)
  | .ptr a b => k (.ptr a b)
  | .rptr a b c d => k (.rptr a b c d)
  | .eptr cs => k (.eptr cs)
  | .clo f a b => k (.clo f a b)
  | .tup l => k (.tup l)
  | .yld a => k (.yld a)
  | .mp a => k (.mp a)
  | .gn => k .gn
  | .full r => k (.full r)
theorem fW_eq {β : Type} (v : V) (k : V → β) : fW v k = k v := by cases v <;> rfl
def fWs {β : Type} : List V → (List V → β) → β
  | [], k => k []
  | c :: r, k => fW c fun c' => fWs r fun r' => k (c' :: r')
theorem fWs_eq {β : Type} : ∀ (l : List V) (k : List V → β), fWs l k = k l
  | [], _ => rfl
  | c :: r, k => by rw [fWs, fW_eq, fWs_eq r]
mutual
def fV {β : Type} : V → (V → β) → β
  | .undef, k => k .undef
  | .gn, k => k .gn
  | .sc v, k => fVal v fun v' => k (.sc v')
  | .agg cs, k => fVs cs fun cs' => k (.agg cs')
  | .tup cs, k => fVs cs fun cs' => k (.tup cs')
  | .slice cs, k => fVs cs fun cs' => k (.slice cs')
  | .full cs, k => fVs cs fun cs' => k (.full cs')
  | .eptr cs, k => fVs cs fun cs' => k (.eptr cs')
  | .clo f a b, k => fVs a fun a' => fVs b fun b' => k (.clo f a' b')
  | .ms a b c d, k => fNat a fun a' => fNat b fun b' => fNat c fun c' => fNat d fun d' => k (.ms a' b' c' d')
  | .ptr a b, k => fNat a fun a' => fNat b fun b' => k (.ptr a' b')
  | .rptr a b c d, k => fNat a fun a' => fNat b fun b' => fNat c fun c' => fNat d fun d' => k (.rptr a' b' c' d')
  | .yld a, k => fNat a fun a' => k (.yld a')
  | .mp a, k => fNat a fun a' => k (.mp a')
def fVs {β : Type} : List V → (List V → β) → β
  | [], k => k []
  | c :: r, k => fV c fun c' => fVs r fun r' => k (c' :: r')
end
mutual
theorem fV_eq {β : Type} : ∀ (v : V) (k : V → β), fV v k = k v
  | .undef, _ => by rw [fV]
  | .gn, _ => by rw [fV]
  | .sc v, k => by rw [fV, fVal_eq]
  | .agg cs, k => by rw [fV, fVs_eq cs]
  | .tup cs, k => by rw [fV, fVs_eq cs]
  | .slice cs, k => by rw [fV, fVs_eq cs]
  | .full cs, k => by rw [fV, fVs_eq cs]
  | .eptr cs, k => by rw [fV, fVs_eq cs]
  | .clo f a b, k => by rw [fV, fVs_eq a, fVs_eq b]
  | .ms a b c d, k => by rw [fV, fNat_eq, fNat_eq, fNat_eq, fNat_eq]
  | .ptr a b, k => by rw [fV, fNat_eq, fNat_eq]
  | .rptr a b c d, k => by rw [fV, fNat_eq, fNat_eq, fNat_eq, fNat_eq]
  | .yld a, k => by rw [fV, fNat_eq]
  | .mp a, k => by rw [fV, fNat_eq]
theorem fVs_eq {β : Type} : ∀ (l : List V) (k : List V → β), fVs l k = k l
  | [], _ => by rw [fVs]
  | c :: r, k => by rw [fVs, fV_eq c, fVs_eq r]
end
def fKvs {β : Type} : List (Value × Nat × V) → (List (Value × Nat × V) → β) → β
  | [], k => k []
  | (a, n, v) :: r, k => fVal a fun a' => fNat n fun n' => fV v fun v' => fKvs r fun r' => k ((a', n', v') :: r')
theorem fKvs_eq {β : Type} : ∀ (l : List (Value × Nat × V)) (k : List (Value × Nat × V) → β), fKvs l k = k l
  | [], _ => rfl
  | (a, n, v) :: r, k => by rw [fKvs, fVal_eq, fNat_eq, fV_eq, fKvs_eq r]
def fB {β : Type} (B : Blk) (k : Blk → β) : β :=
  match B with
  | .hole => k .hole
  | .dead => k .dead
  | .niter => k .niter
  | .box cs => fVs cs fun cs' => k (.box cs')
  | .rows v e rs => fNat v fun v' => fNat e fun e' => fVs rs fun rs' => k (.rows v' e' rs')
  | .frz v e rs => fNat v fun v' => fNat e fun e' => fVs rs fun rs' => k (.frz v' e' rs')
  | .loop s p fr ps a b => k (.loop s p fr ps a b)
  | .map kvs c => fKvs kvs fun kvs' => fNat c fun c' => k (.map kvs' c')
  | .miter a b c d => fNat a fun a' => fNat b fun b' => fSp c fun c' => fNat d fun d' => k (.miter a' b' c' d')
  | .siter s p => fNat p fun p' => k (.siter s p')
theorem fB_eq {β : Type} (B : Blk) (k : Blk → β) : fB B k = k B := by
  cases B <;> simp only [fB,fVs_eq,fNat_eq,fKvs_eq,fSp_eq]
def fMem {β : Type} : List Nat → List Blk → (List Blk → β) → β
  | [], m, k => fSp m k
  | i :: r, m, k => match m[i]? with
    | some B => fB B fun B' => fMem r (m.set i B') k
    | none => fMem r m k
theorem fMem_eq {β : Type} : ∀ (ks : List Nat) (m : List Blk) (k : List Blk → β), fMem ks m k = k m
  | [], m, k => fSp_eq m k
  | i :: r, m, k => by
    simp only [fMem]
    split
    · rename_i B hB
      rw [fB_eq, fMem_eq r]
      congr 1
      apply List.ext_getElem?
      intro j
      rw [List.getElem?_set]
      split
      · rename_i hij; subst hij
        split
        · exact hB.symm
        · rename_i hlt; rw [List.getElem?_eq_none (by omega)]
      · rfl
    · exact fMem_eq r m k
def onlyMoves (o : Oper) : Bool :=
  match o.op with
  | .move _ | .assign _ | .pick .. | .load .. | .extract .. | .nilCheck _ | .field .. => true
  | _ => false
def fD {β : Type} (b : Bool) (v : V) (k : V → β) : β := match b with | true => fW v k | false => fV v k
theorem fD_eq {β : Type} (b : Bool) (v : V) (k : V → β) : fD b v k = k v := by cases b <;> simp only [fD,fW_eq,fV_eq]
def fSt {β : Type} (b : Bool) (d : Option Tmp) (ks : List Nat) (s : St) (k : St → β) : β :=
  match d with
  | some d => fD b (s.fr.getD d .undef) fun v => fSp (if d < s.fr.length then s.fr.set d v else s.fr) fun fr => fMem ks s.mem fun mem => k { fr := fr, mem := mem }
  | none => fSp s.fr fun fr => fMem ks s.mem fun mem => k { fr := fr, mem := mem }
theorem fSt_eq {β : Type} (b : Bool) (d : Option Tmp) (ks : List Nat) (s : St) (k : St → β) : fSt b d ks s k = k s := by
  unfold fSt
  split
  · rename_i d
    rw [fD_eq, fSp_eq, fMem_eq]
    congr 1
    split
    · rename_i hd
      obtain ⟨fr, mem⟩ := s
      dsimp only at hd ⊢
      congr 1
      apply List.ext_getElem?
      intro j
      rw [List.getElem?_set]
      split
      · rename_i hij; subst hij
        rw [List.getD_eq_getElem?_getD, List.getElem?_eq_getElem hd]; rfl
      · rfl
    · rfl
  · rw [fSp_eq, fMem_eq]
def fSet {β : Type} : List V → Nat → V → (List V → β) → β
  | [], _, _, k => k []
  | _ :: r, 0, v, k => k (v :: r)
  | c :: r, d + 1, v, k => fSet r d v fun r' => k (c :: r')
theorem fSet_eq {β : Type} : ∀ (l : List V) (d : Nat) (v : V) (k : List V → β), fSet l d v k = k (l.set d v)
  | [], _, _, _ => rfl
  | _ :: _, 0, _, _ => rfl
  | c :: r, d + 1, v, k => by rw [fSet, fSet_eq r]; rfl
def fKeys {β : Type} (ks : List Nat) (m : List Blk) (k : List Blk → β) : β := match ks with | [] => k m | _ :: _ => fMem ks m k
theorem fKeys_eq {β : Type} (ks : List Nat) (m : List Blk) (k : List Blk → β) : fKeys ks m k = k m := by
  unfold fKeys
  split
  · rfl
  · rw [fMem_eq]
def fPut {β : Type} (b : Bool) (d : Option Tmp) (ks : List Nat) (st : St) (v : V) (m : List Blk) (k : St → β) : β :=
  match d with
  | some d => fD b v fun v => fSet st.fr d v fun fr => fKeys ks m fun mem => k { fr := fr, mem := mem }
  | none => fKeys ks m fun mem => k { fr := st.fr, mem := mem }
theorem fPut_eq {β : Type} (b : Bool) (d : Option Tmp) (ks : List Nat) (st : St) (v : V) (m : List Blk) (k : St → β) : fPut b d ks st v m k = k (St.put { st with mem := m } d v) := by
  unfold fPut
  split
  · rw [fD_eq, fSet_eq, fKeys_eq]; rfl
  · rw [fKeys_eq]; rfl
def keyV : V → List Nat
  | .ptr b _ => [b]
  | .rptr b _ _ _ => [b]
  | .ms b _ _ _ => [b]
  | .mp b => [b]
  | _ => []
def touched (key : Nat) (o : Oper) (st : St) : List Nat :=
  match o.op with
  | .alloc _ | .box .. | .buildSlice .. | .makeMap .. | .makeSlice .. | .range .. => [key]
  | .store _ p _ => keyV (st.eval p)
  | .call { callee := .builtin .append, args := xs, .. } => match xs.toList with | s :: _ => key :: keyV (st.eval s) | _ => []
  | .call { callee := .builtin .delete, args := xs, .. } => match xs.toList with | s :: _ => keyV (st.eval s) | _ => []
  | .mapUpdate _ m _ _ | .insert _ m _ _ | .mapEntry _ m _ | .entryStore _ m _ _ => keyV (st.eval m)
  | .call { callee := .value _, .. } => [0]
  | .next it _ => keyV (st.eval it)
  | _ => []

def opsF (P : Program) (tt : Table) (nat : NatF) (orc : FuncId → List V → Option V) (call : CallF) (yld : YldF) (all : Array Oper) : List Oper → St → Option (List St)
  | [], st => some [st]
  | o :: r, st => match wantedV all st.fr o with
    | some true => bindO (stepF P tt nat orc call yld st.mem.length o st) fun p => fPut (onlyMoves o) o.dst (touched st.mem.length o st) st p.1 p.2 fun s' => opsF P tt nat orc call yld all r s'
    | some false => opsF P tt nat orc call yld all r (st.put o.dst (.sc undef))
    | none => none
theorem opsF_sound {P : Program} {tt : Table} {nat : NatF} {orc : FuncId → List V → Option V} (hor : OrcOk P orc) {call : CallF} {yld : YldF} (hna : NatFOk P nat) (hc : CallOk P call) (hy : YldOk P yld) {all : Array Oper} {Q : St → Prop} : ∀ {l : List Oper} {st : St} {outs : List St}, opsF P tt nat orc call yld all l st = some outs → (∀ s ∈ outs, Q s) → runOps P tt all l st Q
  | [], st, outs, h, hQ => by cases h; exact hQ _ (by simp)
  | o :: r, st, outs, h, hQ => by
    simp only [opsF] at h
    simp only [runOps]
    split at h
    · rename_i hw
      rw [hw]
      obtain ⟨l, h1, h2⟩ := bindO_some h
      refine stepF_sound hor hna hc hy h1 fun s hs => ?_
      obtain ⟨b, h3, h4⟩ := h2 s hs
      rw [fPut_eq] at h3
      exact opsF_sound hor hna hc hy h3 fun s' hs' => hQ _ (h4 _ hs')
    · rename_i hw
      rw [hw]
      exact opsF_sound hor hna hc hy h hQ
    · cases h

/-! ### all rows frozen -/
def keysFrom : Nat → List Blk → List (Nat × Nat)
  | _, [] => []
  | i, .rows v _ _ :: r => (i, v) :: keysFrom (i + 1) r
  | i, .frz v _ _ :: r => (i, v) :: keysFrom (i + 1) r
  | i, _ :: r => keysFrom (i + 1) r
theorem keysFrom_mem : ∀ {m : List Blk} {n k v e : Nat} {rs : List V}, (m[k]? = some (.rows v e rs) ∨ m[k]? = some (.frz v e rs)) → (n + k, v) ∈ keysFrom n m
  | [], n, k, v, e, rs, h => by simp at h
  | B :: r, n, 0, v, e, rs, h => by
    simp only [List.getElem?_cons_zero,Option.some.injEq] at h
    rcases h with rfl | rfl <;> simp [keysFrom]
  | B :: r, n, k + 1, v, e, rs, h => by
    simp only [List.getElem?_cons_succ] at h
    have := keysFrom_mem (n := n + 1) h
    rw [show n + 1 + k = n + (k + 1) from by omega] at this
    cases B <;> simp only [keysFrom] <;> first | exact this | exact List.mem_cons_of_mem _ this
def frzCell (mem : List Blk) (v : V) : V := match purCell mem v with | some v' => v' | none => v
def frzV (mem : List Blk) : V → V
  | .agg cs => .agg (cs.map (frzCell mem))
  | .tup vs => .tup (vs.map fun v => match v with | .agg cs => .agg (cs.map (frzCell mem)) | v => frzCell mem v)
  | v => frzCell mem v
def frzBox (mem : List Blk) : Blk → Blk
  | .box cs => .box (cs.map (frzCell mem))
  | B => B
def frzSt (st : St) : Option St :=
  let keys := keysFrom 0 st.mem
  match purL st.mem (keys.map fun (k : Nat × Nat) => V.ms k.1 k.2 0 0) with
  | some _ => some { fr := st.fr.map (frzV st.mem), mem := (frzAll st.mem keys).map (frzBox st.mem) }
  | none => none
theorem ms_keys : ∀ (keys : List (Nat × Nat)), (keys.map fun (k : Nat × Nat) => V.ms k.1 k.2 0 0).flatMap ref1 = keys
  | [] => rfl
  | k :: r => by simp [ref1, refCell, ms_keys r]
theorem frzBox_eq {mem : List Blk} {B : Blk} (h : ∀ cs, B ≠ .box cs) : frzBox mem B = B := by
  cases B <;> first | rfl | exact absurd rfl (h _)
theorem frzBox_ver (mem : List Blk) (B : Blk) : (frzBox mem B).ver = B.ver := by cases B <;> rfl
theorem frzSt_sound {E : Env} {w : World} {a : Act} {st st' : St} (hs : Sim E w a st) (h : frzSt st = some st') : ∃ E', Sim E' w a st' ∧ Evo E w E' w := by
  unfold frzSt at h
  dsimp only at h
  split at h
  · rename_i vs' hp
    cases h
    obtain ⟨ks, hks⟩ : ∃ ks, ks = ((keysFrom 0 st.mem).map (fun (k : Nat × Nat) => V.ms k.1 k.2 0 0)).flatMap ref1 := ⟨_, rfl⟩
    have hboth : Evo E w (E.opn w ks) w ∧ Sim (E.opn w ks) w a { st with mem := frzAll st.mem ks } := by
      subst hks
      obtain ⟨hg, h1, h2⟩ := opn_core hs hp (F' := (E.opn w (((keysFrom 0 st.mem).map (fun (k : Nat × Nat) => V.ms k.1 k.2 0 0)).flatMap ref1)).F) (fun _ _ h => h) (fun ad y h => Env.opn_F hs.F h) (fun _ _ h => .inl h) (Go.RowKit.Below.refl _ w)
      exact ⟨h1, h2⟩
    rw [ms_keys] at hks
    subst hks
    obtain ⟨hev, hs1⟩ := hboth
    have hcell : ∀ {v : V} {x : Value}, Rep E v x → Rep (E.opn w (keysFrom 0 st.mem)) (frzCell st.mem v) x := fun {v x} hr => by
      unfold frzCell
      split
      · rename_i v' hv
        refine (purCell_sound hs hr hv fun k hk => ?_).mono (Env.pure_le _)
        cases v <;> simp only [refCell,List.mem_singleton,List.not_mem_nil] at hk
        subst hk
        simp only [purCell] at hv
        split at hv
        · rename_i hm
          split at hv
          · rename_i hc; have := keysFrom_mem (n := 0) (.inl hm); rw [Nat.zero_add, hc.1] at this; exact this
          · cases hv
        · rename_i hm
          split at hv
          · rename_i hc; have := keysFrom_mem (n := 0) (.inr hm); rw [Nat.zero_add, hc.1] at this; exact this
          · cases hv
        · cases hv
      · exact hr.mono (Env.le_opn E w _)
    have hagg : ∀ {cs : List V} {xs : List Value}, RepL E cs xs → RepL (E.opn w (keysFrom 0 st.mem)) (cs.map (frzCell st.mem)) xs := fun {cs xs} hr => by
      refine ⟨by simpa using hr.1, fun i c x hc hx => ?_⟩
      simp only [List.getElem?_map,Option.map_eq_some_iff] at hc
      obtain ⟨c0, hc0, rfl⟩ := hc
      exact hcell (hr.2 i c0 x hc0 hx)
    have h1 : ∀ {v : V} {x : Value}, Rep E v x → Rep (E.opn w (keysFrom 0 st.mem)) (match v with | .agg cs => .agg (cs.map (frzCell st.mem)) | v => frzCell st.mem v) x := fun {v x} hr => by
      split
      · rename_i cs
        cases hr with
        | agg _ cs xs hl hh =>
          have := hagg (cs := cs) (xs := xs.toList) ⟨by simpa using hl, fun i c x hc hx => hh i c x hc (by simpa using hx)⟩
          exact .agg _ _ _ (by simpa using this.1) fun i c x hc hx => this.2 i c x hc (by simpa using hx)
      · exact hcell hr
    have hV : ∀ {v : V} {x : Value}, Rep E v x → Rep (E.opn w (keysFrom 0 st.mem)) (frzV st.mem v) x := fun {v x} hr => by
      unfold frzV
      split
      · exact h1 (v := .agg _) hr
      · rename_i vs
        cases hr with
        | tup _ vs xs hl hh =>
          refine .tup _ _ _ (by simpa using hl) fun i c x hc hx => ?_
          simp only [List.getElem?_map,Option.map_eq_some_iff] at hc
          obtain ⟨c0, hc0, rfl⟩ := hc
          exact h1 (hh i c0 x hc0 hx)
      · exact hcell hr
    refine ⟨_, ⟨hs1.F, hs1.lt, fun k B hk => ?_, fun k hk => hs1.top k (by simpa using hk), fun k B hk v hv => ?_, hs1.apart, ⟨by simpa using hs.fr.1, fun i v x hv hx => ?_⟩⟩, hev⟩
    · simp only [List.getElem?_map,Option.map_eq_some_iff] at hk
      obtain ⟨B0, hB0, rfl⟩ := hk
      have h0 := hs1.mem k B0 hB0
      by_cases hbox : ∃ cs, B0 = .box cs
      · obtain ⟨cs, rfl⟩ := hbox
        have hold : st.mem[k]? = some (.box cs) := by
          rw [frzAll_get] at hB0
          cases hB1 : st.mem[k]? with
          | none => rw [hB1] at hB0; simp [frzOf] at hB0
          | some B1 =>
            rw [hB1] at hB0
            cases B1 <;> simp only [frzOf] at hB0 <;> first | exact hB0 | (split at hB0 <;> cases hB0)
        obtain ⟨g, T, xs, q1, q2, q3, q4⟩ := h0
        obtain ⟨g', T', xs', r1, r2, r3, r4⟩ := hs.mem k _ hold
        have : g = g' := by
          have := hev.le.blk _ _ _ r1
          have e : (E.opn w (keysFrom 0 st.mem)).blk k 0 = some (g, 0, 0) := q1
          have e2 : (E.opn w (keysFrom 0 st.mem)).blk k 0 = some (g', 0, 0) := this
          rw [e] at e2; cases e2; rfl
        subst this
        rw [r2] at q2; cases q2
        exact ⟨g, T, xs, q1, r2, hagg r3, q4⟩
      · rw [frzBox_eq fun cs e => hbox ⟨cs, e⟩]; exact h0
    · simp only [List.getElem?_map,Option.map_eq_some_iff] at hk
      obtain ⟨B0, hB0, rfl⟩ := hk
      rw [frzBox_ver] at hv
      exact hs1.ver k B0 hB0 v hv
    · simp only [List.getElem?_map,Option.map_eq_some_iff] at hv
      obtain ⟨v0, hv0, rfl⟩ := hv
      exact hV (hs.fr.2 i v0 x hv0 hx)
  · cases h
theorem tri_freeze {P : Program} {ρ : Option Nat} {n0 : Nat} {c : Code} {st st' : St} {Q : Exit → St → Prop} (hf : frzSt st = some st') (h : Tri P ρ n0 c st' Q) : Tri P ρ n0 c st Q := fun E0 w0 h0 E w a he hs hmk => by
  obtain ⟨E', h1, h2⟩ := frzSt_sound hs hf
  exact h E0 w0 h0 E' w a (he.trans h2) h1 (hmk.evo h2)

/-! ### regions that draw -/
abbrev PureF := FuncId → List V → Option V
abbrev LiveF := FuncId → List V → Option (Nat × List V)
def LiveOk (P : Program) (live : LiveF) : Prop := ∀ f vs e rs, live f vs = some (e, rs) → FnOkL P f vs e rs
def callLF (live : LiveF) (o : Oper) (key : Nat) (st : St) : Option St :=
  match o.op with
  | .call { callee := .value f, args := xs, .. } => match calleeOf (st.eval f) (xs.toList.map st.eval) with
    | some (g, vs) => match purL [] vs with
      | some vs' => match live g vs' with
        | some (e, rs) => some (holeSt st key o.dst e rs)
        | none => none
      | none => none
    | none => none
  | _ => none
theorem callLF_sound {P : Program} {live : LiveF} (hl : LiveOk P live) {o : Oper} {key : Nat} {st s : St} {Q : St → Prop} (h : callLF live o key st = some s) (hQ : Q s) : callLD P o key st Q := by
  unfold callLF at h
  unfold callLD
  split at h
  · rename_i heq; rw [heq]; dsimp only
    split at h
    · rename_i g vs hg
      rw [hg]; dsimp only
      split at h
      · rename_i vs' hv
        split at h
        · rename_i e rs hr
          cases h
          exact ⟨vs', e, rs, hv, hl _ _ _ _ hr, hQ⟩
        · cases h
      · cases h
    · cases h
  · cases h
def PureOk (P : Program) (pure : PureF) : Prop := ∀ f vs r, pure f vs = some r → FnOk P f vs r
def valF (P : Program) (tt : Table) (nat : NatF) (pure : PureF) (o : Oper) (stv st : St) : Option St :=
  match o.op with
  | .call { callee := .value f, args := xs, .. } => match calleeOf (stv.eval f) (xs.toList.map stv.eval) with
    | some (g, vs) => match purL [] vs with
      | some vs' => match pure g vs' with
        | some r => some (st.put o.dst r)
        | none => match nat g vs' with
          | some r => some (st.put o.dst r)
          | none => none
      | none => none
    | none => none
  | _ => match val1 P tt o stv with
    | some v => some (st.put o.dst v)
    | none => none
theorem valF_sound {P : Program} {tt : Table} {nat : NatF} (hna : NatFOk P nat) {pure : PureF} (hp : PureOk P pure) {o : Oper} {stv st s : St} {Q : St → Prop} (h : valF P tt nat pure o stv st = some s) (hQ : Q s) : valD P tt o stv st Q := by
  unfold valF at h
  unfold valD
  split at h
  · rename_i heq; rw [heq]; dsimp only
    split at h
    · rename_i g vs hg
      rw [hg]; dsimp only
      split at h
      · rename_i vs' hv
        split at h
        · rename_i r hr
          cases h
          exact ⟨vs', r, hv, .inl (hp _ _ _ hr), hQ⟩
        · split at h
          · rename_i r hr
            cases h
            exact ⟨vs', r, hv, .inr (hna _ _ _ hr), hQ⟩
          · cases h
      · cases h
    · cases h
  · split at h
    · rename_i h1
      cases h
      split
      · exfalso; solve_by_elim
      · rw [h1]; exact hQ
    · cases h
def stepMF (P : Program) (tt : Table) (nat : NatF) (pure : PureF) (live : LiveF) (all : Array Oper) (base : Nat) (o : Oper) (p : Pl) (st : St) : Option St :=
  match wantedV all st.fr o with
  | some true => match p.cls with
    | .n => valF P tt nat pure o { st with mem := [] } st
    | .r => valF P tt nat pure o { st with mem := maskB (p.mask.map (base + ·) ++ p.abs) st.mem } st
    | .a => if isHole st.mem (base + p.key) = true then (match newBlk tt o (base + p.key) st with
      | some (B, v) => some (St.put { st with mem := st.mem.set (base + p.key) B } o.dst v)
      | none => callLF live o (base + p.key) st) else none
    | .w => if isHole st.mem (base + p.key) = true then (match wOut P tt (base + p.key) o st with
      | some (m, v) => some (St.put { st with mem := m } o.dst v)
      | none => none) else none
    | .s => match sOut tt (base + p.key) o st with
      | some m => some (St.put { st with mem := m } o.dst (.sc undef))
      | none => none
    | .b => match loadB tt o st with
      | some v => some (st.put o.dst v)
      | none => none
    | .z => none
    | .e => none
  | some false => some (st.put o.dst (.sc undef))
  | none => none
theorem stepMF_sound {P : Program} {tt : Table} {nat : NatF} (hna : NatFOk P nat) {pure : PureF} {live : LiveF} (hp : PureOk P pure) (hl : LiveOk P live) {all : Array Oper} {base : Nat} {o : Oper} {p : Pl} {st s : St} {Q : St → Prop} (h : stepMF P tt nat pure live all base o p st = some s) (hQ : Q s) : stepM P tt all base o p st Q := by
  unfold stepMF at h
  unfold stepM
  split at h
  · rename_i hw; rw [hw]; dsimp only
    split at h
    · rename_i hcl; rw [hcl]; exact valF_sound hna hp h hQ
    · rename_i hcl; rw [hcl]; exact valF_sound hna hp h hQ
    · rename_i hcl; rw [hcl]; dsimp only
      split at h
      · rename_i hh
        refine ⟨hh, ?_⟩
        split at h
        · rename_i h1; cases h; rw [h1]; exact hQ
        · rename_i h1; rw [h1]; exact callLF_sound hl h hQ
      · cases h
    · rename_i hcl; rw [hcl]; dsimp only
      split at h
      · rename_i hh
        refine ⟨hh, ?_⟩
        split at h
        · rename_i h1; cases h; rw [h1]; exact hQ
        · cases h
      · cases h
    · rename_i hcl; rw [hcl]; dsimp only
      split at h
      · rename_i h1; cases h; rw [h1]; exact hQ
      · cases h
    · rename_i hcl; rw [hcl]; dsimp only
      split at h
      · rename_i h1; cases h; rw [h1]; exact hQ
      · cases h
    · cases h
    · cases h
  · rename_i hw; rw [hw]; cases h; exact hQ
  · cases h
def runMF (P : Program) (tt : Table) (nat : NatF) (pure : PureF) (live : LiveF) (all : Array Oper) (base : Nat) : List Oper → List Pl → St → Option St
  | [], _, st => some st
  | o :: r, p :: ps, st => match stepMF P tt nat pure live all base o p st with
    | some s => fSt (onlyMoves o) o.dst (touched (base + p.key) o st) s fun s' => runMF P tt nat pure live all base r ps s'
    | none => none
  | _ :: _, [], _ => none
theorem runMF_sound {P : Program} {tt : Table} {nat : NatF} (hna : NatFOk P nat) {pure : PureF} {live : LiveF} (hp : PureOk P pure) (hl : LiveOk P live) {all : Array Oper} {base : Nat} {Q : St → Prop} : ∀ {l : List Oper} {ps : List Pl} {st s : St}, runMF P tt nat pure live all base l ps st = some s → Q s → runM P tt all base l ps st Q
  | [], _, st, s, h, hQ => by cases h; exact hQ
  | o :: r, p :: ps, st, s, h, hQ => by
    simp only [runMF] at h
    simp only [runM]
    split at h
    · rename_i s1 h1
      rw [fSt_eq] at h
      exact stepMF_sound hna hp hl h1 (runMF_sound hna hp hl h hQ)
    · cases h
  | _ :: _, [], _, _, h, _ => by simp [runMF] at h

/-! ### code -/
mutual
def topV : V → Nat
  | .ms b _ _ _ | .ptr b _ | .yld b | .mp b | .rptr b _ _ _ => b + 1
  | .agg cs | .tup cs => topL cs
  | .clo _ a b => max (topL a) (topL b)
  | _ => 0
def topL : List V → Nat
  | [] => 0
  | c :: r => max (topV c) (topL r)
end
def topB : Blk → Nat
  | .box cs => topL cs
  | .loop _ _ fr _ _ _ => topL fr
  | .map kvs _ => kvs.foldr (fun k n => max (topV k.2.2) n) 0
  | .miter m _ _ _ => m + 1
  | _ => 0
def topBs (l : List Blk) : Nat := l.foldr (fun B n => max (topB B) n) 0
def cutN : Nat → Nat → List Blk → Nat
  | 0, n, _ => n
  | k + 1, n, mem => let m := max n (topBs (mem.take n)); if m = n then n else cutN k m mem
def finF (lo : Nat) (r : V) (mem : List Blk) : Option (V × List Blk) :=
  let n := cutN 8 (max lo (topV r)) mem
  if lo ≤ n ∧ belowV n r = true ∧ (mem.take n).all (belowB n) = true then some (r, mem.take n) else none

def bareEnd : Exit → Bool
  | .ret => true
  | .normal => true
  | _ => false
def eqVal : Value → Value → Bool
  | .agg a, .agg b => zerosEq a.toList b.toList
  | .tuple a, .tuple b => zerosEq a.toList b.toList
  | .func (.func f) a b, .func (.func g) c d => f == g && a.isEmpty && b.isEmpty && c.isEmpty && d.isEmpty
  | a, b => zeroEq a b
theorem eqVal_eq {a b : Value} (h : eqVal a b = true) : a = b := by
  unfold eqVal at h
  split at h
  · rename_i x y; rw [← Array.toArray_toList (xs := x), zerosEq_eq h, Array.toArray_toList]
  · rename_i x y; rw [← Array.toArray_toList (xs := x), zerosEq_eq h, Array.toArray_toList]
  · simp only [Bool.and_eq_true,beq_iff_eq,Array.isEmpty_iff] at h
    obtain ⟨⟨⟨⟨rfl, rfl⟩, rfl⟩, rfl⟩, rfl⟩ := h
    rfl
  · exact zeroEq_eq h
mutual
def sameV : V → V → Bool
  | .undef, .undef => true
  | .gn, .gn => true
  | .sc a, .sc b => eqVal a b
  | .agg a, .agg b => sameVs a b
  | .tup a, .tup b => sameVs a b
  | .slice a, .slice b => sameVs a b
  | .full a, .full b => sameVs a b
  | .eptr a, .eptr b => sameVs a b
  | .ms a b c d, .ms a' b' c' d' => a == a' && b == b' && c == c' && d == d'
  | .ptr a b, .ptr a' b' => a == a' && b == b'
  | .rptr a b c d, .rptr a' b' c' d' => a == a' && b == b' && c == c' && d == d'
  | .mp a, .mp b => a == b
  | .yld a, .yld b => a == b
  | .clo (.func f) a b, .clo (.func g) c d => f == g && sameVs a c && sameVs b d
  | _, _ => false
def sameVs : List V → List V → Bool
  | [], [] => true
  | a :: r, b :: s => sameV a b && sameVs r s
  | _, _ => false
end
mutual
theorem sameV_eq : ∀ {a b : V}, sameV a b = true → a = b
  | .undef, b, h => by cases b <;> simp [sameV] at h <;> rfl
  | .gn, b, h => by cases b <;> simp [sameV] at h <;> rfl
  | .sc a, b, h => by
    cases b <;> simp only [sameV,Bool.false_eq_true] at h
    rw [eqVal_eq h]
  | .agg a, b, h => by
    cases b <;> simp only [sameV,Bool.false_eq_true] at h
    rw [sameVs_eq h]
  | .tup a, b, h => by
    cases b <;> simp only [sameV,Bool.false_eq_true] at h
    rw [sameVs_eq h]
  | .slice a, b, h => by
    cases b <;> simp only [sameV,Bool.false_eq_true] at h
    rw [sameVs_eq h]
  | .full a, b, h => by
    cases b <;> simp only [sameV,Bool.false_eq_true] at h
    rw [sameVs_eq h]
  | .eptr a, b, h => by
    cases b <;> simp only [sameV,Bool.false_eq_true] at h
    rw [sameVs_eq h]
  | .ms _ _ _ _, b, h => by
    cases b <;> simp only [sameV,Bool.false_eq_true,Bool.and_eq_true,beq_iff_eq] at h
    obtain ⟨⟨⟨rfl, rfl⟩, rfl⟩, rfl⟩ := h; rfl
  | .ptr _ _, b, h => by
    cases b <;> simp only [sameV,Bool.false_eq_true,Bool.and_eq_true,beq_iff_eq] at h
    obtain ⟨rfl, rfl⟩ := h; rfl
  | .rptr _ _ _ _, b, h => by
    cases b <;> simp only [sameV,Bool.false_eq_true,Bool.and_eq_true,beq_iff_eq] at h
    obtain ⟨⟨⟨rfl, rfl⟩, rfl⟩, rfl⟩ := h; rfl
  | .mp _, b, h => by
    cases b <;> simp only [sameV,Bool.false_eq_true,beq_iff_eq] at h
    rw [h]
  | .yld _, b, h => by
    cases b <;> simp only [sameV,Bool.false_eq_true,beq_iff_eq] at h
    rw [h]
  | .clo f a c, b, h => by
    cases b with
    | clo g a' c' =>
      cases f <;> cases g <;> simp only [sameV,Bool.false_eq_true,Bool.and_eq_true,beq_iff_eq] at h
      obtain ⟨⟨rfl, h1⟩, h2⟩ := h
      rw [sameVs_eq h1, sameVs_eq h2]
    | _ => cases f <;> simp [sameV] at h
theorem sameVs_eq : ∀ {a b : List V}, sameVs a b = true → a = b
  | [], b, h => by cases b <;> simp [sameVs] at h <;> rfl
  | c :: r, b, h => by
    cases b with
    | nil => simp [sameVs] at h
    | cons d s =>
      simp only [sameVs,Bool.and_eq_true] at h
      rw [sameV_eq h.1, sameVs_eq h.2]
end
def sameKvs : List (Value × Nat × V) → List (Value × Nat × V) → Bool
  | [], [] => true
  | a :: r, b :: s => eqVal a.1 b.1 && a.2.1 == b.2.1 && sameV a.2.2 b.2.2 && sameKvs r s
  | _, _ => false
theorem sameKvs_eq : ∀ {a b : List (Value × Nat × V)}, sameKvs a b = true → a = b
  | [], [], _ => rfl
  | (k, n, v) :: r, (k', n', v') :: s, h => by
    simp only [sameKvs,Bool.and_eq_true,beq_iff_eq] at h
    obtain ⟨⟨⟨h1, h2⟩, h3⟩, h4⟩ := h
    rw [eqVal_eq h1, h2, sameV_eq h3, sameKvs_eq h4]
  | [], _ :: _, h => by simp [sameKvs] at h
  | _ :: _, [], h => by simp [sameKvs] at h
def sameB : Blk → Blk → Bool
  | .hole, .hole => true
  | .dead, .dead => true
  | .niter, .niter => true
  | .box a, .box b => sameVs a b
  | .rows v e a, .rows v' e' b => v == v' && e == e' && sameVs a b
  | .frz v e a, .frz v' e' b => v == v' && e == e' && sameVs a b
  | .map a c, .map b d => c == d && sameKvs a b
  | .miter a b c d, .miter a' b' c' d' => a == a' && b == b' && c == c' && d == d'
  | _, _ => false
theorem sameB_eq {a b : Blk} (h : sameB a b = true) : a = b := by
  unfold sameB at h
  split at h
  · rfl
  · rfl
  · rfl
  · rw [sameVs_eq h]
  · simp only [Bool.and_eq_true,beq_iff_eq] at h; obtain ⟨⟨rfl, rfl⟩, h⟩ := h; rw [sameVs_eq h]
  · simp only [Bool.and_eq_true,beq_iff_eq] at h; obtain ⟨⟨rfl, rfl⟩, h⟩ := h; rw [sameVs_eq h]
  · simp only [Bool.and_eq_true,beq_iff_eq] at h; obtain ⟨rfl, h⟩ := h; rw [sameKvs_eq h]
  · simp only [Bool.and_eq_true,beq_iff_eq] at h; obtain ⟨⟨⟨rfl, rfl⟩, rfl⟩, rfl⟩ := h; rfl
  · cases h
def sameBs : List Blk → List Blk → Bool
  | [], [] => true
  | a :: r, b :: s => sameB a b && sameBs r s
  | _, _ => false
theorem sameBs_eq : ∀ {a b : List Blk}, sameBs a b = true → a = b
  | [], [], _ => rfl
  | x :: r, y :: s, h => by simp only [sameBs,Bool.and_eq_true] at h; rw [sameB_eq h.1, sameBs_eq h.2]
  | [], _ :: _, h => by simp [sameBs] at h
  | _ :: _, [], h => by simp [sameBs] at h
def dedup : List (V × List Blk) → List (V × List Blk)
  | [] => []
  | p :: r => if (dedup r).any (fun q => sameV p.1 q.1 && sameBs p.2 q.2) = true then dedup r else p :: dedup r
theorem dedup_mem : ∀ {l : List (V × List Blk)} {p : V × List Blk}, p ∈ l → p ∈ dedup l
  | q :: r, p, h => by
    simp only [dedup]
    split
    · rename_i hany
      rcases List.mem_cons.1 h with rfl | h
      · obtain ⟨q', h1, h2⟩ := List.any_eq_true.1 hany
        simp only [Bool.and_eq_true] at h2
        have : p = q' := Prod.ext (sameV_eq h2.1) (sameBs_eq h2.2)
        rw [this]; exact h1
      · exact dedup_mem h
    · rcases List.mem_cons.1 h with rfl | h
      · exact List.mem_cons_self ..
      · exact List.mem_cons_of_mem _ (dedup_mem h)
def fnF (P : Program) (tt : Table) (code : CodeF) : CallF := fun f vs mem =>
  match P.funcs[f]? with
  | some fn => match fn.body with
    | some body => (bindO (fWs vs fun vs => fSp mem fun mem => fSt true none [] (startSt fn vs mem) fun s => code false body s) fun o => if bareEnd o.1 = true then (match resOne tt fn.results o.2 with
      | some r => fV r fun r => match finF mem.length r o.2.mem with | some p => fSp p.2 fun m => some [(p.1, m)] | none => none
      | none => none) else none).map dedup
    | none => none
  | none => none
def pureF (P : Program) (tt : Table) (code : CodeF) : PureF := fun f vs =>
  match P.funcs[f]? with
  | some fn => match fn.body with
    | some body => match bindO (fWs vs fun vs => fSt true none [] (startSt fn vs []) fun s => code false body s) fun o => if bareEnd o.1 = true then (match retV tt fn.results o.2 with | some r => fV r fun r => some [r] | none => none) else none with
      | some (r :: rs) => if rs.all (sameV r) = true then some r else none
      | _ => none
    | none => none
  | none => none
def liveOf : List (V × List Blk) → Option (Nat × Nat × List V)
  | [(.ms 0 v 0 l, [.rows v' e rs])] => if v' = v ∧ l = rs.length then some (v, e, rs) else none
  | [(.ms 0 v 0 0, [.rows v' e []]), (.sc (.slice none 0 0), [])] => if v' = v then some (v, e, []) else none
  | [(.sc (.slice none 0 0), []), (.ms 0 v 0 0, [.rows v' e []])] => if v' = v then some (v, e, []) else none
  | _ => none
theorem liveOf_mem {outs : List (V × List Blk)} {v e : Nat} {rs : List V} (h : liveOf outs = some (v, e, rs)) : ∀ r m, (r, m) ∈ outs → (r = .ms 0 v 0 rs.length ∧ m = [.rows v e rs]) ∨ (r = .sc (.slice none 0 0) ∧ m = [] ∧ rs = []) := by
  unfold liveOf at h
  split at h
  · split at h
    · rename_i hc; cases h; obtain ⟨rfl, rfl⟩ := hc
      intro r m hm; simp at hm; exact .inl hm
    · cases h
  · split at h
    · rename_i hc; cases h; subst hc
      intro r m hm; simp at hm
      rcases hm with ⟨rfl, rfl⟩ | ⟨rfl, rfl⟩
      · exact .inl ⟨rfl, rfl⟩
      · exact .inr ⟨rfl, rfl, rfl⟩
    · cases h
  · split at h
    · rename_i hc; cases h; subst hc
      intro r m hm; simp at hm
      rcases hm with ⟨rfl, rfl⟩ | ⟨rfl, rfl⟩
      · exact .inr ⟨rfl, rfl, rfl⟩
      · exact .inl ⟨rfl, rfl⟩
    · cases h
  · cases h
theorem FnOkR.live {P : Program} {f : FuncId} {vs : List V} {R : V → List Blk → Prop} {v e : Nat} {rs : List V} (h : FnOkR P f vs [] R) (hR : ∀ r m, R r m → (r = .ms 0 v 0 rs.length ∧ m = [.rows v e rs]) ∨ (r = .sc (.slice none 0 0) ∧ m = [] ∧ rs = [])) : FnOkL P f vs e rs := by
  refine ⟨v, h.1, fun E w xs hs hx => (h.2 E w xs hs hx).mono ?_⟩
  rintro en w' ⟨E', x, r, m, rfl, hr, hev, hs', hrep⟩
  rcases hR r m hr with ⟨rfl, rfl⟩ | ⟨rfl, rfl, rfl⟩
  · exact ⟨E', x, rfl, hev, hs', hrep⟩
  · obtain rfl := rep_sc hrep
    exact ⟨E', _, rfl, hev, by simpa using hs'.nilRowsV v e, .msnil _ _ _ _⟩
def liveF (P : Program) (tt : Table) (code : CodeF) : LiveF := fun f vs =>
  match fnF P tt code f vs [] with
  | some outs => match liveOf outs with | some (_, e, rs) => some (e, rs) | none => none
  | none => none
def keepF (lo : Nat) (b : Bool) (m : List Blk) : Option (List (Bool × List Blk)) :=
  let n := cutN 8 lo m
  if lo ≤ n ∧ (m.take n).all (belowB n) = true then fSp (m.take n) fun m => some [(b, m)] else none
theorem keepF_some {lo : Nat} {b : Bool} {m : List Blk} {x : List (Bool × List Blk)} (h : keepF lo b m = some x) : ∃ n, lo ≤ n ∧ (m.take n).all (belowB n) = true ∧ (b, m.take n) ∈ x := by
  unfold keepF at h
  dsimp only at h
  split at h
  · rename_i hc; rw [fSp_eq] at h; cases h; exact ⟨_, hc.1, hc.2, by simp⟩
  · cases h
def yldF (code : CodeF) : YldF := fun k vs mem =>
  match mem[k]? with
  | some (.loop .ready none fr params assign body) =>
    if vs.length = params.size then
      bindO (fWs vs fun vs => fSt true none [] { fr := setPs params.toList vs fr, mem := mem } fun s => code true assign s) fun o => match o.1, o.2.mem[k]? with
        | .normal, some (.loop .ready none fr1 p1 as1 bd1) =>
          bindO (fSt true none [] { o.2 with mem := o.2.mem.set k (.loop .busy none fr1 p1 as1 bd1) } fun s => code true body s) fun u => match jumpOf u.1, u.2.mem[k]? with
            | some jump, some (.loop _ _ fr2 p2 as2 bd2) =>
              keepF mem.length jump.isNone (u.2.mem.set k (.loop (if jump.isNone then .ready else .done) jump fr2 p2 as2 bd2))
            | _, _ => none
        | _, _ => none
    else none
  | _ => none
def notBusy : LoopState → Bool
  | .busy => false
  | _ => true

def firstF {α : Type} (f : α → Option (List (Exit × St))) : List α → Option (List (Exit × St))
  | [] => none
  | a :: r => match f a with | some x => some x | none => firstF f r
theorem firstF_some {α : Type} {f : α → Option (List (Exit × St))} : ∀ {l : List α} {x : List (Exit × St)}, firstF f l = some x → ∃ a ∈ l, f a = some x
  | [], x, h => by cases h
  | a :: r, x, h => by
    simp only [firstF] at h
    split at h
    · rename_i hx; cases h; exact ⟨a, List.mem_cons_self .., hx⟩
    · obtain ⟨b, h1, h2⟩ := firstF_some h; exact ⟨b, List.mem_cons_of_mem _ h1, h2⟩
def orcP (orc : FuncId → List V → Option V) (pure : PureF) : PureF := fun f vs => match orc f vs with | some r => some r | none => pure f vs
theorem orcP_ok {P : Program} {orc : FuncId → List V → Option V} {pure : PureF} (h : OrcOk P orc) (hp : PureOk P pure) : PureOk P (orcP orc pure) := fun f vs r hr => by
  unfold orcP at hr
  split at hr
  · rename_i r' h1; cases hr; exact h _ _ _ h1
  · exact hp _ _ _ hr
def mixF (P : Program) (tt : Table) (nat : NatF) (orc : FuncId → List V → Option V) (code : CodeF) (ops : Array Oper) (st : St) (p : List Pl × Nat) : Option (List (Exit × St)) :=
  if mixOk ops p.1 = true then (match runMF P tt nat (orcP orc (pureF P tt code)) (liveF P tt code) ops st.mem.length ops.toList p.1 { st with mem := st.mem ++ List.replicate p.2 .hole } with
    | some s => some [(.normal, s)]
    | none => none) else none
def evStep (P : Program) (tt : Table) (pl : Plans) (nat : NatF) (orc : FuncId → List V → Option V) (code : CodeF) : CodeF := fun ρ c st =>
  match c with
  | .skip => some [(.normal, st)]
  | .ret => some [(.ret, st)]
  | .exit id => some [(.exit id, st)]
  | .seq a b => bindO (code ρ a st) fun o => match o.1 with
    | .normal => code ρ b o.2
    | e => some [(e, o.2)]
  | .cond x a b => match st.eval x with
    | .sc (.bool t) => code ρ (if t = true then a else b) st
    | _ => none
  | .block id c => bindO (code ρ c st) fun o => match o.1 with
    | .exit j => if j = id then some [(.normal, o.2)] else some [(.exit j, o.2)]
    | e => some [(e, o.2)]
  | .loop c => bindO (code ρ c st) fun o => match o.1 with
    | .normal => code ρ (.loop c) o.2
    | e => some [(e, o.2)]
  | .region _ ops false => match opsF P tt nat orc (fnF P tt code) (yldF code) ops ops.toList st with
    | some l => some (l.map fun s => (.normal, s))
    | none => match frzSt st with
      | some st' => bindO (opsF P tt nat orc (fnF P tt code) (yldF code) ops ops.toList st') fun s => some [(.normal, s)]
      | none => none
  | .region id ops true => match firstF (mixF P tt nat orc code ops st) (pl id ops) with
    | some x => some x
    | none => match frzSt st with
      | some st' => firstF (mixF P tt nat orc code ops st') (pl id ops)
      | none => none
  | .rangeFunc f params assign body => if ρ = true then none else
    match calleeOf (st.eval f) [.yld st.mem.length] with
    | some (g, vs) => bindO (fnF P tt code g vs (st.mem ++ [.loop .ready none st.fr params assign body])) fun o => match o.2[st.mem.length]? with
      | some (.loop s pend _ _ _ _) => if notBusy s = true then (match pend with
        | none => fSt true none [] { st with mem := o.2.set st.mem.length .dead } fun s => some [(.normal, s)]
        | some c => fSt true none [] { st with mem := o.2.set st.mem.length .dead } fun s => code false c s) else none
      | _ => none
    | none => none
  | _ => none

def ev (P : Program) (tt : Table) (pl : Plans) (nat : NatF) (orc : FuncId → List V → Option V) (n : Nat) : CodeF := Nat.rec (fun _ _ _ => none) (fun _ r => evStep P tt pl nat orc r) n

def CodeOk (P : Program) (code : CodeF) : Prop := ∀ b c st outs, code b c st = some outs → ∀ (ρ : Option Nat) (n0 : Nat) (Q : Exit → St → Prop), (b = true ∨ ρ = none) → (∀ o ∈ outs, Q o.1 o.2) → Tri P ρ n0 c st Q

section
variable {P : Program} {tt : Table} {pl : Plans} {nat : NatF} {orc : FuncId → List V → Option V} (ht : TT P tt) (hm : P.follows .mixedOrders = true)
  (hcall : ∀ (f : FuncId) (fn : Func) (body : Code), P.funcs[f]? = some fn → fn.body = some body → ∀ (xs : Array Value) (w : World), (callFunc f xs).run P w = .ok (.enter f xs) w)
include ht hcall
theorem fnF_ok {code : CodeF} (hco : CodeOk P code) : CallOk P (fnF P tt code) := by
  intro f vs mem outs h
  unfold fnF at h
  split at h
  · rename_i fn hf
    split at h
    · rename_i body hb
      rw [Option.map_eq_some_iff] at h
      obtain ⟨outs0, h, hdd⟩ := h
      obtain ⟨l, h1, h2⟩ := bindO_some h
      rw [fWs_eq, fSp_eq, fSt_eq] at h1
      refine fnr_ok ht hf hb (hcall f fn body hf hb) (hco _ _ _ _ h1 none _ _ (.inr rfl) fun o ho => ?_)
      obtain ⟨b, h3, h4⟩ := h2 o ho
      split at h3
      · rename_i he
        split at h3
        · rename_i r hr
          rw [fV_eq] at h3
          split at h3
          · rename_i p hp
            rw [fSp_eq] at h3
            cases h3
            unfold finF at hp
            dsimp only at hp
            split at hp
            · rename_i hcond
              cases hp
              refine ⟨?_, r, _, hcond.1, hr, hcond.2.1, hcond.2.2, by rw [← hdd]; exact dedup_mem (h4 _ (by simp))⟩
              cases ho1 : o.1 <;> simp [bareEnd, ho1] at he <;> simp
            · cases hp
          · cases h3
        · cases h3
      · cases h3
    · cases h
  · cases h
theorem pureF_ok {code : CodeF} (hco : CodeOk P code) : PureOk P (pureF P tt code) := by
  intro f vs r h
  unfold pureF at h
  split at h
  · rename_i fn hf
    split at h
    · rename_i body hb
      split at h
      · rename_i r1 rs hrs
        split at h
        · rename_i hall
          cases h
          obtain ⟨l, h1, h2⟩ := bindO_some hrs
          rw [fWs_eq, fSt_eq] at h1
          refine fn_ok ht hf hb (hcall f fn body hf hb) (hco _ _ _ _ h1 none _ _ (.inr rfl) fun o ho => ?_)
          obtain ⟨b, h3, h4⟩ := h2 o ho
          split at h3
          · rename_i he
            split at h3
            · rename_i r2 hr
              rw [fV_eq] at h3
              cases h3
              have hr2 : r2 = r := by
                rcases List.mem_cons.1 (h4 r2 (by simp)) with h | h
                · exact h
                · exact (sameV_eq (List.all_eq_true.1 hall _ h)).symm
              subst hr2
              refine ⟨?_, hr⟩
              cases ho1 : o.1 <;> simp [bareEnd, ho1] at he <;> simp
            · cases h3
          · cases h3
        · cases h
      · cases h
    · cases h
  · cases h
theorem liveF_ok {code : CodeF} (hco : CodeOk P code) : LiveOk P (liveF P tt code) := by
  intro f vs e rs h
  unfold liveF at h
  split at h
  · rename_i outs ho
    split at h
    · rename_i v e' rs' hl
      cases h
      exact (fnF_ok ht hcall hco f vs [] outs ho).live fun r m hr => liveOf_mem hl r m hr
    · cases h
  · cases h
omit ht hcall in
theorem yldF_ok {code : CodeF} (hco : CodeOk P code) : YldOk P (yldF code) := by
  intro k vs mem outs h
  unfold yldF at h
  split at h
  · rename_i fr params assign body hk
    split at h
    · rename_i hlen
      obtain ⟨l1, h1, h2⟩ := bindO_some h
      rw [fWs_eq, fSt_eq] at h1
      refine yokr_of_body hk hlen fun l => hco _ _ _ _ h1 (some l) _ _ (.inl rfl) fun o ho => ?_
      obtain ⟨b, h3, h4⟩ := h2 o ho
      split at h3
      · rename_i fr1 p1 as1 bd1 he hk1
        refine ⟨he, fr1, p1, as1, bd1, hk1, ?_⟩
        obtain ⟨l2, h5, h6⟩ := bindO_some h3
        rw [fSt_eq] at h5
        refine hco _ _ _ _ h5 (some l) _ _ (.inl rfl) fun u hu => ?_
        obtain ⟨b2, h7, h8⟩ := h6 u hu
        split at h7
        · rename_i jump s2 pe2 fr2 p2 as2 bd2 hj hk2
          obtain ⟨n, hn, hbm, hin⟩ := keepF_some h7
          exact ⟨n, jump, s2, pe2, fr2, p2, as2, bd2, hn, hj, hk2, hbm, h4 _ (h8 _ hin)⟩
        · cases h7
      · cases h3
    · cases h
  · cases h

include hm in
theorem ev_ok (hor : OrcOk P orc) (hna : NatFOk P nat) : ∀ (n : Nat), CodeOk P (ev P tt pl nat orc n) ∧ ∀ b c st outs, ev P tt pl nat orc n b (.loop c) st = some outs → ∀ (ρ : Option Nat) (n0 : Nat) (Q : Exit → St → Prop), (b = true ∨ ρ = none) → (∀ o ∈ outs, Q o.1 o.2) → LoopN P ρ n0 c n st Q := by
  intro n
  induction n with
  | zero => exact ⟨fun b c st outs h => by simp [ev] at h, fun b c st outs h => by simp [ev] at h⟩
  | succ n ih =>
    obtain ⟨ihc, ihl⟩ := ih
    have hstep : ∀ b c st, ev P tt pl nat orc (n + 1) b c st = evStep P tt pl nat orc (ev P tt pl nat orc n) b c st := fun _ _ _ => rfl
    have loop : ∀ b c st outs, ev P tt pl nat orc (n + 1) b (.loop c) st = some outs → ∀ (ρ : Option Nat) (n0 : Nat) (Q : Exit → St → Prop), (b = true ∨ ρ = none) → (∀ o ∈ outs, Q o.1 o.2) → LoopN P ρ n0 c (n + 1) st Q := by
      intro b c st outs h ρ n0 Q hb hQ
      rw [hstep] at h
      simp only [evStep] at h
      obtain ⟨l, h1, h2⟩ := bindO_some h
      refine ihc _ _ _ _ h1 ρ n0 _ hb fun o ho => ?_
      obtain ⟨e, s⟩ := o
      obtain ⟨b', h3, h4⟩ := h2 _ ho
      cases e with
      | normal => exact ihl _ _ _ _ h3 ρ n0 Q hb fun o' ho' => hQ _ (h4 _ ho')
      | _ => cases h3; exact hQ (_, _) (h4 _ (by simp))
    refine ⟨fun b c st outs h ρ n0 Q hb hQ => ?_, loop⟩
    cases c with
    | skip => rw [hstep] at h; cases h; exact tri_skip (hQ (_, _) (by simp))
    | ret => rw [hstep] at h; cases h; exact tri_ret (hQ (_, _) (by simp))
    | exit id => rw [hstep] at h; cases h; exact tri_exit (hQ (_, _) (by simp))
    | seq x y =>
      rw [hstep] at h
      simp only [evStep] at h
      obtain ⟨l, h1, h2⟩ := bindO_some h
      refine tri_seq (ihc _ _ _ _ h1 ρ n0 _ hb fun o ho => ?_)
      obtain ⟨e, s⟩ := o
      obtain ⟨b', h3, h4⟩ := h2 _ ho
      cases e with
      | normal => exact ihc _ _ _ _ h3 ρ n0 Q hb fun o' ho' => hQ _ (h4 _ ho')
      | _ => cases h3; exact hQ (_, _) (h4 _ (by simp))
    | cond x y z =>
      rw [hstep] at h
      simp only [evStep] at h
      split at h
      · rename_i t hx
        exact tri_cond hx (ihc _ _ _ _ h ρ n0 Q hb hQ)
      · cases h
    | block id c =>
      rw [hstep] at h
      simp only [evStep] at h
      obtain ⟨l, h1, h2⟩ := bindO_some h
      refine tri_block (ihc _ _ _ _ h1 ρ n0 _ hb fun o ho => ?_)
      obtain ⟨e, s⟩ := o
      obtain ⟨b', h3, h4⟩ := h2 _ ho
      cases e with
      | exit j =>
        dsimp only at h3
        simp only [blockQ]
        split at h3
        · rename_i hj; cases h3; rw [if_pos hj]; exact hQ (_, _) (h4 _ (by simp))
        · rename_i hj; cases h3; rw [if_neg hj]; exact hQ (_, _) (h4 _ (by simp))
      | _ => cases h3; exact hQ (_, _) (h4 _ (by simp))
    | loop c => exact tri_loop (n + 1) (loop _ _ _ _ h ρ n0 Q hb hQ)
    | region id ops d =>
      rw [hstep] at h
      cases d with
      | false =>
        simp only [evStep] at h
        split at h
        · rename_i l h1
          cases h
          exact tri_region ht (opsF_sound hor hna (fnF_ok ht hcall ihc) (yldF_ok ihc) h1 fun s hs => hQ (_, _) (List.mem_map.2 ⟨s, hs, rfl⟩))
        · split at h
          · rename_i st' hst'
            obtain ⟨l, h1, h2⟩ := bindO_some h
            refine tri_freeze hst' (tri_region ht (opsF_sound hor hna (fnF_ok ht hcall ihc) (yldF_ok ihc) h1 fun s hs => ?_))
            obtain ⟨b', h3, h4⟩ := h2 _ hs
            cases h3
            exact hQ (_, _) (h4 _ (by simp))
          · cases h
      | true =>
        simp only [evStep] at h
        have one : ∀ (st : St) (outs : List (Exit × St)), (∀ o ∈ outs, Q o.1 o.2) → firstF (mixF P tt nat orc (ev P tt pl nat orc n) ops st) (pl id ops) = some outs → Tri P ρ n0 (.region id ops true) st Q := fun st outs hQ h => by
          obtain ⟨p, -, hp⟩ := firstF_some h
          unfold mixF at hp
          split at hp
          · rename_i hok
            split at hp
            · rename_i s hs
              cases hp
              exact tri_mixed ht hm p.1 p.2 hok (runMF_sound hna (orcP_ok hor (pureF_ok ht hcall ihc)) (liveF_ok ht hcall ihc) hs (hQ (_, _) (by simp)))
            · cases hp
          · cases hp
        split at h
        · rename_i x hx; cases h; exact one st _ hQ hx
        · split at h
          · rename_i st' hst'
            exact tri_freeze hst' (one st' _ hQ h)
          · cases h
    | rangeFunc f params assign body =>
      rw [hstep] at h
      simp only [evStep] at h
      split at h
      · cases h
      · rename_i hbf
        have hρ : ρ = none := by rcases hb with h | h
                                 · exact absurd h hbf
                                 · exact h
        subst hρ
        split at h
        · rename_i g vs hg
          obtain ⟨l, h1, h2⟩ := bindO_some h
          refine tri_rangeFuncR hg (fnF_ok ht hcall ihc _ _ _ _ h1) fun r mem2 hr => ?_
          obtain ⟨b', h3, h4⟩ := h2 _ hr
          dsimp only at h3
          split at h3
          · rename_i s pend fr' ps' as' bd' hm2
            split at h3
            · rename_i hnb
              refine ⟨s, pend, fr', ps', as', bd', hm2, (fun e => by subst e; cases hnb), ?_⟩
              split at h3
              · rw [fSt_eq] at h3; cases h3; exact hQ (_, _) (h4 _ (by simp))
              · rename_i c
                rw [fSt_eq] at h3
                exact ihc _ _ _ _ h3 none n0 Q (.inr rfl) fun o' ho' => hQ _ (h4 _ ho')
            · cases h3
          · cases h3
        · cases h
    | _ => rw [hstep] at h; simp [evStep] at h

include hm in
theorem ev_fn (hor : OrcOk P orc) (hna : NatFOk P nat) (n : Nat) {f : FuncId} {vs : List V} {r : V} (h : pureF P tt (ev P tt pl nat orc n) f vs = some r) : FnOk P f vs r := pureF_ok ht hcall (ev_ok ht hm hcall hor hna n).1 f vs r h
end
def noGo (P : Program) : Bool := P.funcs.all fun fn => fn.name != "runtime.NumGoroutine"
theorem hcall_of {P : Program} (h : noGo P = true) (f : FuncId) (fn : Func) (body : Code) (hf : P.funcs[f]? = some fn) (hb : fn.body = some body) (xs : Array Value) (w : World) : (callFunc f xs).run P w = .ok (.enter f xs) w := by
  have hlt : f < P.funcs.size := (Array.getElem?_eq_some_iff.1 hf).1
  have hn := (Array.all_eq_true.1 h) f hlt
  have hfe : P.funcs[f] = fn := (Array.getElem?_eq_some_iff.1 hf).2
  rw [hfe] at hn
  have hne : (fn.name == "runtime.NumGoroutine") = false := by simpa using hn
  simp only [callFunc,program,Sem.run_bind]
  show (match P.funcs[f]? with | none => _ | some fn => _ : Sem Next).run P w = _
  rw [hf]
  dsimp only
  rw [hne, hb]
  rfl
def planOf (l : List (Nat × Nat × Nat × List Pl)) : Plans := fun id ops =>
  (l.filter fun e => e.1 == id && e.2.1 == ops.size).map fun e => (e.2.2.2, e.2.2.1)
def idxStr : List V → Option V
  | [.sc (.string a), .sc (.string b)] => if 2 ≤ b.size ∧ cmpG b.size = true ∧ a.size < 4294967281 then
      (match (List.range (a.size + 1 - b.size)).find? fun i => a.extract i (i + b.size) == b with
        | some i => some (.sc (.int .i64 i))
        | none => some (.sc (.int .i64 (-1)))) else none
  | _ => none
theorem idxStr_ok {P : Program} {f : FuncId} {fn : Func} {g : Nat} (hf : P.funcs[f]? = some fn) (hn : (fn.name == "runtime.NumGoroutine") = false) (hb : fn.body = none) (hnext : Extern.findNext fn = none) (hfind : Extern.find fn = some Extern.BytealgIndex.index)
    (hg : ∀ w, (globalAddr "internal/bytealg.MaxLen").run P w = .ok ⟨g, 0, none⟩ w) (hG : Glob.g = some g) {vs : List V} {r : V} (h : idxStr vs = some r) : NatOk P f vs r := fun E w xs hF hx => by
  unfold idxStr at h
  split at h
  · rename_i a b
    split at h
    · rename_i hc
      obtain ⟨h2, hm, ha⟩ := hc
      rw [cmpG_eq] at hm
      have hm : (b.size : Int) ≤ Glob.n := by simpa using hm
      obtain ⟨x, r1, hy, hr1, hx⟩ := hx.of_cons
      obtain ⟨y, r2, hz, hr2, hx⟩ := hx.of_cons
      have := hx.of_nil
      subst this; subst hz
      obtain rfl := rep_sc hr1
      obtain rfl := rep_sc hr2
      obtain rfl : xs = #[.string a, .string b] := by rw [← Array.toArray_toList (xs := xs), hy]
      have hcell : w.cell? ⟨g, 0, none⟩ = some (.int .i64 Glob.n) := hF _ _ (E.gl.n g hG)
      have hmax : Extern.BytealgIndex.maxLen.run P w = .ok Glob.n w := by
        simp [Extern.BytealgIndex.maxLen, hg, load, Sem.run, hcell, asInt, asIntOf]
      have hrun : (Extern.BytealgIndex.index #[.string a, .string b]).run P w = .ok (match (List.range (a.size + 1 - b.size)).find? fun i => a.extract i (i + b.size) == b with | some i => goInt i | none => goInt (-1)) w := by
        show (do
          let a ← Extern.Bytes.bytesOf (.string a)
          let b ← Extern.Bytes.bytesOf (.string b)
          if b.size < 2 || (b.size : Int) > (← Extern.BytealgIndex.maxLen) then
            unsupported (.noEntry "extern/internal/bytealg.Index.length")
          if a.size ≥ 2 ^ 32 - 15 then
            unsupported (.noEntry "extern/internal/bytealg.Index: a haystack of 2^32 - 15 bytes or more")
          match (List.range (a.size + 1 - b.size)).find? fun i => a.extract i (i + b.size) == b with
          | some i => pure (goInt i)
          | none => pure (goInt (-1)) : Sem Value).run P w = _
        have e1 : (decide (b.size < 2)) = false := by simp; omega
        have e2 : decide ((b.size : Int) > Glob.n) = false := by simp; omega
        have e3 : ¬ a.size ≥ 2 ^ 32 - 15 := by omega
        simp only [Extern.Bytes.bytesOf,Sem.run_bind,Sem.run_pure,Result.andThen_ok,hmax,e1,e2,Bool.or_self,Bool.false_eq_true,if_false,e3]
        split <;> rfl
      refine ⟨(match (List.range (a.size + 1 - b.size)).find? fun i => a.extract i (i + b.size) == b with | some i => goInt i | none => goInt (-1)), ?_, ?_⟩
      · simp only [callFunc,program,Sem.run_bind]
        show (match P.funcs[f]? with | none => _ | some fn => _ : Sem Next).run P w = _
        rw [hf]
        dsimp only
        rw [hn, hb]
        simp only [Bool.false_eq_true,if_false,Option.isNone_none,if_true,hnext,hfind,Sem.run_bind,mark,Sem.run,Result.andThen_ok]
        rw [hrun]; rfl
      · split at h
        · cases h; exact .sc _ _
        · cases h; exact .sc _ _
    · cases h
  · cases h
end Go.Eng
end
