/-
  READINGS: what the reading of an argument (DataW.trod) says of its cells, for types made of truth values, integers, strings, slices, structures.
  READINGS, B: the abstract values that a reading gives.
  PLAIN LAWS of chapter 32: sets of places, releases, what roots reach, canonical bytes. No program in sight.
  ENCODINGS of chapter 32's data.
  CONTRACTS: bytes of names, exactly.
  CONTRACTS: versions, places.
  CONTRACTS: comparing.
  EQUALITY of structs of chapter 32: spans, numbers, what is selected.
  CONTRACTS: releases: keys, places; sets of places.
-/
import Derived.Test.YtnfeacnbgbggfaaGreatDoorH1
import Derived.Test.YtnfeacnbgbggfaaGreatDoorRows
import Derived.Sort.Walk0
set_option linter.all false
section
namespace Go.Proofs.YtnfeacnbgbggfaaGreatDoor
open Go.Eng
variable [Glob]
section
variable {H : Type} {enc : TypeId × Value → H} {P : Program} {w : World} {sp : Nat → Bool} {held : Bool} {f : Nat} {T : TypeId} {cs : List Value} {d : DataW H} {p : List MemPlace}
theorem trod_bool (hT : P.underlying T = some .bool) (h : DataW.trod enc P w 0 sp held (f + 1) T cs = some (d, p)) : ∃ b, cs = [.bool b] ∧ d = .lit (.bool b) := by
 unfold DataW.trod at h
 rw [hT] at h
 split at h <;> simp_all
theorem trod_int {k : IntKind} (hT : P.underlying T = some (.int k)) (h : DataW.trod enc P w 0 sp held (f + 1) T cs = some (d, p)) : ∃ n, cs = [.int k n] ∧ d = .lit (.int k n) := by
 unfold DataW.trod at h
 rw [hT] at h
 split at h <;> simp_all
theorem trod_string (hT : P.underlying T = some .string) (h : DataW.trod enc P w 0 sp held (f + 1) T cs = some (d, p)) : ∃ s, cs = [.string s] ∧ d = .lit (.string s.data.toList) := by
 unfold DataW.trod at h
 rw [hT] at h
 split at h <;> simp_all
theorem mapM_get {α β : Type} {g : α → Option β} : ∀ {l : List α} {r : List β}, l.mapM g = some r → r.length = l.length ∧ ∀ (i : Nat) (b : β), r[i]? = some b → ∃ a : α, l[i]? = some a ∧ g a = some b
 | [], r, h => by simp at h; subst h; simp
 | a :: l, r, h => by
  rw [List.mapM_cons] at h
  cases h1 : g a with
  | none => rw [h1] at h; simp at h
  | some b =>
   rw [h1] at h
   cases h2 : l.mapM g with
   | none => rw [h2] at h; simp at h
   | some r' =>
    rw [h2] at h
    simp at h
    subst h
    obtain ⟨e1, e2⟩ := mapM_get h2
    refine ⟨by simp [e1], fun i b' hb => ?_⟩
    cases i with
    | zero => simp at hb; subst hb; exact ⟨a, rfl, h1⟩
    | succ i => simpa using e2 i b' (by simpa using hb)
theorem trod_slice {T' : TypeId} (hT : P.underlying T = some (.slice T')) (h : DataW.trod enc P w 0 sp held (f + 1) T cs = some (d, p)) :
  (cs = [.slice none 0 0] ∧ d = .nil) ∨ ∃ (a : Addr) (cap : Nat) (elems spare : List (DataW H)), cs = [.slice (some a) elems.length cap] ∧ d = .slice elems spare ∧ elems.length ≤ cap ∧
   ∀ (i : Nat) (e : DataW H), elems[i]? = some e → ∃ cs' p', w.cells? 0 (a.add (i * P.cellsOf T')) (P.cellsOf T') = some cs' ∧ DataW.trod enc P w 0 sp held f T' cs' = some (e, p') := by
 unfold DataW.trod at h
 rw [hT] at h
 split at h <;> try (simp at *; done)
 ·rename_i e' h1 h2
  simp at h
  exact .inl ⟨rfl, h.1.symm⟩
 ·rename_i e' a len cap h1
  obtain rfl : T' = e' := by simpa using h1
  refine .inr ?_
  dsimp only at h
  split at h
  ·rename_i hb
   cases h3 : (List.range len).mapM (fun i => (w.cells? 0 (a.add (i * P.cellsOf T')) (P.cellsOf T')).bind (DataW.trod enc P w 0 sp held f T')) with
   | none => rw [h3] at h; simp at h
   | some elems =>
    rw [h3] at h
    obtain ⟨e1, e2⟩ := mapM_get h3
    simp only [Option.bind_some,Option.map_eq_some_iff] at h
    obtain ⟨rest, -, h5⟩ := h
    simp only [Prod.mk.injEq] at h5
    have hl : elems.length = len := by simpa using e1
    refine ⟨a, cap, elems.map (·.1), rest.map (·.1), by rw [List.length_map, hl], h5.1.symm, by rw [List.length_map, hl]; exact hb.2.1, fun i e he => ?_⟩
    rw [List.getElem?_map, Option.map_eq_some_iff] at he
    obtain ⟨x, hx, rfl⟩ := he
    obtain ⟨j, hj, hg⟩ := e2 i x hx
    have hij : j = i := by
     obtain ⟨hlt, hv⟩ := List.getElem?_eq_some_iff.1 hj
     simpa using hv.symm
    subst hij
    rw [Option.bind_eq_some_iff] at hg
    obtain ⟨cs', hc, ht⟩ := hg
    exact ⟨cs', x.2, hc, ht⟩
  ·simp at h
theorem trod_struct {fs : Array Field} (hT : P.underlying T = some (.struct fs)) (h : DataW.trod enc P w 0 sp held (f + 1) T cs = some (d, p)) :
  cs.length = P.cellsOf T ∧ ∃ parts : List (DataW H), d = .agg parts ∧ parts.length = fs.size ∧
   ∀ (i : Nat) (e : DataW H), parts[i]? = some e → ∃ (fd : Field) (p' : List MemPlace), fs[i]? = some fd ∧ DataW.trod enc P w 0 sp held f fd.type ((cs.drop fd.offset).take (P.cellsOf fd.type)) = some (e, p') := by
 unfold DataW.trod at h
 rw [hT] at h
 split at h <;> try (simp at *; done)
 ·rename_i fs' h1
  obtain rfl : fs = fs' := by simpa using h1
  split at h
  ·rename_i hl
   refine ⟨hl, ?_⟩
   rw [Option.map_eq_some_iff] at h
   obtain ⟨xs, h3, h4⟩ := h
   simp only [Prod.mk.injEq] at h4
   obtain ⟨e1, e2⟩ := mapM_get h3
   refine ⟨xs.map (·.1), h4.1.symm, by rw [List.length_map, e1]; simp, fun i e he => ?_⟩
   rw [List.getElem?_map, Option.map_eq_some_iff] at he
   obtain ⟨x, hx, rfl⟩ := he
   obtain ⟨fd, hj, hg⟩ := e2 i x hx
   exact ⟨fd, x.2, by simpa using hj, hg⟩
  ·simp at h
end
end Go.Proofs.YtnfeacnbgbggfaaGreatDoor
end

section
namespace Go.Proofs.YtnfeacnbgbggfaaGreatDoor
open Go.Eng
variable [Glob]
def Rd (F : Addr → Option Value) (hg : Gl F) (vs : List V) (cs : List Value) : Prop := RepL ⟨F, fun _ _ => none, hg⟩ vs cs ∧ ∀ c ∈ cs, c.oneCell' = true
section
variable {F : Addr → Option Value} {hg : Gl F}
theorem rd_one {v : Value} (h : v.oneCell' = true) : Rd F hg [.sc v] [v] := ⟨.cons (.sc _ _) (.nil _), by simpa using h⟩
theorem rd_step {a b : List V} {cs : List Value} {off n : Nat} (h1 : Rd F hg a ((cs.drop off).take n)) (h2 : Rd F hg b (cs.drop (off + n))) : Rd F hg (a ++ b) (cs.drop off) := by
 have e : cs.drop off = (cs.drop off).take n ++ cs.drop (off + n) := by rw [← List.drop_drop, List.take_append_drop]
 rw [e]
 refine ⟨.append h1.1 h2.1, fun c hc => ?_⟩
 rcases List.mem_append.1 hc with hc | hc
 ·exact h1.2 c hc
 ·exact h2.2 c hc
theorem addr_add_add (a : Addr) (x y : Nat) : (a.add x).add y = a.add (x + y) := by
 unfold Addr.add
 by_cases hx : x = 0
 ·subst hx; simp
 ·by_cases hy : y = 0
  ·subst hy; simp
  ·simp [hx, hy, Nat.add_assoc]
theorem choose_list {α β : Type} {R : Nat → β → α → Prop} : ∀ {es : List β}, (∀ (i : Nat) (e : β), es[i]? = some e → ∃ a : α, R i e a) → ∃ l : List α, l.length = es.length ∧ ∀ (i : Nat) (e : β) (a : α), es[i]? = some e → l[i]? = some a → R i e a := by
 intro es
 induction es generalizing R with
 | nil => intro _; exact ⟨[], rfl, by simp⟩
 | cons e r ih =>
  intro h
  obtain ⟨a, ha⟩ := h 0 e rfl
  obtain ⟨l, hl, hr⟩ := ih (R := fun i => R (i + 1)) fun i e he => h (i + 1) e (by simpa using he)
  refine ⟨a :: l, by simp [hl], fun i e' a' he ha' => ?_⟩
  cases i with
  | zero => simp at he ha'; subst he; subst ha'; exact ha
  | succ i => exact hr i e' a' (by simpa using he) (by simpa using ha')
theorem sum_le_bulk {H α : Type} {g : α → Nat} : ∀ {l : List α} {es : List (DataW H)}, l.length = es.length → (∀ (i : Nat) (e : DataW H) (a : α), es[i]? = some e → l[i]? = some a → g a ≤ Rows.uptoBulk e) → sumBy g l ≤ Rows.uptoBulkAll es
 | [], [], _, _ => by simp [sumBy]
 | a :: l, e :: es, hl, h => by
  have h1 := h 0 e a rfl rfl
  have h2 := sum_le_bulk (l := l) (es := es) (g := g) (by simpa using hl) fun i e a he ha => h (i + 1) e a (by simpa using he) (by simpa using ha)
  simp only [sumBy,Rows.uptoBulkAll]; omega
 | [], _ :: _, hl, _ => by simp at hl
 | _ :: _, [], hl, _ => by simp at hl
theorem rd_slice {H : Type} {enc : TypeId × Value → H} {P : Program} {w : World} {sp : Nat → Bool} {held : Bool} {f : Nat} {T T' : TypeId} {α : Type} {row : α → V} {g : α → Nat} {n : Nat}
  (hF : F = w.cell?) (hT : P.underlying T = some (.slice T')) (hn : P.cellsOf T' = n)
  (hr : ∀ {cs : List Value} {d : DataW H} {p : List MemPlace}, DataW.trod enc P w 0 sp held f T' cs = some (d, p) → ∃ a : α, Rd F hg (row a).cells cs ∧ g a ≤ Rows.uptoBulk d)
  {cs : List Value} {d : DataW H} {p : List MemPlace} (h : DataW.trod enc P w 0 sp held (f + 1) T cs = some (d, p)) :
  ∃ l : List α, Rd F hg [.slice (l.map row)] cs ∧ sumBy g l + 1 ≤ Rows.uptoBulk d := by
 rcases trod_slice hT h with ⟨rfl, rfl⟩ | ⟨a, cap, elems, spare, rfl, rfl, hc, he⟩
 ·exact ⟨[], ⟨.cons (.slice _ [] none 0 0 default (fun _ _ => default) (by simp) (by simp) (by simp) (by simp) (by simp) (by simp)) (.nil _), by simp [Value.oneCell']⟩, by simp [sumBy, Rows.uptoBulk]⟩
 ·obtain ⟨l, hl, hR⟩ := choose_list (es := elems) (R := fun i e (x : α) => ∃ cs' : List Value, w.cells? 0 (a.add (i * P.cellsOf T')) (P.cellsOf T') = some cs' ∧ Rd F hg (row x).cells cs' ∧ g x ≤ Rows.uptoBulk e) fun i e hi => by
   obtain ⟨cs', p', h1, h2⟩ := he i e hi
   obtain ⟨x, h3, h4⟩ := hr h2
   exact ⟨x, cs', h1, h3, h4⟩
  rw [hn] at hR
  have key : ∀ (i : Nat) (x : α), l[i]? = some x → ∃ cs' : List Value, Rd F hg (row x).cells cs' ∧ (row x).cells.length = n ∧ ∀ (j : Nat) (c : Value), cs'[j]? = some c → F (a.add (i * n + j)) = some c := fun i x hx => by
   obtain ⟨e, hei⟩ : ∃ e, elems[i]? = some e := ⟨_, List.getElem?_eq_getElem (by rw [← hl]; exact (List.getElem?_eq_some_iff.1 hx).1)⟩
   obtain ⟨cs', h1, h2, -⟩ := hR i e x hei hx
   unfold World.cells? at h1
   rw [if_pos (Nat.zero_le _)] at h1
   obtain ⟨e1, e2⟩ := mapM_get h1
   refine ⟨cs', h2, by rw [h2.1.1, e1]; simp, fun j c hj => ?_⟩
   obtain ⟨k, hk, hc'⟩ := e2 j c hj
   have hkj : k = j := by
    obtain ⟨hlt, hv⟩ := List.getElem?_eq_some_iff.1 hk
    simpa using hv.symm
   subst hkj
   rw [addr_add_add] at hc'
   rw [hF]; exact hc'
  have cell : ∀ (i : Nat) (r : V) (j : Nat) (c : V), (l.map row)[i]? = some r → r.cells[j]? = some c → ∃ x, F (a.add (i * n + j)) = some x ∧ x.oneCell' = true ∧ Rep ⟨F, fun _ _ => none, hg⟩ c x := fun i r j c hi hj => by
   rw [List.getElem?_map, Option.map_eq_some_iff] at hi
   obtain ⟨x, hx, rfl⟩ := hi
   obtain ⟨cs', h2, -, h3⟩ := key i x hx
   obtain ⟨y, hy, hrep⟩ := h2.1.get hj
   exact ⟨y, h3 j y hy, h2.2 y (List.mem_of_getElem? hy), hrep⟩
  refine ⟨l, ⟨.cons ?_ (.nil _), by simp [Value.oneCell']⟩, ?_⟩
  ·have := Rep.slice ⟨F, fun _ _ => none, hg⟩ (l.map row) (some a) cap n a (fun i j => (F (a.add (i * n + j))).getD default) (fun _ => rfl) (by rw [List.length_map, hl]; exact hc)
    (fun i r hi => by
     rw [List.getElem?_map, Option.map_eq_some_iff] at hi
     obtain ⟨x, hx, rfl⟩ := hi
     obtain ⟨_, -, h, -⟩ := key i x hx
     exact h)
    (fun i r j c hi hj => by obtain ⟨x, h, -, -⟩ := cell i r j c hi hj; show F _ = some ((F _).getD _); rw [h]; rfl)
    (fun i r j c hi hj => by obtain ⟨x, h, h', -⟩ := cell i r j c hi hj; show Value.oneCell' ((F _).getD _) = true; rw [h]; exact h')
    (fun i r j c hi hj => by obtain ⟨x, h, -, h'⟩ := cell i r j c hi hj; show Rep _ c ((F _).getD _); rw [h]; exact h')
   rwa [List.length_map, hl] at this
  ·have := sum_le_bulk (g := g) hl fun i e x he hx => by obtain ⟨_, -, -, h⟩ := hR i e x he hx; exact h
   simp only [Rows.uptoBulk]; omega
end
def PartsE {H : Type} (enc : TypeId × Value → H) (P : Program) (w : World) (sp : Nat → Bool) (held : Bool) (f : Nat) (cs : List Value) : List Field → (List (DataW H) → Prop) → Prop
 | [], K => K []
 | fd :: r, K => ∃ (e : DataW H) (p : List MemPlace), DataW.trod enc P w 0 sp held f fd.type ((cs.drop fd.offset).take (P.cellsOf fd.type)) = some (e, p) ∧ PartsE enc P w sp held f cs r fun es => K (e :: es)
theorem partsE_of {H : Type} {enc : TypeId × Value → H} {P : Program} {w : World} {sp : Nat → Bool} {held : Bool} {f : Nat} {cs : List Value} : ∀ {fs : List Field} {K : List (DataW H) → Prop} {es : List (DataW H)}, es.length = fs.length →
  (∀ (i : Nat) (e : DataW H), es[i]? = some e → ∃ (fd : Field) (p' : List MemPlace), fs[i]? = some fd ∧ DataW.trod enc P w 0 sp held f fd.type ((cs.drop fd.offset).take (P.cellsOf fd.type)) = some (e, p')) → K es → PartsE enc P w sp held f cs fs K
 | [], K, [], _, _, hK => hK
 | fd :: r, K, e :: es, hl, h, hK => by
  obtain ⟨fd', p', h1, h2⟩ := h 0 e rfl
  obtain rfl : fd = fd' := by simpa using h1
  exact ⟨e, p', h2, partsE_of (es := es) (by simpa using hl) (fun i e he => by simpa using h (i + 1) e (by simpa using he)) hK⟩
 | [], _, _ :: _, hl, _, _ => by simp at hl
 | _ :: _, _, [], hl, _, _ => by simp at hl
theorem trod_parts {H : Type} {enc : TypeId × Value → H} {P : Program} {w : World} {sp : Nat → Bool} {held : Bool} {f : Nat} {T : TypeId} {cs : List Value} {d : DataW H} {p : List MemPlace} {fs : Array Field}
  (hT : P.underlying T = some (.struct fs)) (h : DataW.trod enc P w 0 sp held (f + 1) T cs = some (d, p)) : cs.length = P.cellsOf T ∧ PartsE enc P w sp held f cs fs.toList fun es => d = .agg es := by
 obtain ⟨h1, parts, h2, h3, h4⟩ := trod_struct hT h
 exact ⟨h1, partsE_of (by simpa using h3) (fun i e he => by simpa using h4 i e he) h2⟩
end Go.Proofs.YtnfeacnbgbggfaaGreatDoor
end

section
namespace Go.Proofs.YtnfeacnbgbggfaaGreatDoor
structure Spn where
 lo : Int
 hi : Int
def clipOne (x : Spn) : Option Spn := if max x.lo 0 < min x.hi 1000000 then some ⟨max x.lo 0, min x.hi 1000000⟩ else none
def clip (s : List Spn) : List Spn := s.filterMap clipOne
def insS : List Spn → Spn → List Spn
 | [], x => [x]
 | y :: r, x => if y.lo ≤ x.lo then y :: insS r x else x :: y :: r
def mstep (out : List Spn) (x : Spn) : List Spn := match out.getLast? with
 | some y => if x.lo ≤ y.hi then out.dropLast ++ [⟨y.lo, max y.hi x.hi⟩] else out ++ [x]
 | none => [x]
def merge (l : List Spn) : List Spn := l.foldl mstep []
def canon (s : List Spn) : List Spn := merge ((clip s).foldl insS [])
def AscLo (l : List Spn) : Prop := l.Pairwise fun a b => a.lo ≤ b.lo
theorem mstep_comm (out : List Spn) (x y : Spn) (h : x.lo = y.lo) (hx : x.lo ≤ x.hi) (hy : y.lo ≤ y.hi) : mstep (mstep out x) y = mstep (mstep out y) x := by
 unfold mstep
 cases hl : out.getLast? with
 | none =>
  simp only [List.getLast?_singleton,List.dropLast_singleton,List.nil_append]
  rw [if_pos (by omega), if_pos (by omega)]
  simp only [h,Int.max_comm]
 | some z =>
  dsimp only
  by_cases hz : x.lo ≤ z.hi
  ·rw [if_pos hz, if_pos (by omega)]
   simp only [List.getLast?_append,List.getLast?_singleton,Option.some_or,List.dropLast_concat]
   rw [if_pos (by omega), if_pos (by omega)]
   simp only [Int.max_assoc,Int.max_comm x.hi]
  ·rw [if_neg hz, if_neg (by omega)]
   simp only [List.getLast?_append,List.getLast?_singleton,Option.some_or,List.dropLast_concat]
   rw [if_pos (by omega), if_pos (by omega)]
   simp only [h,Int.max_comm]
theorem foldl_front (x : Spn) : ∀ (p : List Spn) (out : List Spn), (∀ y ∈ p, y.lo = x.lo ∧ y.lo ≤ y.hi) → x.lo ≤ x.hi → (p ++ [x]).foldl mstep out = (x :: p).foldl mstep out
 | [], out, _, _ => rfl
 | y :: r, out, h, hx => by
  have h1 := h y (by simp)
  rw [List.cons_append, List.foldl_cons, foldl_front x r _ (fun z hz => h z (by simp [hz])) hx]
  simp only [List.foldl_cons]
  rw [mstep_comm out y x h1.1 h1.2 hx]
theorem merge_perm : ∀ (l m : List Spn) (out : List Spn), l.Perm m → AscLo l → AscLo m → (∀ x ∈ l, x.lo ≤ x.hi) → l.foldl mstep out = m.foldl mstep out
 | [], m, out, hp, _, _, _ => by rw [hp.nil_eq]
 | x :: t, m, out, hp, hl, hm, hw => by
  have hxm : x ∈ m := hp.subset (by simp)
  obtain ⟨p, q, rfl⟩ := List.append_of_mem hxm
  have hpe : ∀ y ∈ p, y.lo = x.lo ∧ y.lo ≤ y.hi := fun y hy => by
   have hyl : y ∈ x :: t := hp.symm.subset (by simp [hy])
   have h1 : y.lo ≤ x.lo := (List.pairwise_append.1 hm).2.2 y hy x (by simp)
   have h2 : x.lo ≤ y.lo := by
    rcases List.mem_cons.1 hyl with rfl | h
    ·omega
    ·exact (List.pairwise_cons.1 hl).1 y h
   exact ⟨by omega, hw y hyl⟩
  have hx := hw x (by simp)
  have e : (p ++ x :: q).foldl mstep out = (x :: (p ++ q)).foldl mstep out := by
   rw [show p ++ x :: q = (p ++ [x]) ++ q by simp, List.foldl_append, foldl_front x p out hpe hx, ← List.foldl_append]; rfl
  rw [e, List.foldl_cons, List.foldl_cons]
  refine merge_perm t (p ++ q) _ ?_ (List.pairwise_cons.1 hl).2 ?_ fun y hy => hw y (by simp [hy])
  ·exact (List.perm_cons x).1 (hp.trans (by simpa using List.perm_middle))
  ·rw [AscLo, List.pairwise_append] at hm ⊢
   exact ⟨hm.1, (List.pairwise_cons.1 hm.2.1).2, fun a ha b hb => hm.2.2 a ha b (by simp [hb])⟩
theorem insS_perm : ∀ (l : List Spn) (x : Spn), (insS l x).Perm (x :: l)
 | [], x => List.Perm.refl _
 | y :: r, x => by
  unfold insS
  split
  ·exact ((insS_perm r x).cons y).trans (List.Perm.swap x y r)
  ·exact List.Perm.refl _
theorem insS_asc : ∀ (l : List Spn) (x : Spn), AscLo l → AscLo (insS l x)
 | [], x, _ => List.pairwise_singleton _ _
 | y :: r, x, h => by
  have h1 := List.pairwise_cons.1 h
  unfold insS
  split
  ·rename_i hy
   refine List.pairwise_cons.2 ⟨fun z hz => ?_, insS_asc r x h1.2⟩
   rcases List.mem_cons.1 ((insS_perm r x).subset hz) with rfl | hz
   ·exact hy
   ·exact h1.1 z hz
  ·rename_i hy
   refine List.pairwise_cons.2 ⟨fun z hz => ?_, h⟩
   rcases List.mem_cons.1 hz with rfl | hz
   ·omega
   ·have := h1.1 z hz; omega
theorem foldl_insS : ∀ (m l : List Spn), AscLo l → AscLo (m.foldl insS l) ∧ (m.foldl insS l).Perm (l ++ m)
 | [], l, h => ⟨h, by simp⟩
 | x :: t, l, h => by
  obtain ⟨h1, h2⟩ := foldl_insS t (insS l x) (insS_asc l x h)
  refine ⟨h1, h2.trans ?_⟩
  exact ((insS_perm l x).append_right t).trans (by simp [List.perm_middle.symm])
theorem clip_ok {s : List Spn} : ∀ x ∈ clip s, 0 ≤ x.lo ∧ x.lo < x.hi ∧ x.hi ≤ 1000000 := fun x hx => by
 obtain ⟨y, -, hy⟩ := List.mem_filterMap.1 hx
 unfold clipOne at hy
 split at hy
 ·cases hy; dsimp only; omega
 ·cases hy
theorem canon_of {s l : List Spn} (hp : l.Perm (clip s)) (ha : AscLo l) : merge l = canon s := by
 obtain ⟨h1, h2⟩ := foldl_insS (clip s) [] List.Pairwise.nil
 exact merge_perm l _ [] (hp.trans (by simpa using h2.symm)) ha h1 fun x hx => by have := clip_ok x (hp.subset hx); omega
structure Ver where
 mj : Int
 mn : Int
 pt : Int
structure Rq where
 path : ByteArray
 set : List Spn
structure Rl where
 path : ByteArray
 ver : Ver
 reqs : List Rq
 ar : ByteArray
 itf : ByteArray
 ce : ByteArray
 yk : Bool
structure Sel where
 path : ByteArray
 ver : Ver
theorem Ver.ext' {a b : Ver} (h1 : a.mj = b.mj) (h2 : a.mn = b.mn) (h3 : a.pt = b.pt) : a = b := by cases a; cases b; simp_all
theorem Spn.ext' {a b : Spn} (h1 : a.lo = b.lo) (h2 : a.hi = b.hi) : a = b := by cases a; cases b; simp_all
instance : DecidableEq Spn := fun a b => if h : a.lo = b.lo ∧ a.hi = b.hi then .isTrue (Spn.ext' h.1 h.2) else .isFalse fun e => h (by subst e; exact ⟨rfl, rfl⟩)
theorem Sel.ext' {a b : Sel} (h1 : a.path = b.path) (h2 : a.ver = b.ver) : a = b := by cases a; cases b; simp_all
instance : DecidableEq Ver := fun a b => if h : a.mj = b.mj ∧ a.mn = b.mn ∧ a.pt = b.pt then .isTrue (Ver.ext' h.1 h.2.1 h.2.2) else .isFalse fun e => h (by subst e; exact ⟨rfl, rfl, rfl⟩)
instance : DecidableEq Sel := fun a b => if h : a.path = b.path ∧ a.ver = b.ver then .isTrue (Sel.ext' h.1 h.2) else .isFalse fun e => h (by subst e; exact ⟨rfl, rfl⟩)
def Rl.key (r : Rl) : Sel := ⟨r.path, r.ver⟩
def Ver.place (v : Ver) : Int := 1000 * v.mn + v.pt
def has (s : List Spn) (p : Int) : Bool := decide (0 ≤ p) && decide (p < 1000000) && s.any fun x => decide (x.lo ≤ p) && decide (p < x.hi)
def hits (q : Rq) (r : Rl) : Bool := decide (q.path = r.path) && has q.set r.ver.place
inductive Rch (l : List Rl) (roots : List Rq) : Rl → Prop
 | root (q : Rq) (r : Rl) (hq : q ∈ roots) (hr : r ∈ l) (h : hits q r = true) : Rch l roots r
 | step (a : Rl) (q : Rq) (r : Rl) (ha : Rch l roots a) (hq : q ∈ a.reqs) (hr : r ∈ l) (h : hits q r = true) : Rch l roots r
theorem Rch.mem {l : List Rl} {roots : List Rq} {r : Rl} (h : Rch l roots r) : r ∈ l := by cases h <;> assumption
theorem Rch.mono {l : List Rl} {roots more : List Rq} (hm : ∀ q ∈ roots, q ∈ more) {r : Rl} (h : Rch l roots r) : Rch l more r := by
 induction h with
 | root q r hq hr h => exact .root q r (hm q hq) hr h
 | step a q r _ hq hr h ih => exact .step a q r ih hq hr h
noncomputable def reached (l : List Rl) (roots : List Rq) : List Rl := l.filter fun r => @decide _ (Classical.propDecidable (Rch l roots r))
theorem mem_reached {l : List Rl} {roots : List Rq} {r : Rl} : r ∈ reached l roots ↔ Rch l roots r := by
 unfold reached
 rw [List.mem_filter, @decide_eq_true_iff _ (Classical.propDecidable _)]
 exact ⟨fun h => h.2, fun h => ⟨h.mem, h⟩⟩
theorem rch_iff {l : List Rl} {roots : List Rq} (S : Rl → Prop) (h1 : ∀ r, S r → Rch l roots r) (h2 : ∀ q ∈ roots, ∀ r ∈ l, hits q r = true → S r) (h3 : ∀ a, S a → ∀ q ∈ a.reqs, ∀ r ∈ l, hits q r = true → S r) (r : Rl) : S r ↔ Rch l roots r := by
 refine ⟨h1 r, fun h => ?_⟩
 induction h with
 | root q r hq hr h => exact h2 q hq r hr h
 | step a q r _ hq hr h ih => exact h3 a ih q hq r hr h
inductive Need (l : List Rl) (roots : List Rq) : ByteArray → Prop
 | root (q : Rq) (hq : q ∈ roots) : Need l roots q.path
 | step (a : Rl) (q : Rq) (ha : a ∈ l) (hn : Need l roots a.path) (hq : q ∈ a.reqs) : Need l roots q.path
def sat (l : List Rl) (q : Rq) : Bool := l.any fun r => hits q r
theorem sat_iff {l : List Rl} {q : Rq} : sat l q = true ↔ ∃ r ∈ l, hits q r = true := by unfold sat; rw [List.any_eq_true]
def solved (l : List Rl) (roots : List Rq) : Bool := l.all (fun r => r.reqs.all (sat l)) && roots.all (sat l)
theorem solved_iff {l : List Rl} {roots : List Rq} : solved l roots = true ↔ (∀ r ∈ l, ∀ q ∈ r.reqs, sat l q = true) ∧ ∀ q ∈ roots, sat l q = true := by
 unfold solved
 rw [Bool.and_eq_true, List.all_eq_true, List.all_eq_true]
 simp only [List.all_eq_true]
theorem hits_path {q : Rq} {r : Rl} (h : hits q r = true) : q.path = r.path := by
 unfold hits at h
 rw [Bool.and_eq_true] at h
 exact of_decide_eq_true h.1
theorem rch_need {l : List Rl} {roots : List Rq} {r : Rl} (h : Rch l roots r) : Need l roots r.path := by
 induction h with
 | root q r hq hr h => rw [← hits_path h]; exact .root q hq
 | step a q r ha hq hr h ih => rw [← hits_path h]; exact .step a q ha.mem ih hq
theorem Rch.sub {l m : List Rl} {roots : List Rq} (hlm : ∀ r ∈ l, r ∈ m) {r : Rl} (h : Rch l roots r) : Rch m roots r := by
 induction h with
 | root q r hq hr h => exact .root q r hq (hlm r hr) h
 | step a q r _ hq hr h ih => exact .step a q r ih hq (hlm r hr) h
theorem need_sub {l m : List Rl} {roots : List Rq} (hml : ∀ r ∈ m, r ∈ l) (hu : ∀ a ∈ l, ∀ b ∈ l, a.path = b.path → a = b) (hs : solved m roots = true) {p : ByteArray} (h : Need l roots p) : ∃ r ∈ m, r.path = p := by
 obtain ⟨h1, h2⟩ := solved_iff.1 hs
 induction h with
 | root q hq =>
  obtain ⟨r, hr, hh⟩ := sat_iff.1 (h2 q hq)
  exact ⟨r, hr, (hits_path hh).symm⟩
 | step a q ha _ hq ih =>
  obtain ⟨b, hb, hbp⟩ := ih
  obtain rfl := hu b (hml b hb) a ha hbp
  obtain ⟨r, hr, hh⟩ := sat_iff.1 (h1 b hb q hq)
  exact ⟨r, hr, (hits_path hh).symm⟩
def uv (n : Nat) : List UInt8 := if n < 128 then [UInt8.ofNat n] else UInt8.ofNat (n % 128 + 128) :: uv (n / 128)
termination_by n
decreasing_by omega
def scanL : List UInt8 → Nat → Nat → Option (Nat × Nat)
 | [], _, _ => none
 | b :: r, i, n => if 9 < i ∨ i = 9 ∧ 1 < b.toNat then none else
   if b.toNat < 128 then (if i = 0 ∨ 0 < b.toNat then some (n + b.toNat * 2 ^ (7 * i), i + 1) else none)
   else scanL r (i + 1) (n + (b.toNat - 128) * 2 ^ (7 * i))
theorem uv_small {n : Nat} (h : n < 128) : uv n = [UInt8.ofNat n] := by rw [uv, if_pos h]
theorem uv_big {n : Nat} (h : ¬ n < 128) : uv n = UInt8.ofNat (n % 128 + 128) :: uv (n / 128) := by rw [uv, if_neg h]
theorem toNat_small {n : Nat} (h : n < 256) : (UInt8.ofNat n).toNat = n := by simp; omega
theorem scan_uv : ∀ (i n m : Nat) (rest : List UInt8), i ≤ 9 → n < 2 ^ (64 - 7 * i) → (i = 0 ∨ 0 < n) → scanL (uv n ++ rest) i m = some (m + n * 2 ^ (7 * i), i + (uv n).length) := by
 intro i n
 induction n using Nat.strongRecOn generalizing i with
 | _ n ih =>
  intro m rest hi hn h0
  have hb : i = 9 → n < 2 := fun h => by subst h; simpa using hn
  by_cases h : n < 128
  ·rw [uv_small h]
   show scanL (UInt8.ofNat n :: rest) i m = _
   rw [scanL, toNat_small (by omega), if_neg (by omega), if_pos h, if_pos h0]
   rfl
  ·rw [uv_big h]
   have hi9 : i ≠ 9 := fun e => by have := hb e; omega
   show scanL (UInt8.ofNat (n % 128 + 128) :: (uv (n / 128) ++ rest)) i m = _
   rw [scanL, toNat_small (by omega), if_neg (by omega), if_neg (by omega)]
   have hp : 2 ^ (64 - 7 * i) = 128 * 2 ^ (64 - 7 * (i + 1)) := by
    rw [show (128 : Nat) = 2 ^ 7 from rfl, ← Nat.pow_add]
    congr 1; omega
   rw [ih (n / 128) (by omega) (i + 1) _ rest (by omega) (by rw [hp] at hn; exact Nat.div_lt_of_lt_mul hn) (.inr (by omega))]
   have e1 : 2 ^ (7 * (i + 1)) = 128 * 2 ^ (7 * i) := by rw [show (128 : Nat) = 2 ^ 7 from rfl, ← Nat.pow_add]; congr 1; omega
   have e2 : m + (n % 128 + 128 - 128) * 2 ^ (7 * i) + n / 128 * 2 ^ (7 * (i + 1)) = m + n * 2 ^ (7 * i) := by
    rw [e1, Nat.add_sub_cancel, Nat.add_assoc, ← Nat.mul_assoc, ← Nat.add_mul]
    congr 2; omega
   rw [e2, List.length_cons]
   congr 2; omega
theorem uv_scan : ∀ (l : List UInt8) (i m n k : Nat), scanL l i m = some (n, k) → ∃ v, n = m + v * 2 ^ (7 * i) ∧ (i = 0 ∨ 0 < v) ∧ i + (uv v).length = k ∧ ∃ rest, l = uv v ++ rest ∧ v < 2 ^ (64 - 7 * i) ∧ k ≤ 10
 | [], i, m, n, k, h => by simp [scanL] at h
 | b :: r, i, m, n, k, h => by
  rw [scanL] at h
  split at h
  ·cases h
  rename_i h9
  split at h
  ·rename_i hb
   split at h
   ·rename_i h0
    simp only [Option.some.injEq,Prod.mk.injEq] at h
    obtain ⟨rfl, rfl⟩ := h
    have hu : uv b.toNat = [b] := by rw [uv_small hb]; simp
    refine ⟨b.toNat, rfl, h0, by rw [hu]; rfl, r, by rw [hu]; rfl, ?_, by omega⟩
    by_cases h99 : i = 9
    ·subst h99; simp; omega
    ·have : 2 ^ 7 ≤ 2 ^ (64 - 7 * i) := Nat.pow_le_pow_right (by omega) (by omega)
     omega
   ·cases h
  ·rename_i hb
   obtain ⟨v, hv, h0, hk, rest, hr, hlt, hk10⟩ := uv_scan r (i + 1) _ n k h
   have hv0 : 0 < v := by omega
   have hbl : b.toNat < 256 := b.toNat_lt
   have hdm : (b.toNat - 128 + 128 * v) % 128 = b.toNat - 128 := by omega
   have hdd : (b.toNat - 128 + 128 * v) / 128 = v := by omega
   have hu : uv (b.toNat - 128 + 128 * v) = b :: uv v := by
    rw [uv_big (by omega), hdm, hdd, Nat.sub_add_cancel (by omega)]; simp
   have e1 : 2 ^ (7 * (i + 1)) = 128 * 2 ^ (7 * i) := by rw [show (128 : Nat) = 2 ^ 7 from rfl, ← Nat.pow_add]; congr 1; omega
   have hpos : 0 < (uv v).length := by rw [uv]; split <;> simp
   refine ⟨b.toNat - 128 + 128 * v, ?_, .inr (by omega), by rw [hu, List.length_cons]; omega, rest, by rw [hu, hr]; rfl, ?_, hk10⟩
   ·rw [hv, e1, Nat.add_mul, Nat.add_assoc, Nat.mul_comm 128 v, Nat.mul_assoc]
   ·have h8 : i ≤ 8 := by omega
    have hp : 2 ^ (64 - 7 * i) = 128 * 2 ^ (64 - 7 * (i + 1)) := by
     rw [show (128 : Nat) = 2 ^ 7 from rfl, ← Nat.pow_add]
     congr 1; omega
    rw [hp]; omega
def from_ (s : ByteArray) (at_ : Nat) : List UInt8 := s.data.toList.drop at_
theorem from_length (s : ByteArray) (a : Nat) : (from_ s a).length = s.size - a := by unfold from_; rw [List.length_drop, Array.length_toList]; rfl
theorem from_drop (s : ByteArray) (a k : Nat) : (from_ s a).drop k = from_ s (a + k) := by unfold from_; rw [List.drop_drop]
def rdI (s : ByteArray) (at_ : Nat) : Option (Nat × Nat) := match scanL (from_ s at_) 0 0 with
 | some (n, k) => if n < 9223372036854775808 then some (n, at_ + k) else none
 | none => none
def rdT (s : ByteArray) (at_ : Nat) : Option (ByteArray × Nat) := match rdI s at_ with
 | some (n, j) => if n ≤ s.size - j then some (s.extract j (j + n), j + n) else none
 | none => none
theorem from_app {s : ByteArray} {a : Nat} {x rest : List UInt8} (h : from_ s a = x ++ rest) : from_ s (a + x.length) = rest := by
 rw [← from_drop, h, List.drop_left]
theorem rdI_of {s : ByteArray} {a n : Nat} {rest : List UInt8} (hn : n < 9223372036854775808) (h : from_ s a = uv n ++ rest) : rdI s a = some (n, a + (uv n).length) ∧ from_ s (a + (uv n).length) = rest := by
 refine ⟨?_, from_app h⟩
 unfold rdI
 rw [h, scan_uv 0 n 0 rest (by omega) (by show n < 2 ^ 64; omega) (.inl rfl)]
 simp only [Nat.mul_zero,Nat.pow_zero,Nat.mul_one,Nat.zero_add]
 rw [if_pos hn]
theorem of_rdI {s : ByteArray} {a n j : Nat} (h : rdI s a = some (n, j)) : from_ s a = uv n ++ from_ s j ∧ n < 9223372036854775808 ∧ j = a + (uv n).length ∧ j ≤ s.size ∧ a < j := by
 unfold rdI at h
 split at h
 ·rename_i n' k hs
  split at h
  ·rename_i hn
   simp only [Option.some.injEq,Prod.mk.injEq] at h
   obtain ⟨rfl, rfl⟩ := h
   obtain ⟨v, hv, -, hk, rest, hr, -, -⟩ := uv_scan _ _ _ _ _ hs
   have hvn : v = n' := by rw [hv]; simp
   subst hvn
   rw [Nat.zero_add] at hk
   have hpos : 0 < (uv v).length := by rw [uv]; split <;> simp
   have hl := congrArg List.length hr
   rw [from_length, List.length_append] at hl
   refine ⟨?_, hn, by rw [hk], by omega, by omega⟩
   rw [← hk, from_app hr]; exact hr
  ·cases h
 ·cases h
def bytesL (s : ByteArray) : List UInt8 := s.data.toList
theorem bytesL_length (s : ByteArray) : (bytesL s).length = s.size := Array.length_toList
theorem extract_list (s : ByteArray) (j n : Nat) : bytesL (s.extract j (j + n)) = (from_ s j).take n := by
 unfold bytesL from_
 rw [ByteArray.data_extract, Array.toList_extract, List.extract_eq_take_drop, Nat.add_sub_cancel_left]
theorem ba_of_list {a b : ByteArray} (h : bytesL a = bytesL b) : a = b := by
 cases a; cases b; unfold bytesL at h; dsimp only at h; rw [Array.toList_inj.1 h]
def eT (t : ByteArray) : List UInt8 := uv t.size ++ bytesL t
theorem rdT_of {s t : ByteArray} {a : Nat} {rest : List UInt8} (hn : t.size < 9223372036854775808) (h : from_ s a = eT t ++ rest) : rdT s a = some (t, a + (eT t).length) ∧ from_ s (a + (eT t).length) = rest := by
 refine ⟨?_, from_app h⟩
 unfold eT at h
 rw [List.append_assoc] at h
 obtain ⟨h1, h2⟩ := rdI_of hn h
 unfold rdT
 rw [h1]
 dsimp only
 have hl := congrArg List.length h2
 rw [from_length, List.length_append, bytesL_length] at hl
 have e : s.extract (a + (uv t.size).length) (a + (uv t.size).length + t.size) = t := ba_of_list (by rw [extract_list, h2, ← bytesL_length t, List.take_left])
 rw [e, show (eT t).length = (uv t.size).length + t.size by unfold eT; rw [List.length_append, bytesL_length], Nat.add_assoc]
 rw [if_pos]
 by_cases ht : t.size = 0
 ·omega
 ·omega
theorem of_rdT {s t : ByteArray} {a j : Nat} (h : rdT s a = some (t, j)) : from_ s a = eT t ++ from_ s j ∧ t.size < 9223372036854775808 ∧ j ≤ s.size ∧ a < j ∧ t.size ≤ s.size := by
 unfold rdT at h
 split at h
 ·rename_i n k hi
  obtain ⟨h1, h2, h3, h4, h5⟩ := of_rdI hi
  split at h
  ·rename_i hn
   simp only [Option.some.injEq,Prod.mk.injEq] at h
   obtain ⟨rfl, rfl⟩ := h
   have hs : (s.extract k (k + n)).size = n := by rw [ByteArray.size_extract]; omega
   refine ⟨?_, by omega, by omega, by omega, by omega⟩
   unfold eT
   rw [hs, extract_list, List.append_assoc, ← from_drop, List.take_append_drop]; exact h1
  ·cases h
 ·cases h
end Go.Proofs.YtnfeacnbgbggfaaGreatDoor
end

section
namespace Go.Proofs.YtnfeacnbgbggfaaGreatDoor
open Go.Eng
variable [Glob]
def encSpn (s : Spn) : V := .agg [num s.lo, num s.hi]
def encSet (l : List Spn) : V := .slice (l.map encSpn)
def encRq (q : Rq) : V := .agg [str q.path, encSet q.set]
def encRqs (l : List Rq) : V := .slice (l.map encRq)
def encVer (v : Ver) : V := .agg [num v.mj, num v.mn, num v.pt]
def encSel (s : Sel) : V := .agg [str s.path, num s.ver.mj, num s.ver.mn, num s.ver.pt]
def encSels (l : List Sel) : V := .slice (l.map encSel)
def rlCells (r : Rl) : List V := [str r.path, num r.ver.mj, num r.ver.mn, num r.ver.pt, encRqs r.reqs, str r.ar, str r.itf, str r.ce, bl r.yk]
def encRl (r : Rl) : V := .agg (rlCells r)
def encRls (l : List Rl) : V := .slice (l.map encRl)
def encIx (l : List Rl) (I : List V) : V := .agg [encRls l, .slice I]
end Go.Proofs.YtnfeacnbgbggfaaGreatDoor
end

section
namespace Go.Proofs.YtnfeacnbgbggfaaGreatDoor
open Go.Eng
open Nat (reduceAdd reduceLT reduceLeDiff reduceMul reduceEqDiff reduceSub)
variable [Glob]
set_option maxHeartbeats 4000000
set_option maxRecDepth 100000
attribute [local irreducible] runM stepM valD stepOp stepD callF callS
theorem ne_get {s e : ByteArray} (he : e.size = 0) (h : (!(s.toList == e.toList)) = true) : ∃ c, s[0]? = some c := by
 refine get_byte (s := s) (i := 0) ?_
 rcases Nat.eq_zero_or_pos s.size with hz | hz
 ·exfalso
  have e1 : s.toList = e.toList := by
   rw [ByteArray.toList_eq, ByteArray.toList_eq]
   have a1 : s.data.toList = [] := by simpa [← List.length_eq_zero_iff, Array.length_toList] using hz
   have a2 : e.data.toList = [] := by simpa [← List.length_eq_zero_iff, Array.length_toList] using he
   rw [a1, a2]
  rw [e1] at h; simp at h
 ·exact hz
def isSm (c : Int) : Bool := decide (97 ≤ c) && decide (c ≤ 122)
def isCp (c : Int) : Bool := decide (65 ≤ c) && decide (c ≤ 90)
def isDg (c : Int) : Bool := decide (48 ≤ c) && decide (c ≤ 57)
def isWd (c : Int) : Bool := isSm c || isCp c || isDg c || decide (c = 95)
def isSd (c : Int) : Bool := isSm c || isDg c
def allP (p : Int → Bool) (s : ByteArray) : Bool := s.data.toList.all fun b => p b.toNat
def byteAt (s : ByteArray) (i : Nat) : Int := match s[i]? with | some c => c.toNat | none => 0
theorem byte_get {s : ByteArray} {i : Nat} {c : UInt8} (h : s[i]? = some c) : s.data.toList[i]? = some c := by
 obtain ⟨h1, h2⟩ := getElem?_eq_some_iff.1 h
 have h3 : i < s.data.toList.length := by simpa using h1
 rw [List.getElem?_eq_getElem h3]
 exact congrArg some (by rw [Array.getElem_toList]; exact h2)
theorem byteAt_of {s : ByteArray} {i : Nat} {c : UInt8} (h : s[i]? = some c) : byteAt s i = c.toNat := by unfold byteAt; rw [h]
theorem allP_true {p : Int → Bool} {s : ByteArray} (h : ∀ j < s.size, ∀ b, s[j]? = some b → p b.toNat = true) : allP p s = true := by
 refine List.all_eq_true.2 fun b hb => ?_
 obtain ⟨j, hj⟩ := List.mem_iff_getElem?.1 hb
 have h1 : j < s.size := by have := (List.getElem?_eq_some_iff.1 hj).1; simpa using this
 obtain ⟨c, hc⟩ := get_byte h1
 have := byte_get hc
 rw [hj] at this; cases this
 exact h j h1 b hc
theorem allP_false {p : Int → Bool} {s : ByteArray} {j : Nat} {b : UInt8} (h : s[j]? = some b) (hp : p b.toNat = false) : allP p s = false := by
 have hm := List.mem_of_getElem? (byte_get h)
 cases ha : allP p s with
 | false => rfl
 | true => have := List.all_eq_true.1 ha b hm; rw [hp] at this; cases this
theorem size_ne {s e : ByteArray} (he : e.size = 0) (h : (!(s.toList == e.toList)) = true) : 1 ≤ s.size := by
 obtain ⟨c, hc⟩ := ne_get he h
 exact (getElem?_eq_some_iff.1 hc).1
theorem size_eq0 {s e : ByteArray} (he : e.size = 0) (h : (!(s.toList == e.toList)) = false) : s.size = 0 := by
 have e1 : s.toList = e.toList := by simpa using h
 rw [ByteArray.toList_eq, ByteArray.toList_eq] at e1
 have := congrArg List.length e1
 simp only [Array.length_toList] at this
 exact Eq.trans this he
theorem small_ex (c : Int) : ∃ r_, (fun w => w = bl (isSm c)) r_ ∧ FnOk Tryz.prog 127 [.sc (.int .u8 c)] r_ := by
 refine fn_ex tt_ok (fn := Tryz.f127) Tryz.func127 rfl Tryz.call127 ?_
 simp only [ltb,startSt,Tryz.ntmps127,List.length_cons,List.length_nil,reduceAdd,reduceSub,List.replicate_succ,List.replicate_zero]
 refine ex_region_w tt_ok 9 [0,0,2] [] rfl rfl fun K hK => ?_
 simp only [ltb,go_sem]
 refine hK _ _ rfl ?_
 simp only [mwb,reduceAdd]
 refine ex_region_w tt_ok 9 [0,0,2,1,1,1,1,1,1] [(2, 5)] rfl rfl fun K hK => ?_
 refine runX_cut 3 fun K1 hK1 => ?_
 simp only [ltb,go_sem,reduceLT,reduceEqDiff]
 refine hK1 _ ?_
 refine runX_case 5 (by rfl) fun b hb1_2 => ?_
 cases b
 ·simp only [ltb,go_sem,reduceLT,reduceEqDiff]
  refine hK _ _ rfl ?_
  simp only [mwb,reduceAdd,reduceEqDiff]
  exact ex_ret ⟨.inl rfl, _, congrArg bl (by simp_all [isSm] <;> (intros; omega)), rfl⟩
 ·simp only [ltb,go_sem,reduceLT,reduceEqDiff,reduceCtorEq]
  refine hK _ _ rfl ?_
  simp only [mwb,reduceAdd,reduceEqDiff]
  exact ex_ret ⟨.inl rfl, _, congrArg bl (by simp_all [isSm] <;> (intros; omega)), rfl⟩
theorem capital_ex (c : Int) : ∃ r_, (fun w => w = bl (isCp c)) r_ ∧ FnOk Tryz.prog 176 [.sc (.int .u8 c)] r_ := by
 refine fn_ex tt_ok (fn := Tryz.f176) Tryz.func176 rfl Tryz.call176 ?_
 simp only [ltb,startSt,Tryz.ntmps176,List.length_cons,List.length_nil,reduceAdd,reduceSub,List.replicate_succ,List.replicate_zero]
 refine ex_region_w tt_ok 9 [0,0,2] [] rfl rfl fun K hK => ?_
 simp only [ltb,go_sem]
 refine hK _ _ rfl ?_
 simp only [mwb,reduceAdd]
 refine ex_region_w tt_ok 9 [0,0,2,1,1,1,1,1,1] [(2, 5)] rfl rfl fun K hK => ?_
 refine runX_cut 3 fun K1 hK1 => ?_
 simp only [ltb,go_sem,reduceLT,reduceEqDiff]
 refine hK1 _ ?_
 refine runX_case 5 (by rfl) fun b hb1_2 => ?_
 cases b
 ·simp only [ltb,go_sem,reduceLT,reduceEqDiff]
  refine hK _ _ rfl ?_
  simp only [mwb,reduceAdd,reduceEqDiff]
  exact ex_ret ⟨.inl rfl, _, congrArg bl (by simp_all [isCp] <;> (intros; omega)), rfl⟩
 ·simp only [ltb,go_sem,reduceLT,reduceEqDiff,reduceCtorEq]
  refine hK _ _ rfl ?_
  simp only [mwb,reduceAdd,reduceEqDiff]
  exact ex_ret ⟨.inl rfl, _, congrArg bl (by simp_all [isCp] <;> (intros; omega)), rfl⟩
theorem digit_ex (c : Int) : ∃ r_, (fun w => w = bl (isDg c)) r_ ∧ FnOk Tryz.prog 128 [.sc (.int .u8 c)] r_ := by
 refine fn_ex tt_ok (fn := Tryz.f128) Tryz.func128 rfl Tryz.call128 ?_
 simp only [ltb,startSt,Tryz.ntmps128,List.length_cons,List.length_nil,reduceAdd,reduceSub,List.replicate_succ,List.replicate_zero]
 refine ex_region_w tt_ok 9 [0,0,2] [] rfl rfl fun K hK => ?_
 simp only [ltb,go_sem]
 refine hK _ _ rfl ?_
 simp only [mwb,reduceAdd]
 refine ex_region_w tt_ok 9 [0,0,2,1,1,1,1,1,1] [(2, 5)] rfl rfl fun K hK => ?_
 refine runX_cut 3 fun K1 hK1 => ?_
 simp only [ltb,go_sem,reduceLT,reduceEqDiff]
 refine hK1 _ ?_
 refine runX_case 5 (by rfl) fun b hb1_2 => ?_
 cases b
 ·simp only [ltb,go_sem,reduceLT,reduceEqDiff]
  refine hK _ _ rfl ?_
  simp only [mwb,reduceAdd,reduceEqDiff]
  exact ex_ret ⟨.inl rfl, _, congrArg bl (by simp_all [isDg] <;> (intros; omega)), rfl⟩
 ·simp only [ltb,go_sem,reduceLT,reduceEqDiff,reduceCtorEq]
  refine hK _ _ rfl ?_
  simp only [mwb,reduceAdd,reduceEqDiff]
  exact ex_ret ⟨.inl rfl, _, congrArg bl (by simp_all [isDg] <;> (intros; omega)), rfl⟩
theorem word_ex (c : Int) : ∃ r_, (fun w => w = bl (isWd c)) r_ ∧ FnOk Tryz.prog 151 [.sc (.int .u8 c)] r_ := by
 refine fn_ex tt_ok (fn := Tryz.f151) Tryz.func151 rfl Tryz.call151 ?_
 simp only [ltb,startSt,Tryz.ntmps151,List.length_cons,List.length_nil,reduceAdd,reduceSub,List.replicate_succ,List.replicate_zero]
 refine ex_region_w tt_ok 17 [0,0,2] [] rfl rfl fun K hK => ?_
 simp only [ltb,go_sem]
 refine hK _ _ rfl ?_
 simp only [mwb,reduceAdd]
 refine ex_region_w tt_ok 17 (0::0::2::(rp 14 1 [])) [(2, 5), (6, 9), (10, 13)] rfl rfl fun K hK => ?_
 refine runX_cut 2 fun K1 hK1 => ?_
 simp only [ltb,go_sem,reduceLT]
 refine callF_ex (small_ex _) ?_
 rintro _ rfl
 try simp only [go_sem]
 refine hK1 _ ?_
 refine runX_cut 1 fun K1 hK1 => ?_
 simp only [ltb,go_sem,reduceLT,reduceEqDiff]
 refine hK1 _ ?_
 refine runX_case 5 (by rfl) fun b hb1_2 => ?_
 cases b
 ·refine runX_cut 2 fun K1 hK1 => ?_
  simp only [ltb,go_sem,reduceLT,reduceEqDiff,reduceCtorEq]
  refine callF_ex (capital_ex _) ?_
  rintro _ rfl
  try simp only [go_sem]
  refine hK1 _ ?_
  refine runX_cut 2 fun K1 hK1 => ?_
  simp only [ltb,go_sem,reduceLT,reduceEqDiff]
  refine hK1 _ ?_
  refine runX_case 9 (by rfl) fun b hb1_6 => ?_
  cases b
  ·refine runX_cut 2 fun K1 hK1 => ?_
   simp only [ltb,go_sem,reduceLT,reduceEqDiff,reduceCtorEq]
   refine callF_ex (digit_ex _) ?_
   rintro _ rfl
   try simp only [go_sem]
   refine hK1 _ ?_
   refine runX_cut 2 fun K1 hK1 => ?_
   simp only [ltb,go_sem,reduceLT,reduceEqDiff]
   refine hK1 _ ?_
   refine runX_case 13 (by rfl) fun b hb1_10 => ?_
   cases b
   ·simp only [ltb,go_sem,reduceLT,reduceEqDiff,reduceCtorEq]
    refine hK _ _ rfl ?_
    simp only [mwb,reduceAdd,reduceEqDiff]
    exact ex_ret ⟨.inl rfl, _, congrArg bl (by simp_all [isWd]), rfl⟩
   ·simp only [ltb,go_sem,reduceLT,reduceEqDiff]
    refine hK _ _ rfl ?_
    simp only [mwb,reduceAdd,reduceEqDiff]
    exact ex_ret ⟨.inl rfl, _, congrArg bl (by simp_all [isWd]), rfl⟩
  ·simp only [ltb,go_sem,reduceLT,reduceEqDiff]
   refine hK _ _ rfl ?_
   simp only [mwb,reduceAdd,reduceEqDiff]
   exact ex_ret ⟨.inl rfl, _, congrArg bl (by simp_all [isWd]), rfl⟩
 ·refine runX_cut 8 fun K1 hK1 => ?_
  simp only [ltb,go_sem,reduceLT,reduceEqDiff]
  refine hK1 _ ?_
  simp only [ltb,go_sem,reduceLT,reduceEqDiff]
  refine hK _ _ rfl ?_
  simp only [mwb,reduceAdd,reduceEqDiff]
  exact ex_ret ⟨.inl rfl, _, congrArg bl (by simp_all [isWd]), rfl⟩
theorem sd_ex (c : Int) : ∃ r_, (fun w => w = bl (isSd c)) r_ ∧ FnOk Tryz.prog 126 [.sc (.int .u8 c)] r_ := by
 refine fn_ex tt_ok (fn := Tryz.f126) Tryz.func126 rfl Tryz.call126 ?_
 simp only [ltb,startSt,Tryz.ntmps126,List.length_cons,List.length_nil,reduceAdd,reduceSub,List.replicate_succ,List.replicate_zero]
 refine ex_region_w tt_ok 9 [0,0,2] [] rfl rfl fun K hK => ?_
 simp only [ltb,go_sem]
 refine hK _ _ rfl ?_
 simp only [mwb,reduceAdd]
 refine ex_region_w tt_ok 9 [0,0,2,1,1,1,1,1,1] [(2, 5)] rfl rfl fun K hK => ?_
 refine runX_cut 2 fun K1 hK1 => ?_
 simp only [ltb,go_sem,reduceLT]
 refine callF_ex (small_ex _) ?_
 rintro _ rfl
 try simp only [go_sem]
 refine hK1 _ ?_
 refine runX_cut 1 fun K1 hK1 => ?_
 simp only [ltb,go_sem,reduceLT,reduceEqDiff]
 refine hK1 _ ?_
 refine runX_case 5 (by rfl) fun b hb1_2 => ?_
 cases b
 ·refine runX_cut 2 fun K1 hK1 => ?_
  simp only [ltb,go_sem,reduceLT,reduceEqDiff,reduceCtorEq]
  refine callF_ex (digit_ex _) ?_
  rintro _ rfl
  try simp only [go_sem]
  refine hK1 _ ?_
  simp only [ltb,go_sem,reduceLT,reduceEqDiff]
  refine hK _ _ rfl ?_
  simp only [mwb,reduceAdd,reduceEqDiff]
  exact ex_ret ⟨.inl rfl, _, congrArg bl (by simp_all [isSd]), rfl⟩
 ·simp only [ltb,go_sem,reduceLT,reduceEqDiff]
  refine hK _ _ rfl ?_
  simp only [mwb,reduceAdd,reduceEqDiff]
  exact ex_ret ⟨.inl rfl, _, congrArg bl (by simp_all [isSd]), rfl⟩
theorem all_ex (g : FuncId) (p : Int → Bool) (hg : ∀ c : Int, ∃ r, (fun v => v = bl (p c)) r ∧ FnOk Tryz.prog g [.sc (.int .u8 c)] r) (s : ByteArray) (hs : s.size ≤ 1048576) : ∃ r_, (fun w => w = bl (allP p s)) r_ ∧ FnOk Tryz.prog 125 [str s, .sc (.func (.func g) #[] #[])] r_ := by
 refine fn_ex tt_ok (fn := Tryz.f125) Tryz.func125 rfl Tryz.call125 ?_
 simp only [ltb,startSt,Tryz.ntmps125,List.length_cons,List.length_nil,reduceAdd,reduceSub,List.replicate_succ,List.replicate_zero]
 have hT9 : Tryz.prog.underlying 9 = some .string := by kernel_rfl
 have sl : ∀ (a : ByteArray) (ty : TypeId), liftL Tryz.prog (Builtin.len_ #[9] ty) [.sc (.string a)] = some (num a.size) := fun a ty => ev_slen (P := Tryz.prog) (tt := tt) (T := 9) a hT9 ty
 refine ex_region_w tt_ok 18 [0,0,0,0,2] [] rfl rfl fun K hK => ?_
 simp only [ltb,go_sem]
 refine hK _ _ rfl ?_
 simp only [mwb,reduceAdd]
 refine ex_seq ?_
 refine ex_region_w tt_ok 18 [0,0,0,0,0,0,1,2,2] [] rfl rfl fun K hK => ?_
 try simp only [ltb]
 simp only [sl,go_sem,reduceLT]
 refine hK _ _ rfl ?_
 simp only [mwb,reduceAdd,reduceEqDiff]
 refine ex_block ?_
 refine ex_loopK [8] [num 0] 0 [true,true,false,false,true,false,false,true,true] (fun vs => ((s.size : Int) - Go.Eng.intOf (vs.headD .undef)).toNat) (fun vs => ∃ i : Nat, vs = [num i] ∧ i ≤ s.size ∧ ∀ j < i, ∀ b, s[j]? = some b → p b.toNat = true) (by omega) (by simp only [maskFr,belowV,mkb]) (by simp only [List.all_nil,List.take_nil]) (by rfl) (⟨0, rfl, Nat.zero_le _, fun j hj => absurd hj (Nat.not_lt_zero j)⟩) fun vs hI => ?_
 obtain ⟨i, rfl, hi, hno⟩ := hI
 simp only [maskFr,putAll,List.set_cons_zero,List.set_cons_succ,mkb]
 refine ex_region_w tt_ok 18 (rp 9 0 [2]) [] rfl rfl fun K hK => ?_
 simp only [ltb,go_sem,reduceLT]
 refine hK _ _ rfl ?_
 simp only [mwb,reduceAdd]
 refine ex_seq ?_
 refine ex_if rfl (fun hc9 => ?_) (fun hc9 => ?_)
 ·have hlt : i < s.size := by simpa using hc9
  have hw := i64_succ i (by omega)
  obtain ⟨c, hcb⟩ := get_byte (s := s) (i := i) hlt
  have hix := ev_index (P := Tryz.prog) s hT9 .i64 (i : Int) (by omega) (c := c) (show s[((i : Nat) : Int).toNat]? = some c from hcb)
  refine ex_skip ?_
  show Go.Eng.Ex _ _ _ _ _ _
  refine ex_seq ?_
  refine ex_block ?_
  refine ex_region_w tt_ok 18 [0,0,0,0,0,2,0,0,0,0,1] [] rfl rfl fun K hK => ?_
  simp only [ltb,go_sem,reduceLT]
  refine hK _ _ rfl ?_
  simp only [mwb,reduceAdd,reduceEqDiff]
  refine ex_region_w tt_ok 18 (rp 11 0 [1,1,1,1,1,2]) [] rfl rfl fun K hK => ?_
  refine runX_cut 5 fun K1 hK1 => ?_
  simp only [ltb]
  simp only [hix,go_sem,reduceLT,reduceEqDiff,reduceCtorEq]
  refine callF_ex (hg _) ?_
  rintro _ rfl
  try simp only [go_sem]
  refine hK1 _ ?_
  simp only [ltb,go_sem,reduceLT,reduceEqDiff]
  refine hK _ _ rfl ?_
  simp only [mwb,reduceAdd,reduceEqDiff]
  refine ex_if rfl (fun hc16 => ?_) (fun hc16 => ?_)
  ·have hres : false = allP p s := (allP_false hcb (by simpa using hc16)).symm
   refine ex_region_w tt_ok 18 [0,0,0,0,2] [] rfl rfl fun K hK => ?_
   simp only [ltb,go_sem]
   refine hK _ _ rfl ?_
   simp only [mwb,reduceAdd]
   exact ex_ret ⟨.inl rfl, _, congrArg bl hres, rfl⟩
  ·refine ex_skip ?_
   show Go.Eng.Ex _ _ _ _ _ _
   refine ex_last_region_w tt_ok 18 (rp 8 0 (2::(rp 8 0 [2]))) [] (by kernel_rfl) rfl rfl fun K hK => ?_
   try simp only [ltb]
   simp only [hw,go_sem,reduceLT]
   refine hK _ _ rfl ?_
   simp only [mwb,reduceAdd,reduceEqDiff]
   refine ⟨[_], ?_, ?_, 0, [true,true,false,false,true,false,false,true,true], by omega, by simp only [maskFr,belowV,mkb], by simp only [List.all_nil,List.take_nil], by simp only [maskFr,putAll,List.set_cons_zero,List.set_cons_succ,mkb]; rfl⟩
   ·refine ⟨i + 1, rfl, hlt, fun j hj b hb => ?_⟩
    rcases Nat.lt_or_ge j i with h | h
    ·exact hno j h b hb
    ·obtain rfl : j = i := by omega
     rw [hcb] at hb; cases hb; simpa using hc16
   ·simp only [Go.Eng.intOf,List.headD_cons]; omega
 ·have hge : ¬ i < s.size := by simpa using hc9
  have hres : true = allP p s := (allP_true fun j hj b hb => hno j (by omega) b hb).symm
  refine ex_exit ?_
  show Go.Eng.Ex _ _ _ _ _ _
  refine ex_region_w tt_ok 18 [0,0,0,0,2] [] rfl rfl fun K hK => ?_
  simp only [ltb,go_sem]
  refine hK _ _ rfl ?_
  simp only [mwb,reduceAdd]
  exact ex_ret ⟨.inl rfl, _, congrArg bl hres, rfl⟩
end Go.Proofs.YtnfeacnbgbggfaaGreatDoor
end

section
namespace Go.Proofs.YtnfeacnbgbggfaaGreatDoor
open Go.Eng
open Nat (reduceAdd reduceLT reduceLeDiff reduceMul reduceEqDiff reduceSub)
variable [Glob]
set_option maxHeartbeats 4000000
set_option maxRecDepth 100000
attribute [local irreducible] runM stepM valD stepOp stepD callF callS
def Ver.part (v : Ver) (i : Nat) : Int := if i = 0 then v.mj else if i = 1 then v.mn else v.pt
theorem arr3 (a b c : Int) : builtV Tryz.prog 151 [(0, .int .i64 a), (1, .int .i64 b), (2, .int .i64 c)] = some (.agg [num a, num b, num c]) := by kernel_rfl
theorem arrIx0 (a b c : Int) : lift2 Tryz.prog (Instr.index 151) (.agg [num a, num b, num c]) (num 0) = some (num a) := by kernel_rfl
theorem arrIx1 (a b c : Int) : lift2 Tryz.prog (Instr.index 151) (.agg [num a, num b, num c]) (num 1) = some (num b) := by kernel_rfl
theorem arrIx2 (a b c : Int) : lift2 Tryz.prog (Instr.index 151) (.agg [num a, num b, num c]) (num 2) = some (num c) := by kernel_rfl
theorem arrIx (v : Ver) (i : Nat) (h : i < 3) : lift2 Tryz.prog (Instr.index 151) (.agg [num v.mj, num v.mn, num v.pt]) (num i) = some (num (v.part i)) := by
 obtain ⟨a, b, c⟩ := v
 match i, h with
 | 0, _ => exact arrIx0 a b c
 | 1, _ => exact arrIx1 a b c
 | 2, _ => exact arrIx2 a b c
def okPart (n : Int) : Bool := decide (0 ≤ n) && decide (n ≤ 999)
def Ver.ok (v : Ver) : Bool := okPart v.mj && okPart v.mn && okPart v.pt
theorem Ver.ok_iff (v : Ver) : v.ok = true ↔ ∀ i < 3, okPart (v.part i) = true := by
 unfold Ver.ok
 simp only [Bool.and_eq_true]
 constructor
 ·rintro ⟨⟨h0, h1⟩, h2⟩ i hi
  match i, hi with
  | 0, _ => exact h0
  | 1, _ => exact h1
  | 2, _ => exact h2
 ·exact fun h => ⟨⟨h 0 (by omega), h 1 (by omega)⟩, h 2 (by omega)⟩
def cmpI (a b : Int) : Int := if a < b then -1 else if b < a then 1 else 0
def Ver.cmp (a b : Ver) : Int := if cmpI a.mj b.mj ≠ 0 then cmpI a.mj b.mj else if cmpI a.mn b.mn ≠ 0 then cmpI a.mn b.mn else cmpI a.pt b.pt
theorem Ver.cmp_at {a b : Ver} {i : Nat} (hi : i < 3) (h : ∀ j < i, cmpI (a.part j) (b.part j) = 0) (hne : cmpI (a.part i) (b.part i) ≠ 0) : a.cmp b = cmpI (a.part i) (b.part i) := by
 unfold Ver.cmp
 match i, hi with
 | 0, _ => exact if_pos hne
 | 1, _ =>
  have h0 := h 0 (by omega)
  simp only [Ver.part,if_true] at h0
  rw [if_neg (by rw [h0]; simp)]
  exact if_pos hne
 | 2, _ =>
  have h0 := h 0 (by omega)
  have h1 := h 1 (by omega)
  simp only [Ver.part,if_true] at h0 h1
  rw [if_neg (by rw [h0]; simp), if_neg (by rw [show cmpI a.mn b.mn = 0 from h1]; simp)]
  rfl
theorem Ver.cmp_eq {a b : Ver} (h : ∀ j < 3, cmpI (a.part j) (b.part j) = 0) : a.cmp b = 0 := by
 unfold Ver.cmp
 have h0 := h 0 (by omega)
 have h1 := h 1 (by omega)
 have h2 := h 2 (by omega)
 rw [if_neg (by rw [show cmpI a.mj b.mj = 0 from h0]; simp), if_neg (by rw [show cmpI a.mn b.mn = 0 from h1]; simp)]
 exact h2
def ltB (a b : ByteArray) : Bool := Op.bytesLess a.toList b.toList
theorem str_beq (a b : ByteArray) : (a.toList == b.toList) = decide (a = b) := by
 rw [Bool.eq_iff_iff, beq_iff_eq, decide_eq_true_eq]
 refine ⟨fun h => ?_, fun h => by rw [h]⟩
 rw [ByteArray.toList_eq, ByteArray.toList_eq] at h
 cases a; cases b; congr 1; exact Array.toList_inj.1 h
theorem ltB_eq (a b : ByteArray) : ltB a b = decide (a.data.toList < b.data.toList) := by
 unfold ltB
 rw [Proofs.bytesLess_eq, ByteArray.toList_eq, ByteArray.toList_eq]
def cmpB (a b : ByteArray) : Int := if ltB a b = true then -1 else if a = b then 0 else 1
theorem wrap_place {v : Ver} (h : v.ok = true) : IntKind.i64.wrap (1000 * v.mn) = 1000 * v.mn ∧ IntKind.i64.wrap (1000 * v.mn + v.pt) = v.place ∧ 0 ≤ v.place ∧ v.place < 1000000 := by
 unfold Ver.ok okPart at h
 simp only [Bool.and_eq_true,decide_eq_true_eq] at h
 unfold Ver.place
 refine ⟨IntWalk.i64_in _ (by omega), IntWalk.i64_in _ (by omega), by omega, by omega⟩
theorem parts_ok (v : Ver) : ∃ r_, (fun w => w = .agg [num v.mj, num v.mn, num v.pt]) r_ ∧ FnOk Tryz.prog 114 [encVer v] r_ := by
 refine fn_ex tt_ok (fn := Tryz.f114) Tryz.func114 rfl Tryz.call114 ?_
 simp only [ltb,startSt,Tryz.ntmps114,List.length_cons,List.length_nil,reduceAdd,reduceSub,List.replicate_succ,List.replicate_zero]
 simp only [encVer]
 refine ex_region_w tt_ok 10 [0,2,2] [] rfl rfl fun K hK => ?_
 simp only [ltb,go_sem,reduceLT]
 refine hK _ _ rfl ?_
 simp only [mwb,reduceAdd,reduceEqDiff]
 refine ex_region_w tt_ok 10 [0,0,0,1,1,1,1,1,1,1] [] rfl rfl fun K hK => ?_
 try simp only [ltb]
 simp only [arr3,go_sem,reduceAdd,reduceLT,reduceLeDiff,reduceEqDiff]
 refine hK _ _ rfl ?_
 simp only [mwb]
 exact ex_ret ⟨.inl rfl, _, rfl, rfl⟩
theorem valid_ok (v : Ver) : ∃ r_, (fun w => w = bl (v.ok)) r_ ∧ FnOk Tryz.prog 78 [encVer v] r_ := by
 refine fn_ex tt_ok (fn := Tryz.f78) Tryz.func78 rfl Tryz.call78 ?_
 simp only [ltb,startSt,Tryz.ntmps78,List.length_cons,List.length_nil,reduceAdd,reduceSub,List.replicate_succ,List.replicate_zero]
 simp only [encVer]
 refine ex_region_w tt_ok 17 [0,2,2] [] rfl rfl fun K hK => ?_
 simp only [ltb,go_sem,reduceLT]
 refine hK _ _ rfl ?_
 simp only [mwb,reduceAdd,reduceEqDiff]
 refine ex_seq ?_
 refine ex_region_w tt_ok 17 [0,0,0,0,0,1,2,2] [] rfl rfl fun K hK => ?_
 refine runX_cut 2 fun K1 hK1 => ?_
 simp only [ltb,go_sem,reduceAdd,reduceLT]
 refine callF_ex (by have h := parts_ok v; simp only [encVer] at h; exact h) ?_
 rintro _ rfl
 try simp only [go_sem]
 refine hK1 _ ?_
 simp only [ltb,go_sem]
 refine hK _ _ rfl ?_
 simp only [mwb,reduceAdd,reduceEqDiff]
 refine ex_block ?_
 refine ex_loopK [7] [num 0] 1 [false,false,true,false,false,false,true,true] (fun vs => ((3 : Int) - Go.Eng.intOf (vs.headD .undef)).toNat) (fun vs => ∃ i : Nat, vs = [num i] ∧ i ≤ 3 ∧ ∀ j < i, okPart (v.part j) = true) (by omega) (by simp only [maskFr,belowV,belowL,mkb]) (by simp only [List.all_cons,List.all_nil,belowV,belowB,Bool.and_self,List.take_succ_cons,List.take_nil]) (by rfl) (⟨0, rfl, Nat.zero_le _, fun j hj => absurd hj (Nat.not_lt_zero j)⟩) fun vs hI => ?_
 obtain ⟨i, rfl, hi, hall⟩ := hI
 simp only [maskFr,putAll,List.set_cons_zero,List.set_cons_succ,mkb]
 refine ex_region_w tt_ok 17 (rp 8 0 [2]) [] rfl rfl fun K hK => ?_
 simp only [ltb,go_sem,reduceLT]
 refine hK _ _ rfl ?_
 simp only [mwb,reduceAdd]
 refine ex_seq ?_
 refine ex_if rfl (fun hc8 => ?_) (fun hc8 => ?_)
 ·have hlt : i < 3 := by have := of_decide_eq_true hc8; omega
  have hix := arrIx v i hlt
  have hw := i64_succ i (by omega)
  refine ex_skip ?_
  show Go.Eng.Ex _ _ _ _ _ _
  refine ex_seq ?_
  refine ex_block ?_
  refine ex_region_w tt_ok 17 [0,0,0,0,2,0,0,0,0,1] [] rfl rfl fun K hK => ?_
  try simp only [ltb]
  simp only [hix,go_sem,reduceLT]
  refine hK _ _ rfl ?_
  simp only [mwb,reduceAdd,reduceEqDiff]
  refine ex_region_w tt_ok 17 (rp 10 0 [1,1,1,1,1,2]) [(2, 12)] rfl rfl fun K hK => ?_
  refine runX_cut 3 fun K1 hK1 => ?_
  simp only [ltb,go_sem,reduceLT,reduceEqDiff]
  refine hK1 _ ?_
  refine runX_case 12 (by rfl) fun b hb4_2 => ?_
  cases b
  ·simp only [ltb,go_sem,reduceLT,reduceEqDiff]
   refine hK _ _ rfl ?_
   simp only [mwb,reduceAdd,reduceEqDiff]
   refine ex_if rfl (fun hc15 => ?_) (fun hc15 => ?_)
   ·have hres : false = v.ok := by
     cases ho : v.ok with
     | false => rfl
     | true =>
      have h1 := v.ok_iff.1 ho i hlt
      unfold okPart at h1
      simp only [Bool.and_eq_true,decide_eq_true_eq] at h1
      exfalso; simp_all <;> omega
    refine ex_region_w tt_ok 17 [0,0,2] [] rfl rfl fun K hK => ?_
    simp only [ltb,go_sem]
    refine hK _ _ rfl ?_
    simp only [mwb,reduceAdd]
    exact ex_ret ⟨.inl rfl, _, congrArg bl hres, rfl⟩
   ·refine ex_skip ?_
    show Go.Eng.Ex _ _ _ _ _ _
    refine ex_last_region_w tt_ok 17 [0,0,0,0,0,0,0,2,0,0,0,0,0,0,0,0,2] [] (by kernel_rfl) rfl rfl fun K hK => ?_
    try simp only [ltb]
    simp only [hw,go_sem,reduceLT]
    refine hK _ _ rfl ?_
    simp only [mwb,reduceAdd,reduceEqDiff]
    refine ⟨[_], ?_, ?_, 1, [false,false,true,false,false,false,true,true], by omega, by simp only [maskFr,belowV,belowL,mkb], by simp only [List.all_cons,List.all_nil,belowV,belowB,Bool.and_self,List.take_succ_cons,List.take_nil], by simp only [maskFr,putAll,List.set_cons_zero,List.set_cons_succ,mkb]; rfl⟩
    ·refine ⟨i + 1, rfl, hlt, fun j hj => ?_⟩
     rcases Nat.lt_or_ge j i with h | h
     ·exact hall j h
     ·obtain rfl : j = i := by omega
      unfold okPart; simp_all <;> omega
    ·simp only [Go.Eng.intOf,List.headD_cons]; omega
  ·simp only [ltb,go_sem,reduceLT,reduceEqDiff]
   refine hK _ _ rfl ?_
   simp only [mwb,reduceAdd,reduceEqDiff]
   refine ex_cond rfl ?_
   have hres : false = v.ok := by
    cases ho : v.ok with
    | false => rfl
    | true =>
     have h1 := v.ok_iff.1 ho i hlt
     unfold okPart at h1
     simp only [Bool.and_eq_true,decide_eq_true_eq] at h1
     exfalso; simp_all <;> omega
   refine ex_region_w tt_ok 17 [0,0,2] [] rfl rfl fun K hK => ?_
   simp only [ltb,go_sem]
   refine hK _ _ rfl ?_
   simp only [mwb,reduceAdd]
   exact ex_ret ⟨.inl rfl, _, congrArg bl hres, rfl⟩
 ·have hge : i = 3 := by have := of_decide_eq_false hc8; omega
  subst hge
  have hres : true = v.ok := (v.ok_iff.2 hall).symm
  refine ex_exit ?_
  show Go.Eng.Ex _ _ _ _ _ _
  refine ex_region_w tt_ok 17 [0,0,2] [] rfl rfl fun K hK => ?_
  simp only [ltb,go_sem]
  refine hK _ _ rfl ?_
  simp only [mwb,reduceAdd]
  exact ex_ret ⟨.inl rfl, _, congrArg bl hres, rfl⟩
end Go.Proofs.YtnfeacnbgbggfaaGreatDoor
end

section
namespace Go.Proofs.YtnfeacnbgbggfaaGreatDoor
open Go.Eng
open Nat (reduceAdd reduceLT reduceLeDiff reduceMul reduceEqDiff reduceSub)
variable [Glob]
set_option maxHeartbeats 4000000
set_option maxRecDepth 100000
attribute [local irreducible] runM stepM valD stepOp stepD callF callS
def orI (l : List Int) : Int := (l.find? fun n => decide (n ≠ 0)).getD 0
theorem orI_at {l : List Int} {i : Nat} {n : Int} (h : l[i]? = some n) (hn : n ≠ 0) (hall : ∀ j < i, ∀ m, l[j]? = some m → m = 0) : orI l = n := by
 unfold orI
 have : l.find? (fun n => decide (n ≠ 0)) = some n := by
  rw [List.find?_eq_some_iff_getElem]
  refine ⟨by simpa using hn, i, (List.getElem?_eq_some_iff.1 h).1, (List.getElem?_eq_some_iff.1 h).2, fun j hj => ?_⟩
  have := hall j hj _ (List.getElem?_eq_getElem (by have := (List.getElem?_eq_some_iff.1 h).1; omega))
  simpa using this
 rw [this]; rfl
theorem orI_none {l : List Int} (hall : ∀ j < l.length, ∀ m, l[j]? = some m → m = 0) : orI l = 0 := by
 unfold orI
 have : l.find? (fun n => decide (n ≠ 0)) = none := by
  rw [List.find?_eq_none]
  intro n hn
  obtain ⟨j, hj⟩ := List.mem_iff_getElem?.1 hn
  have := hall j (List.getElem?_eq_some_iff.1 hj).1 n hj
  simpa using this
 rw [this]; rfl
def Rl.cmp (a b : Rl) : Int := if cmpB a.path b.path ≠ 0 then cmpB a.path b.path else a.ver.cmp b.ver
theorem orI_two (a b : Int) : orI [a, b] = if a ≠ 0 then a else b := by
 unfold orI
 by_cases h : a = 0 <;> by_cases h2 : b = 0 <;> simp [h, h2]
theorem nanI_ok (n : Int) : ∃ r_, (fun w => w = bl (false)) r_ ∧ FnOk Tryz.prog 158 [num n] r_ := by
 refine fn_ex tt_ok (fn := Tryz.f158) Tryz.func158 rfl Tryz.call158 ?_
 simp only [ltb,startSt,Tryz.ntmps158,List.length_cons,List.length_nil,reduceAdd,reduceSub,List.replicate_succ,List.replicate_zero]
 refine ex_region_w tt_ok 6 [0,0,2] [] rfl rfl fun K hK => ?_
 simp only [ltb,go_sem]
 refine hK _ _ rfl ?_
 simp only [mwb,reduceAdd]
 refine ex_region_w tt_ok 6 [0,0,2,1,1,1] [] rfl rfl fun K hK => ?_
 simp only [ltb,go_sem,reduceLT,reduceEqDiff,reduceCtorEq]
 refine hK _ _ rfl ?_
 simp only [mwb,reduceAdd,reduceEqDiff]
 exact ex_ret ⟨.inl rfl, _, congrArg bl (by simp), rfl⟩
theorem nanS_ok (s : ByteArray) : ∃ r_, (fun w => w = bl (false)) r_ ∧ FnOk Tryz.prog 135 [str s] r_ := by
 refine fn_ex tt_ok (fn := Tryz.f135) Tryz.func135 rfl Tryz.call135 ?_
 simp only [ltb,startSt,Tryz.ntmps135,List.length_cons,List.length_nil,reduceAdd,reduceSub,List.replicate_succ,List.replicate_zero]
 refine ex_region_w tt_ok 6 [0,0,2] [] rfl rfl fun K hK => ?_
 simp only [ltb,go_sem]
 refine hK _ _ rfl ?_
 simp only [mwb,reduceAdd]
 refine ex_region_w tt_ok 6 [0,0,2,1,1,1] [] rfl rfl fun K hK => ?_
 simp only [ltb,go_sem,reduceLT,reduceEqDiff,reduceCtorEq]
 refine hK _ _ rfl ?_
 simp only [mwb,reduceAdd,reduceEqDiff]
 exact ex_ret ⟨.inl rfl, _, congrArg bl (by simp), rfl⟩
theorem cmpI_ok (a b : Int) : ∃ r_, (fun w => w = num (cmpI a b)) r_ ∧ FnOk Tryz.prog 136 [num a, num b] r_ := by
 refine fn_ex tt_ok (fn := Tryz.f136) Tryz.func136 rfl Tryz.call136 ?_
 simp only [ltb,startSt,Tryz.ntmps136,List.length_cons,List.length_nil,reduceAdd,reduceSub,List.replicate_succ,List.replicate_zero]
 refine ex_region_w tt_ok 20 [0,0,0,0,2] [] rfl rfl fun K hK => ?_
 simp only [ltb,go_sem]
 refine hK _ _ rfl ?_
 simp only [mwb,reduceAdd]
 refine ex_region_w tt_ok 20 [0,0,0,0,0,2,0,1,1] [] rfl rfl fun K hK => ?_
 refine runX_cut 2 fun K1 hK1 => ?_
 simp only [ltb,go_sem,reduceLT]
 refine callF_ex (nanI_ok _) ?_
 rintro _ rfl
 try simp only [go_sem]
 refine hK1 _ ?_
 simp only [ltb,go_sem,reduceLT,reduceEqDiff]
 refine hK _ _ rfl ?_
 simp only [mwb,reduceAdd,reduceEqDiff]
 refine ex_region_w tt_ok 20 [0,0,0,0,0,0,2,0,0,1,1] [] rfl rfl fun K hK => ?_
 refine runX_cut 2 fun K1 hK1 => ?_
 simp only [ltb,go_sem,reduceLT]
 refine callF_ex (nanI_ok _) ?_
 rintro _ rfl
 try simp only [go_sem]
 refine hK1 _ ?_
 simp only [ltb,go_sem,reduceLT,reduceEqDiff]
 refine hK _ _ rfl ?_
 simp only [mwb,reduceAdd,reduceEqDiff]
 refine ex_seq ?_
 refine ex_region_w tt_ok 20 (rp 11 0 [2]) [] rfl rfl fun K hK => ?_
 simp only [ltb,go_sem,reduceLT]
 refine hK _ _ rfl ?_
 simp only [mwb,reduceAdd]
 refine ex_if rfl (fun hc11 => ?_) (fun hc11 => ?_)
 ·cases hc11
 ·refine ex_skip ?_
  show Go.Eng.Ex _ _ _ _ _ _
  refine ex_seq ?_
  refine ex_region_w tt_ok 20 (rp 13 0 [2]) [] rfl rfl fun K hK => ?_
  simp only [ltb,go_sem,reduceLT]
  refine hK _ _ rfl ?_
  simp only [mwb,reduceAdd]
  refine ex_if rfl (fun hc13 => ?_) (fun hc13 => ?_)
  ·cases hc13
  ·refine ex_skip ?_
   show Go.Eng.Ex _ _ _ _ _ _
   refine ex_seq ?_
   refine ex_region_w tt_ok 20 (rp 14 0 [1,1,2]) [] rfl rfl fun K hK => ?_
   simp only [ltb,go_sem,reduceLT,reduceEqDiff]
   refine hK _ _ rfl ?_
   simp only [mwb,reduceAdd,reduceEqDiff]
   refine ex_if rfl (fun hc16 => ?_) (fun hc16 => ?_)
   ·refine ex_region_w tt_ok 20 [0,0,0,0,2] [] rfl rfl fun K hK => ?_
    simp only [ltb,go_sem]
    refine hK _ _ rfl ?_
    simp only [mwb,reduceAdd]
    exact ex_ret ⟨.inl rfl, _, congrArg num (by unfold cmpI; simp_all <;> omega), rfl⟩
   ·refine ex_skip ?_
    show Go.Eng.Ex _ _ _ _ _ _
    refine ex_seq ?_
    refine ex_region_w tt_ok 20 (rp 17 0 [1,1,2]) [] rfl rfl fun K hK => ?_
    simp only [ltb,go_sem,reduceLT,reduceEqDiff]
    refine hK _ _ rfl ?_
    simp only [mwb,reduceAdd,reduceEqDiff]
    refine ex_if rfl (fun hc19 => ?_) (fun hc19 => ?_)
    ·refine ex_region_w tt_ok 20 [0,0,0,0,2] [] rfl rfl fun K hK => ?_
     simp only [ltb,go_sem]
     refine hK _ _ rfl ?_
     simp only [mwb,reduceAdd]
     exact ex_ret ⟨.inl rfl, _, congrArg num (by unfold cmpI; simp_all <;> omega), rfl⟩
    ·refine ex_skip ?_
     show Go.Eng.Ex _ _ _ _ _ _
     refine ex_region_w tt_ok 20 [0,0,0,0,2] [] rfl rfl fun K hK => ?_
     simp only [ltb,go_sem]
     refine hK _ _ rfl ?_
     simp only [mwb,reduceAdd]
     exact ex_ret ⟨.inl rfl, _, congrArg num (by unfold cmpI; simp_all <;> omega), rfl⟩
theorem cmpS_ok (a b : ByteArray) : ∃ r_, (fun w => w = num (cmpB a b)) r_ ∧ FnOk Tryz.prog 111 [str a, str b] r_ := by
 refine fn_ex tt_ok (fn := Tryz.f111) Tryz.func111 rfl Tryz.call111 ?_
 simp only [ltb,startSt,Tryz.ntmps111,List.length_cons,List.length_nil,reduceAdd,reduceSub,List.replicate_succ,List.replicate_zero]
 refine ex_region_w tt_ok 20 [0,0,0,0,2] [] rfl rfl fun K hK => ?_
 simp only [ltb,go_sem]
 refine hK _ _ rfl ?_
 simp only [mwb,reduceAdd]
 refine ex_region_w tt_ok 20 [0,0,0,0,0,2,0,1,1] [] rfl rfl fun K hK => ?_
 refine runX_cut 2 fun K1 hK1 => ?_
 simp only [ltb,go_sem,reduceLT]
 refine callF_ex (nanS_ok _) ?_
 rintro _ rfl
 try simp only [go_sem]
 refine hK1 _ ?_
 simp only [ltb,go_sem,reduceLT,reduceEqDiff]
 refine hK _ _ rfl ?_
 simp only [mwb,reduceAdd,reduceEqDiff]
 refine ex_region_w tt_ok 20 [0,0,0,0,0,0,2,0,0,1,1] [] rfl rfl fun K hK => ?_
 refine runX_cut 2 fun K1 hK1 => ?_
 simp only [ltb,go_sem,reduceLT]
 refine callF_ex (nanS_ok _) ?_
 rintro _ rfl
 try simp only [go_sem]
 refine hK1 _ ?_
 simp only [ltb,go_sem,reduceLT,reduceEqDiff]
 refine hK _ _ rfl ?_
 simp only [mwb,reduceAdd,reduceEqDiff]
 refine ex_seq ?_
 refine ex_region_w tt_ok 20 (rp 11 0 [2]) [] rfl rfl fun K hK => ?_
 simp only [ltb,go_sem,reduceLT]
 refine hK _ _ rfl ?_
 simp only [mwb,reduceAdd]
 refine ex_if rfl (fun hc11 => ?_) (fun hc11 => ?_)
 ·cases hc11
 ·refine ex_skip ?_
  show Go.Eng.Ex _ _ _ _ _ _
  refine ex_seq ?_
  refine ex_region_w tt_ok 20 (rp 13 0 [2]) [] rfl rfl fun K hK => ?_
  simp only [ltb,go_sem,reduceLT]
  refine hK _ _ rfl ?_
  simp only [mwb,reduceAdd]
  refine ex_if rfl (fun hc13 => ?_) (fun hc13 => ?_)
  ·cases hc13
  ·refine ex_skip ?_
   show Go.Eng.Ex _ _ _ _ _ _
   refine ex_seq ?_
   refine ex_region_w tt_ok 20 (rp 14 0 [1,1,2]) [] rfl rfl fun K hK => ?_
   simp only [ltb,go_sem,reduceLT,reduceEqDiff]
   refine hK _ _ rfl ?_
   simp only [mwb,reduceAdd,reduceEqDiff]
   refine ex_if rfl (fun hc16 => ?_) (fun hc16 => ?_)
   ·refine ex_region_w tt_ok 20 [0,0,0,0,2] [] rfl rfl fun K hK => ?_
    simp only [ltb,go_sem]
    refine hK _ _ rfl ?_
    simp only [mwb,reduceAdd]
    exact ex_ret ⟨.inl rfl, _, congrArg num (by unfold cmpB ltB; simp_all []), rfl⟩
   ·refine ex_skip ?_
    show Go.Eng.Ex _ _ _ _ _ _
    refine ex_seq ?_
    refine ex_region_w tt_ok 20 (rp 17 0 [1,1,2]) [] rfl rfl fun K hK => ?_
    simp only [ltb,go_sem,reduceLT,reduceEqDiff]
    refine hK _ _ rfl ?_
    simp only [mwb,reduceAdd,reduceEqDiff]
    refine ex_if rfl (fun hc19 => ?_) (fun hc19 => ?_)
    ·refine ex_region_w tt_ok 20 [0,0,0,0,2] [] rfl rfl fun K hK => ?_
     simp only [ltb,go_sem]
     refine hK _ _ rfl ?_
     simp only [mwb,reduceAdd]
     exact ex_ret ⟨.inl rfl, _, congrArg num (by unfold cmpB ltB; simp_all [str_beq]), rfl⟩
    ·refine ex_skip ?_
     show Go.Eng.Ex _ _ _ _ _ _
     refine ex_region_w tt_ok 20 [0,0,0,0,2] [] rfl rfl fun K hK => ?_
     simp only [ltb,go_sem]
     refine hK _ _ rfl ?_
     simp only [mwb,reduceAdd]
     exact ex_ret ⟨.inl rfl, _, congrArg num (by unfold cmpB ltB; simp_all [str_beq]), rfl⟩
theorem or_ok (l : List Int) (hl : l.length ≤ 1048576) : ∃ r_, (fun w => w = num (orI l)) r_ ∧ FnOk Tryz.prog 110 [.slice (l.map num)] r_ := by
 refine fn_ex tt_ok (fn := Tryz.f110) Tryz.func110 rfl Tryz.call110 ?_
 simp only [ltb,startSt,Tryz.ntmps110,List.length_cons,List.length_nil,reduceAdd,reduceSub,List.replicate_succ,List.replicate_zero]
 refine ex_region_w tt_ok 18 [0,0,2] [] rfl rfl fun K hK => ?_
 simp only [ltb,go_sem]
 refine hK _ _ rfl ?_
 simp only [mwb,reduceAdd]
 refine ex_region_w tt_ok 18 [0,0,0,2] [] rfl rfl fun K hK => ?_
 simp only [ltb,go_sem]
 refine hK _ _ rfl ?_
 simp only [mwb,reduceAdd]
 refine ex_seq ?_
 refine ex_region_w tt_ok 18 [0,0,0,0,0,0,2,2,2] [] rfl rfl fun K hK => ?_
 try simp only [ltb]
 simp only [List.length_map,go_sem,reduceLT]
 refine hK _ _ rfl ?_
 simp only [mwb,reduceAdd,reduceEqDiff]
 refine ex_block ?_
 refine ex_loopK [8] [num 0] 0 [false,false,true,true,false,false,true,true,true] (fun vs => ((l.length : Int) - Go.Eng.intOf (vs.headD .undef)).toNat) (fun vs => ∃ i : Nat, vs = [num i] ∧ i ≤ l.length ∧ ∀ j < i, ∀ m, l[j]? = some m → m = 0) (by omega) (by simp only [maskFr,belowV,mkb]) (by simp only [List.all_nil,List.take_nil]) (by rfl) (⟨0, rfl, Nat.zero_le _, fun j hj => absurd hj (Nat.not_lt_zero j)⟩) fun vs hI => ?_
 obtain ⟨i, rfl, hi, hall⟩ := hI
 simp only [maskFr,putAll,List.set_cons_zero,List.set_cons_succ,mkb]
 refine ex_region_w tt_ok 18 (rp 9 0 [2]) [] rfl rfl fun K hK => ?_
 simp only [ltb,go_sem,reduceLT]
 refine hK _ _ rfl ?_
 simp only [mwb,reduceAdd]
 refine ex_seq ?_
 refine ex_if rfl (fun hc9 => ?_) (fun hc9 => ?_)
 ·have hlt : i < l.length := by simpa using hc9
  have hw := i64_succ i (by omega)
  obtain ⟨x, hx⟩ : ∃ x, l[i]? = some x := ⟨_, List.getElem?_eq_getElem hlt⟩
  refine ex_skip ?_
  show Go.Eng.Ex _ _ _ _ _ _
  refine ex_seq ?_
  refine ex_block ?_
  refine ex_region_w tt_ok 18 [0,0,0,0,0,2,0,0,0,0,1,1] [] rfl rfl fun K hK => ?_
  try simp only [ltb]
  simp only [List.getElem?_map,hx,go_sem,reduceLT,reduceEqDiff]
  refine hK _ _ rfl ?_
  simp only [mwb,reduceAdd,reduceEqDiff]
  refine ex_region_w tt_ok 18 (rp 12 0 [1,1,2]) [] rfl rfl fun K hK => ?_
  simp only [ltb,go_sem,reduceLT,reduceEqDiff]
  refine hK _ _ rfl ?_
  simp only [mwb,reduceAdd,reduceEqDiff]
  refine ex_if rfl (fun hc14 => ?_) (fun hc14 => ?_)
  ·have hres : x = orI l := (orI_at hx (by simpa using hc14) hall).symm
   refine ex_region_w tt_ok 18 (0::0::2::(rp 12 0 [1])) [] rfl rfl fun K hK => ?_
   simp only [ltb,go_sem,reduceLT]
   refine hK _ _ rfl ?_
   simp only [mwb,reduceAdd,reduceEqDiff]
   exact ex_ret ⟨.inl rfl, _, congrArg num hres, rfl⟩
  ·refine ex_skip ?_
   show Go.Eng.Ex _ _ _ _ _ _
   refine ex_last_region_w tt_ok 18 (rp 8 0 [2,0,0,0,0,0,0,0,2]) [] (by kernel_rfl) rfl rfl fun K hK => ?_
   try simp only [ltb]
   simp only [hw,go_sem,reduceLT]
   refine hK _ _ rfl ?_
   simp only [mwb,reduceAdd,reduceEqDiff]
   refine ⟨[_], ?_, ?_, 0, [false,false,true,true,false,false,true,true,true], by omega, by simp only [maskFr,belowV,mkb], by simp only [List.all_nil,List.take_nil], by simp only [maskFr,putAll,List.set_cons_zero,List.set_cons_succ,mkb]; rfl⟩
   ·refine ⟨i + 1, rfl, hlt, fun j hj => ?_⟩
    rcases Nat.lt_or_ge j i with h | h
    ·exact hall j h
    ·obtain rfl : j = i := by omega
     intro m hm
     rw [hx] at hm; cases hm; simpa using hc14
   ·simp only [Go.Eng.intOf,List.headD_cons]; omega
 ·have hge : ¬ i < l.length := by simpa using hc9
  have hres : 0 = orI l := (orI_none fun j hj => hall j (by omega)).symm
  refine ex_exit ?_
  show Go.Eng.Ex _ _ _ _ _ _
  refine ex_region_w tt_ok 18 (0::0::2::(rp 14 0 [1])) [] rfl rfl fun K hK => ?_
  simp only [ltb,go_sem,reduceLT]
  refine hK _ _ rfl ?_
  simp only [mwb,reduceAdd,reduceEqDiff]
  exact ex_ret ⟨.inl rfl, _, congrArg num hres, rfl⟩
end Go.Proofs.YtnfeacnbgbggfaaGreatDoor
end

section
namespace Go.Proofs.YtnfeacnbgbggfaaGreatDoor
open Go.Eng
variable [Glob]
theorem seqS {P : Program} {T : TypeId} (hT : P.underlying T = some .string) (d : Nat) (a b : ByteArray) : scRunP P (Op.equalIn (d + 1) T (.string a) (.string b)) = some (a == b) := by
 rw [Op.equalIn, scRunP_bind, scRunP_underlying hT]
 rfl
theorem seqI {P : Program} {T : TypeId} (hT : P.underlying T = some (.int .i64)) (d : Nat) (a b : Int) : scRunP P (Op.equalIn (d + 1) T (.int .i64 a) (.int .i64 b)) = some (a == b) := by
 rw [Op.equalIn, scRunP_bind, scRunP_underlying hT]
 rfl
theorem eqIn78 (d : Nat) (a b c e : Int) : scRunP Tryz.prog (Op.equalIn (d + 1 + 1) 78 (.agg #[.int .i64 a, .int .i64 b]) (.agg #[.int .i64 c, .int .i64 e])) = some (a == c && b == e) := by
 have q1 := seqI Tryz.underlying3 d a c
 have q2 := seqI Tryz.underlying3 d b e
 have hs : Tryz.prog.stoodInHeld 78 = false := by kernel_rfl
 have hp1 : ∀ x y, scRunP Tryz.prog (part 3 #[x, y] 0) = some x := fun x y => by kernel_rfl
 have hp2 : ∀ x y, scRunP Tryz.prog (part 3 #[x, y] 1) = some y := fun x y => by kernel_rfl
 rw [Op.equalIn, scRunP_bind, scRunP_underlying Tryz.underlying78]
 dsimp only [Option.bind_some]
 rw [scRunP_bind]
 show ((some Tryz.prog).bind _) = _
 rw [Option.bind_some, if_neg (by rw [hs]; simp)]
 rw [← Array.forIn_toList]
 have n1 : ("From" ≠ "_") := by decide
 have n2 : ("To" ≠ "_") := by decide
 have pr : ∀ {α : Type} (x : α), scRunP Tryz.prog (pure x : Sem α) = some x := fun x => rfl
 simp only [List.forIn_cons,List.forIn_nil,scRunP_bind,if_pos n1,if_pos n2,hp1,hp2,Option.bind_some,q1,pr]
 cases hac : (a == c)
 ·simp [pr, Option.bind_some]
 ·simp only [Bool.not_true,Bool.false_eq_true,if_false,pr,Option.bind_some,scRunP_bind,if_pos n2,hp2,q2,Bool.true_and]
  cases hbd : (b == e) <;> simp [pr, scRunP_bind]
theorem eqIn38 (n : Nat) (a b c x y z : Int) : scRunP Tryz.prog (Op.equalIn (n + 1 + 1) 38 (.agg #[.int .i64 a, .int .i64 b, .int .i64 c]) (.agg #[.int .i64 x, .int .i64 y, .int .i64 z])) = some (a == x && (b == y && c == z)) := by
 have q1 := seqI Tryz.underlying3 n a x
 have q2 := seqI Tryz.underlying3 n b y
 have q3 := seqI Tryz.underlying3 n c z
 have hs : Tryz.prog.stoodInHeld 38 = false := by kernel_rfl
 have hp1 : ∀ x y z, scRunP Tryz.prog (part 3 #[x, y, z] 0) = some x := fun x y z => by kernel_rfl
 have hp2 : ∀ x y z, scRunP Tryz.prog (part 3 #[x, y, z] 1) = some y := fun x y z => by kernel_rfl
 have hp3 : ∀ x y z, scRunP Tryz.prog (part 3 #[x, y, z] 2) = some z := fun x y z => by kernel_rfl
 rw [Op.equalIn, scRunP_bind, scRunP_underlying Tryz.underlying38]
 dsimp only [Option.bind_some]
 rw [scRunP_bind]
 show ((some Tryz.prog).bind _) = _
 rw [Option.bind_some, if_neg (by rw [hs]; simp)]
 rw [← Array.forIn_toList]
 have n1 : ("Major" ≠ "_") := by decide
 have n2 : ("Minor" ≠ "_") := by decide
 have n3 : ("Patch" ≠ "_") := by decide
 have pr : ∀ {α : Type} (x : α), scRunP Tryz.prog (pure x : Sem α) = some x := fun x => rfl
 simp only [List.forIn_cons,List.forIn_nil,scRunP_bind,if_pos n1,if_pos n2,if_pos n3,hp1,hp2,hp3,Option.bind_some,q1,pr]
 cases h1 : (a == x)
 ·simp [pr, Option.bind_some]
 ·simp only [Bool.not_true,Bool.false_eq_true,if_false,pr,Option.bind_some,scRunP_bind,if_pos n2,if_pos n3,hp2,hp3,q2,q3,Bool.true_and]
  cases h2 : (b == y)
  ·simp [pr, scRunP_bind]
  ·simp only [Bool.not_true,Bool.false_eq_true,if_false,pr,Option.bind_some,scRunP_bind,if_pos n3,hp3,q3,Bool.true_and]
   cases h3 : (c == z) <;> simp [pr, scRunP_bind]
theorem eqIn54 (n : Nat) (s t : ByteArray) (a b c x y z : Int) : scRunP Tryz.prog (Op.equalIn (n + 1 + 1 + 1) 54 (.agg #[.string s, .int .i64 a, .int .i64 b, .int .i64 c]) (.agg #[.string t, .int .i64 x, .int .i64 y, .int .i64 z])) = some (s == t && (a == x && (b == y && c == z))) := by
 have q1 := seqS Tryz.underlying9 (n + 1) s t
 have q2 := eqIn38 n a b c x y z
 have hs : Tryz.prog.stoodInHeld 54 = false := by kernel_rfl
 have hp1 : ∀ x y z u, scRunP Tryz.prog (part 9 #[x, y, z, u] 0) = some x := fun x y z u => by kernel_rfl
 have hp2 : ∀ x y z u, scRunP Tryz.prog (part 38 #[x, y, z, u] 1) = some (.agg #[y, z, u]) := fun x y z u => by kernel_rfl
 rw [Op.equalIn, scRunP_bind, scRunP_underlying Tryz.underlying54]
 dsimp only [Option.bind_some]
 rw [scRunP_bind]
 show ((some Tryz.prog).bind _) = _
 rw [Option.bind_some, if_neg (by rw [hs]; simp)]
 rw [← Array.forIn_toList]
 have n1 : ("Path" ≠ "_") := by decide
 have n2 : ("Version" ≠ "_") := by decide
 have pr : ∀ {α : Type} (x : α), scRunP Tryz.prog (pure x : Sem α) = some x := fun x => rfl
 simp only [List.forIn_cons,List.forIn_nil,scRunP_bind,if_pos n1,if_pos n2,hp1,hp2,Option.bind_some,q1,pr]
 cases hac : (s == t)
 ·simp [pr, Option.bind_some]
 ·simp only [Bool.not_true,Bool.false_eq_true,if_false,pr,Option.bind_some,scRunP_bind,if_pos n2,hp2,q2,Bool.true_and]
  cases hbd : (a == x && (b == y && c == z)) <;> simp [pr, scRunP_bind]
theorem eq78 (u v : Spn) : scRunP Tryz.prog (Op.equal 78 (.agg #[.int .i64 u.lo, .int .i64 u.hi]) (.agg #[.int .i64 v.lo, .int .i64 v.hi])) = some (decide (u = v)) := by
 rw [show Op.equal 78 = Op.equalIn (9998 + 1 + 1) 78 from rfl, eqIn78]
 congr 1
 rw [Bool.eq_iff_iff]
 simp only [Bool.and_eq_true,beq_iff_eq,decide_eq_true_eq]
 exact ⟨fun h => Spn.ext' h.1 h.2, fun h => by subst h; exact ⟨rfl, rfl⟩⟩
theorem eq38 (u v : Ver) : scRunP Tryz.prog (Op.equal 38 (.agg #[.int .i64 u.mj, .int .i64 u.mn, .int .i64 u.pt]) (.agg #[.int .i64 v.mj, .int .i64 v.mn, .int .i64 v.pt])) = some (decide (u = v)) := by
 rw [show Op.equal 38 = Op.equalIn (9998 + 1 + 1) 38 from rfl, eqIn38]
 congr 1
 rw [Bool.eq_iff_iff]
 simp only [Bool.and_eq_true,beq_iff_eq,decide_eq_true_eq]
 exact ⟨fun h => Ver.ext' h.1 h.2.1 h.2.2, fun h => by subst h; exact ⟨rfl, rfl, rfl⟩⟩
def selVal (s : Sel) : Value := .agg #[.string s.path, .int .i64 s.ver.mj, .int .i64 s.ver.mn, .int .i64 s.ver.pt]
theorem eq54 (u v : Sel) : scRunP Tryz.prog (Op.equal 54 (selVal u) (selVal v)) = some (decide (u = v)) := by
 unfold selVal
 rw [show Op.equal 54 = Op.equalIn (9997 + 1 + 1 + 1) 54 from rfl, eqIn54]
 congr 1
 rw [Bool.eq_iff_iff]
 simp only [Bool.and_eq_true,beq_iff_eq,decide_eq_true_eq,baBeq_iff]
 exact ⟨fun h => Sel.ext' h.1 (Ver.ext' h.2.1 h.2.2.1 h.2.2.2), fun h => by subst h; exact ⟨rfl, rfl, rfl, rfl⟩⟩
theorem ev_neq78 (x y : Operand) (u v : Spn) : lift2 Tryz.prog (opB .neq 78 x y) (.agg [num u.lo, num u.hi]) (.agg [num v.lo, num v.hi]) = some (bl (!decide (u = v))) := by
 have : scRunP Tryz.prog (do eqGuard .neq 78 x y (.agg #[.int .i64 u.lo, .int .i64 u.hi]) (.agg #[.int .i64 v.lo, .int .i64 v.hi]); binOp .neq 78 (.agg #[.int .i64 u.lo, .int .i64 u.hi]) (.agg #[.int .i64 v.lo, .int .i64 v.hi])) = some (.bool (!decide (u = v))) := by
  have hg : scRunP Tryz.prog (eqGuard .neq 78 x y (.agg #[.int .i64 u.lo, .int .i64 u.hi]) (.agg #[.int .i64 v.lo, .int .i64 v.hi])) = some () := by kernel_rfl
  rw [scRunP_bind, hg, Option.bind_some]
  have hb : ∀ u v : Array Value, binOp .neq 78 (.agg u) (.agg v) = (Op.equal 78 (.agg u) (.agg v) >>= fun r => Pure.pure (Value.bool !r)) := fun u v => rfl
  rw [hb, scRunP_bind, eq78]; rfl
 simp only [lift2,toVal,allSc,opB]
 rw [this]; rfl
theorem ev_eql38 (x y : Operand) (u v : Ver) : lift2 Tryz.prog (opB .eql 38 x y) (.agg [num u.mj, num u.mn, num u.pt]) (.agg [num v.mj, num v.mn, num v.pt]) = some (bl (decide (u = v))) := by
 have : scRunP Tryz.prog (do eqGuard .eql 38 x y (.agg #[.int .i64 u.mj, .int .i64 u.mn, .int .i64 u.pt]) (.agg #[.int .i64 v.mj, .int .i64 v.mn, .int .i64 v.pt]); binOp .eql 38 (.agg #[.int .i64 u.mj, .int .i64 u.mn, .int .i64 u.pt]) (.agg #[.int .i64 v.mj, .int .i64 v.mn, .int .i64 v.pt])) = some (.bool (decide (u = v))) := by
  have hg : scRunP Tryz.prog (eqGuard .eql 38 x y (.agg #[.int .i64 u.mj, .int .i64 u.mn, .int .i64 u.pt]) (.agg #[.int .i64 v.mj, .int .i64 v.mn, .int .i64 v.pt])) = some () := by kernel_rfl
  rw [scRunP_bind, hg, Option.bind_some]
  have hb : ∀ u v : Array Value, binOp .eql 38 (.agg u) (.agg v) = (Op.equal 38 (.agg u) (.agg v) >>= fun r => Pure.pure (Value.bool r)) := fun u v => rfl
  rw [hb, scRunP_bind, eq38]; rfl
 simp only [lift2,toVal,allSc,opB]
 rw [this]; rfl
theorem ev_eql54 (x y : Operand) (u v : Sel) : lift2 Tryz.prog (opB .eql 54 x y) (.agg [str u.path, num u.ver.mj, num u.ver.mn, num u.ver.pt]) (.agg [str v.path, num v.ver.mj, num v.ver.mn, num v.ver.pt]) = some (bl (decide (u = v))) := by
 have : scRunP Tryz.prog (do eqGuard .eql 54 x y (selVal u) (selVal v); binOp .eql 54 (selVal u) (selVal v)) = some (.bool (decide (u = v))) := by
  have hg : scRunP Tryz.prog (eqGuard .eql 54 x y (selVal u) (selVal v)) = some () := by unfold selVal; kernel_rfl
  rw [scRunP_bind, hg, Option.bind_some]
  have hb : ∀ u v : Array Value, binOp .eql 54 (.agg u) (.agg v) = (Op.equal 54 (.agg u) (.agg v) >>= fun r => Pure.pure (Value.bool r)) := fun u v => rfl
  unfold selVal
  rw [hb, scRunP_bind]
  have := eq54 u v
  unfold selVal at this
  rw [this]; rfl
 unfold selVal at this
 simp only [lift2,toVal,allSc,opB]
 rw [this]; rfl
end Go.Proofs.YtnfeacnbgbggfaaGreatDoor
end

section
namespace Go.Proofs.YtnfeacnbgbggfaaGreatDoor
open Go.Eng
open Nat (reduceAdd reduceLT reduceLeDiff reduceMul reduceEqDiff reduceSub)
variable [Glob]
set_option maxHeartbeats 4000000
set_option maxRecDepth 100000
attribute [local irreducible] runM stepM valD stepOp stepD callF callS
def Ver.pl (v : Ver) : Int := if v.ok = true then v.place else 0
def inSpn (p : Int) (x : Spn) : Bool := decide (x.lo ≤ p) && decide (p < x.hi)
theorem any_of {α : Type} {q : α → Bool} {l : List α} {i : Nat} {x : α} (h : l[i]? = some x) (hq : q x = true) : l.any q = true := List.any_eq_true.2 ⟨x, List.mem_of_getElem? h, hq⟩
theorem any_none {α : Type} {q : α → Bool} {l : List α} (h : ∀ j < l.length, ∀ x, l[j]? = some x → q x = false) : l.any q = false := by
 rw [List.any_eq_false]
 intro x hx
 obtain ⟨j, hj⟩ := List.mem_iff_getElem?.1 hx
 rw [h j (List.getElem?_eq_some_iff.1 hj).1 x hj]; simp
theorem has_eq (s : List Spn) (p : Int) : has s p = (decide (0 ≤ p) && decide (p < 1000000) && s.any (inSpn p)) := rfl
theorem list_eq_of {α : Type} {xs ys : List α} (hl : xs.length = ys.length) (h : ∀ j < xs.length, xs[j]? = ys[j]?) : xs = ys := by
 apply List.ext_getElem?
 intro j
 rcases Nat.lt_or_ge j xs.length with hj | hj
 ·exact h j hj
 ·rw [List.getElem?_eq_none hj, List.getElem?_eq_none (by omega)]
theorem key_ok (r : Rl) : ∃ r_, (fun w => w = encSel r.key) r_ ∧ FnOk Tryz.prog 47 [encRl r] r_ := by
 refine fn_ex tt_ok (fn := Tryz.f47) Tryz.func47 rfl Tryz.call47 ?_
 simp only [ltb,startSt,Tryz.ntmps47,List.length_cons,List.length_nil,reduceAdd,reduceSub,List.replicate_succ,List.replicate_zero]
 simp only [encRl,rlCells]
 refine ex_region_w tt_ok 8 [0,2,2] [] rfl rfl fun K hK => ?_
 simp only [ltb,go_sem,reduceLT]
 refine hK _ _ rfl ?_
 simp only [mwb,reduceAdd,reduceEqDiff]
 refine ex_region_w tt_ok 8 [0,0,0,1,1,1,1,1] [] rfl rfl fun K hK => ?_
 simp only [ltb,go_sem,reduceAdd,reduceLT,reduceLeDiff,reduceEqDiff,reduceCtorEq]
 refine hK _ _ rfl ?_
 simp only [mwb]
 exact ex_ret ⟨.inl rfl, _, rfl, rfl⟩
theorem cplace_ok (v : Ver) : ∃ r_, (fun w => w = .tup [num v.pl, num (if v.ok = true then 0 else 2)]) r_ ∧ FnOk Tryz.prog 25 [encVer v] r_ := by
 refine fn_ex tt_ok (fn := Tryz.f25) Tryz.func25 rfl Tryz.call25 ?_
 simp only [ltb,startSt,Tryz.ntmps25,List.length_cons,List.length_nil,reduceAdd,reduceSub,List.replicate_succ,List.replicate_zero]
 simp only [encVer]
 refine ex_region_w tt_ok 13 [0,2,2,2] [] rfl rfl fun K hK => ?_
 simp only [ltb,go_sem,reduceLT]
 refine hK _ _ rfl ?_
 simp only [mwb,reduceAdd,reduceEqDiff]
 refine ex_seq ?_
 refine ex_region_w tt_ok 13 [0,0,0,0,1,1,2] [] rfl rfl fun K hK => ?_
 refine runX_cut 2 fun K1 hK1 => ?_
 simp only [ltb,go_sem,reduceAdd,reduceLT]
 refine callF_ex (by have h := valid_ok v; simp only [encVer] at h; exact h) ?_
 rintro _ rfl
 try simp only [go_sem]
 refine hK1 _ ?_
 simp only [ltb,go_sem,reduceLT,reduceEqDiff]
 refine hK _ _ rfl ?_
 simp only [mwb,reduceAdd,reduceEqDiff]
 refine ex_if rfl (fun hc6 => ?_) (fun hc6 => ?_)
 ·have ho : v.ok = false := by simpa using hc6
  have hp : v.pl = 0 := by unfold Ver.pl; rw [ho]; rfl
  refine ex_region_w tt_ok 13 [0,0,2,2] [] rfl rfl fun K hK => ?_
  simp only [ltb,go_sem]
  refine hK _ _ rfl ?_
  simp only [mwb,reduceAdd,reduceEqDiff]
  refine ex_ret ?_
  refine ⟨.inl rfl, _, ?_, rfl⟩
  rw [hp, ho]
  rfl
 ·have ho : v.ok = true := by simpa using hc6
  have hp : v.pl = v.place := if_pos ho
  obtain ⟨w1, w2, -, -⟩ := wrap_place ho
  refine ex_skip ?_
  show Go.Eng.Ex _ _ _ _ _ _
  refine ex_region_w tt_ok 13 [0,0,2,2,0,0,0,1,1,1,1,1,1] [] rfl rfl fun K hK => ?_
  try simp only [ltb]
  simp only [w1,w2,go_sem,reduceAdd,reduceLT,reduceLeDiff,reduceEqDiff]
  refine hK _ _ rfl ?_
  simp only [mwb,reduceAdd,reduceEqDiff]
  refine ex_ret ?_
  refine ⟨.inl rfl, _, ?_, rfl⟩
  rw [hp, ho]
  rfl
theorem place_ok (r : Rl) : ∃ r_, (fun w => w = num (r.ver.pl)) r_ ∧ FnOk Tryz.prog 48 [encRl r] r_ := by
 refine fn_ex tt_ok (fn := Tryz.f48) Tryz.func48 rfl Tryz.call48 ?_
 simp only [ltb,startSt,Tryz.ntmps48,List.length_cons,List.length_nil,reduceAdd,reduceSub,List.replicate_succ,List.replicate_zero]
 simp only [encRl,rlCells]
 refine ex_region_w tt_ok 12 [0,2,2] [] rfl rfl fun K hK => ?_
 simp only [ltb,go_sem,reduceLT]
 refine hK _ _ rfl ?_
 simp only [mwb,reduceAdd,reduceEqDiff]
 refine ex_region_w tt_ok 12 [0,0,0,2,1,1,1,1,1,1,1] [] rfl rfl fun K hK => ?_
 refine runX_cut 3 fun K1 hK1 => ?_
 simp only [ltb,go_sem,reduceAdd,reduceLT,reduceLeDiff,reduceEqDiff]
 refine callF_ex (by have h := cplace_ok r.ver; simp only [encVer] at h; exact h) ?_
 rintro _ rfl
 try simp only [go_sem]
 refine hK1 _ ?_
 simp only [ltb,go_sem,reduceLT,reduceEqDiff]
 refine hK _ _ rfl ?_
 simp only [mwb,reduceAdd,reduceEqDiff]
 refine ex_region_w tt_ok 12 [0,0,2,0,0,0,0,0,0,0,0,1] [] rfl rfl fun K hK => ?_
 simp only [ltb,go_sem,reduceLT]
 refine hK _ _ rfl ?_
 simp only [mwb,reduceAdd,reduceEqDiff]
 exact ex_ret ⟨.inl rfl, _, rfl, rfl⟩
theorem hasC_ok (p : Int) (x : Spn) : ∃ r_, (fun w => w = bl (inSpn p x)) r_ ∧ FnOkS Tryz.prog 81 [encSpn x, .ptr 0 0] ([.box [num p]]) r_ ([.box [num p]]) := by
 refine fns_ex tt_ok (fn := Tryz.f81) Tryz.func81 rfl Tryz.call81 (rfl) ?_
 simp only [ltb,startSt,Tryz.ntmps81,List.length_cons,List.length_nil,reduceAdd,reduceSub,List.replicate_succ,List.replicate_zero]
 simp only [encSpn]
 refine ex_region_w tt_ok 14 [0,0,2,2] [] rfl rfl fun K hK => ?_
 simp only [ltb,go_sem,reduceAdd,reduceLT]
 refine hK _ _ rfl ?_
 simp only [mwb,reduceAdd,reduceEqDiff]
 refine ex_region_w tt_ok 14 [0,0,0,2,1,1,1,1,1,1,1,1,1,1] [(4, 8)] rfl rfl fun K hK => ?_
 refine runX_cut 5 fun K1 hK1 => ?_
 simp only [ltb,go_sem,reduceAdd,reduceLT,reduceLeDiff,reduceEqDiff]
 refine hK1 _ ?_
 refine runX_case 8 (by rfl) fun b hb1_4 => ?_
 cases b
 ·simp only [ltb,go_sem,reduceAdd,reduceLT,reduceEqDiff]
  refine hK _ _ rfl ?_
  simp only [mwb,reduceAdd,reduceEqDiff]
  refine ex_ret ?_
  refine ⟨.inl rfl, _, congrArg bl ?_, rfl, rfl, rfl⟩
  unfold inSpn; simp_all <;> (intros; omega)
 ·simp only [ltb,go_sem,reduceAdd,reduceLT,reduceEqDiff]
  refine hK _ _ rfl ?_
  simp only [mwb,reduceAdd,reduceEqDiff]
  refine ex_ret ?_
  refine ⟨.inl rfl, _, congrArg bl ?_, rfl, rfl, rfl⟩
  unfold inSpn; simp_all <;> (intros; omega)
theorem idxSpn_ok (p : Int) (s : List Spn) (hl : s.length ≤ 1048576) : ∃ r_, (fun w => ∃ k : Int, w = num k ∧ decide (0 ≤ k) = s.any (inSpn p)) r_ ∧ FnOkS Tryz.prog 115 [encSet s, .clo (.func 81) [] [.ptr 0 0]] ([.box [num p]]) r_ ([.box [num p]]) := by
 refine fns_ex tt_ok (fn := Tryz.f115) Tryz.func115 rfl Tryz.call115 (rfl) ?_
 simp only [ltb,startSt,Tryz.ntmps115,List.length_cons,List.length_nil,reduceAdd,reduceSub,List.replicate_succ,List.replicate_zero]
 simp only [encSet]
 refine ex_region_w tt_ok 19 [0,0,0,0,2] [] rfl rfl fun K hK => ?_
 simp only [ltb,go_sem]
 refine hK _ _ rfl ?_
 simp only [mwb,reduceAdd]
 refine ex_seq ?_
 refine ex_region_w tt_ok 19 [0,0,0,0,0,0,1,2,2] [] rfl rfl fun K hK => ?_
 try simp only [ltb]
 simp only [List.length_map,go_sem,reduceLT]
 refine hK _ _ rfl ?_
 simp only [mwb,reduceAdd,reduceEqDiff]
 refine ex_block ?_
 refine ex_loopK [8] [num 0] 1 [true,true,false,false,true,false,false,true,true] (fun vs => ((s.length : Int) - Go.Eng.intOf (vs.headD .undef)).toNat) (fun vs => ∃ i : Nat, vs = [num i] ∧ i ≤ s.length ∧ ∀ j < i, ∀ x, s[j]? = some x → inSpn p x = false) (by omega) (by simp only [maskFr,belowV,belowL,reduceLT,mkb]) (by simp only [List.all_cons,List.all_nil,belowV,belowB,Bool.and_self,List.take_succ_cons,List.take_nil]) (by rfl) (⟨0, rfl, Nat.zero_le _, fun j hj => absurd hj (Nat.not_lt_zero j)⟩) fun vs hI => ?_
 obtain ⟨i, rfl, hi, hall⟩ := hI
 simp only [maskFr,putAll,List.set_cons_zero,List.set_cons_succ,mkb]
 refine ex_region_w tt_ok 19 (rp 9 0 [2]) [] rfl rfl fun K hK => ?_
 simp only [ltb,go_sem,reduceLT]
 refine hK _ _ rfl ?_
 simp only [mwb,reduceAdd]
 refine ex_seq ?_
 refine ex_if rfl (fun hc9 => ?_) (fun hc9 => ?_)
 ·have hlt : i < s.length := by simpa using hc9
  have hw := i64_succ i (by omega)
  obtain ⟨x, hx⟩ : ∃ x, s[i]? = some x := ⟨_, List.getElem?_eq_getElem hlt⟩
  refine ex_skip ?_
  show Go.Eng.Ex _ _ _ _ _ _
  refine ex_seq ?_
  refine ex_block ?_
  refine ex_region_w tt_ok 19 [0,0,0,0,0,2,0,0,0,0,1] [] rfl rfl fun K hK => ?_
  simp only [ltb,go_sem,reduceLT]
  refine hK _ _ rfl ?_
  simp only [mwb,reduceAdd,reduceEqDiff]
  refine ex_region_w tt_ok 19 (rp 11 0 [1,1,1,1,1,2]) [] rfl rfl fun K hK => ?_
  try simp only [ltb]
  simp only [List.getElem?_map,hx,encSpn,go_sem,reduceAdd,reduceLT,reduceEqDiff,reduceCtorEq]
  refine callS_ex (by have h := hasC_ok p x; simp only [encSpn] at h; exact h) ?_
  rintro _ rfl
  try simp only [go_sem]
  refine hK _ _ rfl ?_
  simp only [mwb,reduceAdd,reduceEqDiff]
  refine ex_if rfl (fun hc16 => ?_) (fun hc16 => ?_)
  ·have hres : decide (0 ≤ (i : Int)) = s.any (inSpn p) := by rw [any_of hx hc16]; exact decide_eq_true (Int.natCast_nonneg i)
   refine ex_region_w tt_ok 19 (0::0::0::0::2::(rp 12 0 [1])) [] rfl rfl fun K hK => ?_
   simp only [ltb,go_sem,reduceLT]
   refine hK _ _ rfl ?_
   simp only [mwb,reduceAdd,reduceEqDiff]
   exact ex_ret ⟨.inl rfl, _, ⟨_, rfl, hres⟩, rfl, rfl, rfl⟩
  ·refine ex_skip ?_
   show Go.Eng.Ex _ _ _ _ _ _
   refine ex_last_region_w tt_ok 19 (rp 8 0 (2::(rp 9 0 [2]))) [] (by kernel_rfl) rfl rfl fun K hK => ?_
   try simp only [ltb]
   simp only [hw,go_sem,reduceLT]
   refine hK _ _ rfl ?_
   simp only [mwb,reduceAdd,reduceEqDiff]
   refine ⟨[_], ?_, ?_, 1, [true,true,false,false,true,false,false,true,true], by omega, by simp only [maskFr,belowV,belowL,reduceLT,mkb], by simp only [List.all_cons,List.all_nil,belowV,belowB,Bool.and_self,List.take_succ_cons,List.take_nil], by simp only [maskFr,putAll,List.set_cons_zero,List.set_cons_succ,mkb]; rfl⟩
   ·refine ⟨i + 1, rfl, hlt, fun j hj => ?_⟩
    rcases Nat.lt_or_ge j i with h | h
    ·exact hall j h
    ·obtain rfl : j = i := by omega
     intro y hy
     rw [hx] at hy; cases hy; exact hc16
   ·simp only [Go.Eng.intOf,List.headD_cons]; omega
 ·have hge : ¬ i < s.length := by simpa using hc9
  have hres : decide (0 ≤ (-1 : Int)) = s.any (inSpn p) := (any_none fun j hj => hall j (by omega)).symm ▸ rfl
  refine ex_exit ?_
  show Go.Eng.Ex _ _ _ _ _ _
  refine ex_region_w tt_ok 19 [0,0,0,0,2] [] rfl rfl fun K hK => ?_
  simp only [ltb,go_sem]
  refine hK _ _ rfl ?_
  simp only [mwb,reduceAdd]
  exact ex_ret ⟨.inl rfl, _, ⟨_, rfl, hres⟩, rfl, rfl, rfl⟩
theorem anySpn_ok (p : Int) (s : List Spn) (hl : s.length ≤ 1048576) : ∃ r_, (fun w => w = bl (s.any (inSpn p))) r_ ∧ FnOkS Tryz.prog 80 [encSet s, .clo (.func 81) [] [.ptr 0 0]] ([.box [num p]]) r_ ([.box [num p]]) := by
 refine fns_ex tt_ok (fn := Tryz.f80) Tryz.func80 rfl Tryz.call80 (rfl) ?_
 simp only [ltb,startSt,Tryz.ntmps80,List.length_cons,List.length_nil,reduceAdd,reduceSub,List.replicate_succ,List.replicate_zero]
 simp only [encSet]
 refine ex_region_w tt_ok 9 [0,0,0,0,2] [] rfl rfl fun K hK => ?_
 simp only [ltb,go_sem]
 refine hK _ _ rfl ?_
 simp only [mwb,reduceAdd]
 refine ex_region_w tt_ok 9 [0,0,0,0,2,1,1,1,1] [] rfl rfl fun K hK => ?_
 refine runX_cut 3 fun K1 hK1 => ?_
 simp only [ltb,go_sem,reduceLT,reduceEqDiff]
 refine callS_ex (by have h := idxSpn_ok p s hl; simp only [encSet] at h; exact h) ?_
 rintro _ ⟨k, rfl, hk⟩
 try simp only [go_sem]
 refine hK1 _ ?_
 simp only [ltb,go_sem,reduceLT,reduceEqDiff]
 refine hK _ _ rfl ?_
 simp only [mwb,reduceAdd,reduceEqDiff]
 exact ex_ret ⟨.inl rfl, _, congrArg bl hk, rfl, rfl, rfl⟩
theorem has_ok (s : List Spn) (p : Int) (hl : s.length ≤ 1048576) : ∃ r_, (fun w => w = bl (has s p)) r_ ∧ FnOk Tryz.prog 28 [encSet s, num p] r_ := by
 refine fn_ex tt_ok (fn := Tryz.f28) Tryz.func28 rfl Tryz.call28 ?_
 simp only [ltb,startSt,Tryz.ntmps28,List.length_cons,List.length_nil,reduceAdd,reduceSub,List.replicate_succ,List.replicate_zero]
 simp only [encSet]
 refine ex_region_w tt_ok 16 [0,0,0,2,2] [] rfl rfl fun K hK => ?_
 simp only [ltb,go_sem,reduceLT]
 refine hK _ _ rfl ?_
 simp only [mwb,reduceAdd,reduceEqDiff]
 refine ex_region_w tt_ok 16 [0,0,0,0,2,1,1,1,1,1,1,1,1,1,1,1] [(2, 7), (6, 11)] rfl rfl fun K hK => ?_
 refine runX_cut 3 fun K1 hK1 => ?_
 simp only [ltb,go_sem,reduceLT,reduceEqDiff]
 refine hK1 _ ?_
 refine runX_case 7 (by rfl) fun b hb1_2 => ?_
 cases b
 ·refine runX_cut 8 fun K1 hK1 => ?_
  simp only [ltb,go_sem,reduceLT,reduceEqDiff]
  refine hK1 _ ?_
  simp only [ltb,go_sem,reduceLT,reduceEqDiff]
  refine hK _ _ rfl ?_
  simp only [mwb,reduceAdd,reduceEqDiff]
  refine ex_ret ?_
  refine ⟨.inl rfl, _, congrArg bl ?_, rfl⟩
  rw [has_eq]; simp_all <;> (intros; omega)
 ·refine runX_cut 4 fun K1 hK1 => ?_
  simp only [ltb,go_sem,reduceLT,reduceEqDiff]
  refine hK1 _ ?_
  refine runX_case 11 (by rfl) fun b hb1_6 => ?_
  cases b
  ·simp only [ltb,go_sem,reduceLT,reduceEqDiff]
   refine hK _ _ rfl ?_
   simp only [mwb,reduceAdd,reduceEqDiff]
   refine ex_ret ?_
   refine ⟨.inl rfl, _, congrArg bl ?_, rfl⟩
   rw [has_eq]; simp_all <;> (intros; omega)
  ·refine runX_cut 3 fun K1 hK1 => ?_
   simp only [ltb,go_sem,reduceLT,reduceEqDiff,reduceCtorEq]
   refine callS_ex (by have h := anySpn_ok p s hl; simp only [encSet] at h; exact h) ?_
   rintro _ rfl
   try simp only [go_sem]
   refine hK1 _ ?_
   simp only [ltb,go_sem,reduceLT,reduceEqDiff]
   refine hK _ _ rfl ?_
   simp only [mwb,reduceAdd,reduceEqDiff]
   refine ex_ret ?_
   refine ⟨.inl rfl, _, congrArg bl ?_, rfl⟩
   rw [has_eq]; simp_all <;> (intros; omega)
theorem same_ok (s t : List Spn) (hl : s.length ≤ 1048576) : ∃ r_, (fun w => w = bl (decide (s = t))) r_ ∧ FnOk Tryz.prog 42 [encSet s, encSet t] r_ := by
 refine fn_ex tt_ok (fn := Tryz.f42) Tryz.func42 rfl Tryz.call42 ?_
 simp only [ltb,startSt,Tryz.ntmps42,List.length_cons,List.length_nil,reduceAdd,reduceSub,List.replicate_succ,List.replicate_zero]
 simp only [encSet]
 refine ex_region_w tt_ok 26 [0,0,0,0,2] [] rfl rfl fun K hK => ?_
 simp only [ltb,go_sem]
 refine hK _ _ rfl ?_
 simp only [mwb,reduceAdd]
 refine ex_seq ?_
 refine ex_region_w tt_ok 26 [0,0,0,0,0,0,1,1,1,1,2] [] rfl rfl fun K hK => ?_
 try simp only [ltb]
 simp only [List.length_map,go_sem,reduceLT,reduceEqDiff]
 refine hK _ _ rfl ?_
 simp only [mwb,reduceAdd,reduceEqDiff]
 refine ex_if rfl (fun hc10 => ?_) (fun hc10 => ?_)
 ·have hres : false = decide (s = t) := by
   refine (decide_eq_false fun e => ?_).symm
   subst e; simp at hc10
  refine ex_region_w tt_ok 26 [0,0,0,0,2] [] rfl rfl fun K hK => ?_
  simp only [ltb,go_sem]
  refine hK _ _ rfl ?_
  simp only [mwb,reduceAdd]
  exact ex_ret ⟨.inl rfl, _, congrArg bl hres, rfl⟩
 ·have hst : s.length = t.length := by have := hc10; simp at this; omega
  refine ex_skip ?_
  show Go.Eng.Ex _ _ _ _ _ _
  refine ex_seq ?_
  refine ex_region_w tt_ok 26 [0,0,0,0,0,2] [] rfl rfl fun K hK => ?_
  simp only [ltb,go_sem]
  refine hK _ _ rfl ?_
  simp only [mwb,reduceAdd]
  refine ex_block ?_
  refine ex_loopK [5] [num 0] 0 [true,true,false,false,true,true,false,false,false,false,true] (fun vs => ((s.length : Int) - Go.Eng.intOf (vs.headD .undef)).toNat) (fun vs => ∃ i : Nat, vs = [num i] ∧ i ≤ s.length ∧ ∀ j < i, s[j]? = t[j]?) (by omega) (by simp only [maskFr,belowV,mkb]) (by simp only [List.all_nil,List.take_nil]) (by rfl) (⟨0, rfl, Nat.zero_le _, fun j hj => absurd hj (Nat.not_lt_zero j)⟩) fun vs hI => ?_
  obtain ⟨i, rfl, hi, hall⟩ := hI
  simp only [maskFr,putAll,List.set_cons_zero,List.set_cons_succ,mkb]
  refine ex_seq ?_
  refine ex_region_w tt_ok 26 (rp 11 0 [1,1,1,2]) [] rfl rfl fun K hK => ?_
  try simp only [ltb]
  simp only [List.length_map,go_sem,reduceLT,reduceEqDiff,reduceCtorEq]
  refine hK _ _ rfl ?_
  simp only [mwb,reduceAdd,reduceEqDiff]
  refine ex_if rfl (fun hc14 => ?_) (fun hc14 => ?_)
  ·have hlt : i < s.length := by simpa using hc14
   have hw := i64_succ i (by omega)
   obtain ⟨x, hx⟩ : ∃ x, s[i]? = some x := ⟨_, List.getElem?_eq_getElem hlt⟩
   obtain ⟨y, hy⟩ : ∃ y, t[i]? = some y := ⟨_, List.getElem?_eq_getElem (by omega)⟩
   refine ex_skip ?_
   show Go.Eng.Ex _ _ _ _ _ _
   refine ex_seq ?_
   refine ex_block ?_
   refine ex_mixed_w tt_ok mixed_ok 26 [0,0,0,0,0,0,0,0,0,0,0,0,0,0,0,0,0,1,1,1,1,1,1,1,1,2] (by kernel_rfl) [⟨.n, 0, [], [], []⟩, ⟨.n, 0, [], [], []⟩, ⟨.r, 0, [], [], []⟩, ⟨.r, 0, [], [], []⟩, ⟨.n, 0, [], [], []⟩, ⟨.n, 0, [], [], []⟩, ⟨.r, 0, [], [], []⟩, ⟨.r, 0, [], [], []⟩, ⟨.n, 0, [], [], []⟩] 0 (by kernel_rfl) fun K hK => ?_
   try simp only [List.nil_append,List.replicate_zero]
   refine runM_cut 6 (by simp) (by simp) fun K1 hK1 => ?_
   try simp only [ltb]
   simp only [List.getElem?_map,hx,encSpn,go_sem,reduceAdd,reduceLT,reduceEqDiff]
   refine hK1 _ ?_
   try simp only [ltb]
   simp only [List.getElem?_map,hy,encSpn,ev_neq78,go_sem,reduceAdd,reduceLT,reduceEqDiff]
   refine hK _ _ rfl ?_
   simp only [mwb,reduceAdd,reduceEqDiff]
   refine ex_if rfl (fun hc25 => ?_) (fun hc25 => ?_)
   ·have hres : false = decide (s = t) := by
     refine (decide_eq_false fun e => ?_).symm
     subst e; rw [hx] at hy; cases hy; simp at hc25
    refine ex_region_w tt_ok 26 [0,0,0,0,2] [] rfl rfl fun K hK => ?_
    simp only [ltb,go_sem]
    refine hK _ _ rfl ?_
    simp only [mwb,reduceAdd]
    exact ex_ret ⟨.inl rfl, _, congrArg bl hres, rfl⟩
   ·refine ex_skip ?_
    show Go.Eng.Ex _ _ _ _ _ _
    refine ex_last_region_w tt_ok 26 [0,0,0,0,0,2,0,0,0,0,0,0,0,0,0,2,2] [] (by kernel_rfl) rfl rfl fun K hK => ?_
    try simp only [ltb]
    simp only [hw,go_sem,reduceLT,reduceEqDiff]
    refine hK _ _ rfl ?_
    simp only [mwb,reduceAdd,reduceEqDiff]
    refine ⟨[_], ?_, ?_, 0, [true,true,false,false,true,true,false,false,false,false,true], by omega, by simp only [maskFr,belowV,mkb], by simp only [List.all_nil,List.take_nil], by simp only [maskFr,putAll,List.set_cons_zero,List.set_cons_succ,mkb]; rfl⟩
    ·refine ⟨i + 1, rfl, hlt, fun j hj => ?_⟩
     rcases Nat.lt_or_ge j i with h | h
     ·exact hall j h
     ·obtain rfl : j = i := by omega
      rw [hx, hy]
      have := hc25
      simp_all
    ·simp only [Go.Eng.intOf,List.headD_cons]; omega
  ·have hge : ¬ i < s.length := by simpa using hc14
   have hres : true = decide (s = t) := (decide_eq_true (list_eq_of hst fun j hj => hall j (by omega))).symm
   refine ex_exit ?_
   show Go.Eng.Ex _ _ _ _ _ _
   refine ex_region_w tt_ok 26 [0,0,0,0,2] [] rfl rfl fun K hK => ?_
   simp only [ltb,go_sem]
   refine hK _ _ rfl ?_
   simp only [mwb,reduceAdd]
   exact ex_ret ⟨.inl rfl, _, congrArg bl hres, rfl⟩
theorem setEq_ok (s t : List Spn) (hl : s.length ≤ 1048576) : ∃ r_, (fun w => w = bl (decide (s = t))) r_ ∧ FnOk Tryz.prog 157 [encSet s, encSet t] r_ := by
 refine fn_ex tt_ok (fn := Tryz.f157) Tryz.func157 rfl Tryz.call157 ?_
 simp only [ltb,startSt,Tryz.ntmps157,List.length_cons,List.length_nil,reduceAdd,reduceSub,List.replicate_succ,List.replicate_zero]
 simp only [encSet]
 refine ex_region_w tt_ok 26 [0,0,0,0,2] [] rfl rfl fun K hK => ?_
 simp only [ltb,go_sem]
 refine hK _ _ rfl ?_
 simp only [mwb,reduceAdd]
 refine ex_seq ?_
 refine ex_region_w tt_ok 26 [0,0,0,0,0,0,1,1,1,1,2] [] rfl rfl fun K hK => ?_
 try simp only [ltb]
 simp only [List.length_map,go_sem,reduceLT,reduceEqDiff]
 refine hK _ _ rfl ?_
 simp only [mwb,reduceAdd,reduceEqDiff]
 refine ex_if rfl (fun hc10 => ?_) (fun hc10 => ?_)
 ·have hres : false = decide (s = t) := by
   refine (decide_eq_false fun e => ?_).symm
   subst e; simp at hc10
  refine ex_region_w tt_ok 26 [0,0,0,0,2] [] rfl rfl fun K hK => ?_
  simp only [ltb,go_sem]
  refine hK _ _ rfl ?_
  simp only [mwb,reduceAdd]
  exact ex_ret ⟨.inl rfl, _, congrArg bl hres, rfl⟩
 ·have hst : s.length = t.length := by have := hc10; simp at this; omega
  refine ex_skip ?_
  show Go.Eng.Ex _ _ _ _ _ _
  refine ex_seq ?_
  refine ex_region_w tt_ok 26 (rp 11 0 [1,2,2]) [] rfl rfl fun K hK => ?_
  try simp only [ltb]
  simp only [List.length_map,go_sem,reduceLT]
  refine hK _ _ rfl ?_
  simp only [mwb,reduceAdd,reduceEqDiff]
  refine ex_block ?_
  refine ex_loopK [13] [num 0] 0 [true,true,false,false,true,false,false,false,false,false,true,false,true,true] (fun vs => ((s.length : Int) - Go.Eng.intOf (vs.headD .undef)).toNat) (fun vs => ∃ i : Nat, vs = [num i] ∧ i ≤ s.length ∧ ∀ j < i, s[j]? = t[j]?) (by omega) (by simp only [maskFr,belowV,mkb]) (by simp only [List.all_nil,List.take_nil]) (by rfl) (⟨0, rfl, Nat.zero_le _, fun j hj => absurd hj (Nat.not_lt_zero j)⟩) fun vs hI => ?_
  obtain ⟨i, rfl, hi, hall⟩ := hI
  simp only [maskFr,putAll,List.set_cons_zero,List.set_cons_succ,mkb]
  refine ex_region_w tt_ok 26 (rp 14 0 [2]) [] rfl rfl fun K hK => ?_
  simp only [ltb,go_sem,reduceLT]
  refine hK _ _ rfl ?_
  simp only [mwb,reduceAdd]
  refine ex_seq ?_
  refine ex_if rfl (fun hc14 => ?_) (fun hc14 => ?_)
  ·have hlt : i < s.length := by simpa using hc14
   have hw := i64_succ i (by omega)
   obtain ⟨x, hx⟩ : ∃ x, s[i]? = some x := ⟨_, List.getElem?_eq_getElem hlt⟩
   obtain ⟨y, hy⟩ : ∃ y, t[i]? = some y := ⟨_, List.getElem?_eq_getElem (by omega)⟩
   refine ex_skip ?_
   show Go.Eng.Ex _ _ _ _ _ _
   refine ex_seq ?_
   refine ex_block ?_
   refine ex_region_w tt_ok 26 [0,0,0,0,0,2,0,0,0,0,0,0,0,0,0,1] [] rfl rfl fun K hK => ?_
   simp only [ltb,go_sem,reduceLT]
   refine hK _ _ rfl ?_
   simp only [mwb,reduceAdd,reduceEqDiff]
   refine ex_mixed_w tt_ok mixed_ok 26 [0,0,0,0,0,0,0,0,0,0,0,0,0,0,0,0,1,1,1,1,1,1,1,1,2] (by kernel_rfl) [⟨.n, 0, [], [], []⟩, ⟨.n, 0, [], [], []⟩, ⟨.r, 0, [], [], []⟩, ⟨.r, 0, [], [], []⟩, ⟨.n, 0, [], [], []⟩, ⟨.n, 0, [], [], []⟩, ⟨.r, 0, [], [], []⟩, ⟨.r, 0, [], [], []⟩, ⟨.n, 0, [], [], []⟩] 0 (by kernel_rfl) fun K hK => ?_
   try simp only [List.nil_append,List.replicate_zero]
   refine runM_cut 6 (by simp) (by simp) fun K1 hK1 => ?_
   try simp only [ltb]
   simp only [List.getElem?_map,hx,encSpn,go_sem,reduceAdd,reduceLT,reduceEqDiff]
   refine hK1 _ ?_
   try simp only [ltb]
   simp only [List.getElem?_map,hy,encSpn,ev_neq78,go_sem,reduceAdd,reduceLT,reduceEqDiff]
   refine hK _ _ rfl ?_
   simp only [mwb,reduceAdd,reduceEqDiff]
   refine ex_if rfl (fun hc24 => ?_) (fun hc24 => ?_)
   ·have hres : false = decide (s = t) := by
     refine (decide_eq_false fun e => ?_).symm
     subst e; rw [hx] at hy; cases hy; simp at hc24
    refine ex_region_w tt_ok 26 [0,0,0,0,2] [] rfl rfl fun K hK => ?_
    simp only [ltb,go_sem]
    refine hK _ _ rfl ?_
    simp only [mwb,reduceAdd]
    exact ex_ret ⟨.inl rfl, _, congrArg bl hres, rfl⟩
   ·refine ex_skip ?_
    show Go.Eng.Ex _ _ _ _ _ _
    refine ex_last_region_w tt_ok 26 (rp 13 0 (2::(rp 11 0 [2]))) [] (by kernel_rfl) rfl rfl fun K hK => ?_
    try simp only [ltb]
    simp only [hw,go_sem,reduceLT]
    refine hK _ _ rfl ?_
    simp only [mwb,reduceAdd,reduceEqDiff]
    refine ⟨[_], ?_, ?_, 0, [true,true,false,false,true,false,false,false,false,false,true,false,true,true], by omega, by simp only [maskFr,belowV,mkb], by simp only [List.all_nil,List.take_nil], by simp only [maskFr,putAll,List.set_cons_zero,List.set_cons_succ,mkb]; rfl⟩
    ·refine ⟨i + 1, rfl, hlt, fun j hj => ?_⟩
     rcases Nat.lt_or_ge j i with h | h
     ·exact hall j h
     ·obtain rfl : j = i := by omega
      rw [hx, hy]
      have := hc24
      simp_all
    ·simp only [Go.Eng.intOf,List.headD_cons]; omega
  ·have hge : ¬ i < s.length := by simpa using hc14
   have hres : true = decide (s = t) := (decide_eq_true (list_eq_of hst fun j hj => hall j (by omega))).symm
   refine ex_exit ?_
   show Go.Eng.Ex _ _ _ _ _ _
   refine ex_region_w tt_ok 26 [0,0,0,0,2] [] rfl rfl fun K hK => ?_
   simp only [ltb,go_sem]
   refine hK _ _ rfl ?_
   simp only [mwb,reduceAdd]
   exact ex_ret ⟨.inl rfl, _, congrArg bl hres, rfl⟩
end Go.Proofs.YtnfeacnbgbggfaaGreatDoor
end
