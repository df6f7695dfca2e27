/-
  READINGS: what the reading of an argument (DataW.trod) says of its cells, for types made of truth values, integers, strings, slices, structures.
  READINGS, B: the abstract values that a reading gives.
  PLAIN LAWS of chapter 32: sets of places, releases, what roots reach, canonical bytes. No program in sight.
  ENCODINGS of chapter 32's data.
  CONTRACTS: bytes of names, exactly.
  CONTRACTS: versions, places.
  CONTRACTS: comparing.
  EQUALITY of structs of chapter 32: spans, numbers, what is selected.
  CONTRACTS: releases: keys, places; sets of places.
-/
import Derived.Test.YtnfeacnbgbggfaaGreatDoorO1
import Derived.Test.YtnfeacnbgbggfaaGreatDoorRows
import Derived.Sort.Walk0
set_option linter.all false
section
namespace Go.Proofs.YtnfeacnbgbggfaaGreatDoor
open Go.Eng
variable [aE]
section
variable {H : Type} {enc : TypeId × Value → H} {P : Program} {w : World} {sp : Nat → Bool} {held : Bool} {f : Nat} {T : TypeId} {cs : List Value} {d : DataW H} {p : List MemPlace}
theorem trod_bool (hT : P.underlying T = some .bool) (h : DataW.trod enc P w 0 sp held (f + 1) T cs = some (d, p)) : ∃ b, cs = [.bool b] ∧ d = .lit (.bool b) := by
 unfold DataW.trod at h
 rw [hT] at h
 split at h <;> simp_all
theorem trod_int {k : IntKind} (hT : P.underlying T = some (.int k)) (h : DataW.trod enc P w 0 sp held (f + 1) T cs = some (d, p)) : ∃ n, cs = [.int k n] ∧ d = .lit (.int k n) := by
 unfold DataW.trod at h
 rw [hT] at h
 split at h <;> simp_all
theorem trod_string (hT : P.underlying T = some .string) (h : DataW.trod enc P w 0 sp held (f + 1) T cs = some (d, p)) : ∃ s, cs = [.string s] ∧ d = .lit (.string s.data.toList) := by
 unfold DataW.trod at h
 rw [hT] at h
 split at h <;> simp_all
theorem oU {α β : Type} {g : α → Option β} : ∀ {l : List α} {r : List β}, l.mapM g = some r → r.length = l.length ∧ ∀ (i : Nat) (b : β), r[i]? = some b → ∃ a : α, l[i]? = some a ∧ g a = some b
 | [], r, h => by simp at h; subst h; simp
 | a :: l, r, h => by
  rw [List.mapM_cons] at h
  cases h1 : g a with
  | none => rw [h1] at h; simp at h
  | some b =>
   rw [h1] at h
   cases h2 : l.mapM g with
   | none => rw [h2] at h; simp at h
   | some r' =>
    rw [h2] at h
    simp at h
    subst h
    obtain ⟨e1, e2⟩ := oU h2
    refine ⟨by simp [e1], fun i b' hb => ?_⟩
    cases i with
    | zero => simp at hb; subst hb; exact ⟨a, rfl, h1⟩
    | succ i => simpa using e2 i b' (by simpa using hb)
theorem trod_slice {T' : TypeId} (hT : P.underlying T = some (.slice T')) (h : DataW.trod enc P w 0 sp held (f + 1) T cs = some (d, p)) :
  (cs = [.slice none 0 0] ∧ d = .nil) ∨ ∃ (a : Addr) (cap : Nat) (elems spare : List (DataW H)), cs = [.slice (some a) elems.length cap] ∧ d = .slice elems spare ∧ elems.length ≤ cap ∧
   ∀ (i : Nat) (e : DataW H), elems[i]? = some e → ∃ mZ p', w.cells? 0 (a.add (i * P.cellsOf T')) (P.cellsOf T') = some mZ ∧ DataW.trod enc P w 0 sp held f T' mZ = some (e, p') := by
 unfold DataW.trod at h
 rw [hT] at h
 split at h <;> try (simp at *; done)
 ·rename_i e' h1 h2
  simp at h
  exact .inl ⟨rfl, h.1.symm⟩
 ·rename_i e' a len cap h1
  obtain rfl : T' = e' := by simpa using h1
  refine .inr ?_
  dsimp only at h
  split at h
  ·rename_i hb
   cases h3 : (List.range len).mapM (fun i => (w.cells? 0 (a.add (i * P.cellsOf T')) (P.cellsOf T')).bind (DataW.trod enc P w 0 sp held f T')) with
   | none => rw [h3] at h; simp at h
   | some elems =>
    rw [h3] at h
    obtain ⟨e1, e2⟩ := oU h3
    simp only [Option.bind_some,Option.map_eq_some_iff] at h
    obtain ⟨rest, -, h5⟩ := h
    simp only [Prod.mk.injEq] at h5
    have hl : elems.length = len := by simpa using e1
    refine ⟨a, cap, elems.map (·.1), rest.map (·.1), by rw [List.length_map, hl], h5.1.symm, by rw [List.length_map, hl]; exact hb.2.1, fun i e he => ?_⟩
    rw [List.getElem?_map, Option.map_eq_some_iff] at he
    obtain ⟨x, hx, rfl⟩ := he
    obtain ⟨j, hj, hg⟩ := e2 i x hx
    have sv : j = i := by
     obtain ⟨aF, hv⟩ := List.getElem?_eq_some_iff.1 hj
     simpa using hv.symm
    subst sv
    rw [Option.bind_eq_some_iff] at hg
    obtain ⟨mZ, hc, ht⟩ := hg
    exact ⟨mZ, x.2, hc, ht⟩
  ·simp at h
theorem trod_struct {fs : Array Field} (hT : P.underlying T = some (.struct fs)) (h : DataW.trod enc P w 0 sp held (f + 1) T cs = some (d, p)) :
  cs.length = P.cellsOf T ∧ ∃ parts : List (DataW H), d = .agg parts ∧ parts.length = fs.size ∧
   ∀ (i : Nat) (e : DataW H), parts[i]? = some e → ∃ (fd : Field) (p' : List MemPlace), fs[i]? = some fd ∧ DataW.trod enc P w 0 sp held f fd.type ((cs.drop fd.offset).take (P.cellsOf fd.type)) = some (e, p') := by
 unfold DataW.trod at h
 rw [hT] at h
 split at h <;> try (simp at *; done)
 ·rename_i Xt h1
  obtain rfl : fs = Xt := by simpa using h1
  split at h
  ·rename_i hl
   refine ⟨hl, ?_⟩
   rw [Option.map_eq_some_iff] at h
   obtain ⟨xs, h3, h4⟩ := h
   simp only [Prod.mk.injEq] at h4
   obtain ⟨e1, e2⟩ := oU h3
   refine ⟨xs.map (·.1), h4.1.symm, by rw [List.length_map, e1]; simp, fun i e he => ?_⟩
   rw [List.getElem?_map, Option.map_eq_some_iff] at he
   obtain ⟨x, hx, rfl⟩ := he
   obtain ⟨fd, hj, hg⟩ := e2 i x hx
   exact ⟨fd, x.2, by simpa using hj, hg⟩
  ·simp at h
end
end Go.Proofs.YtnfeacnbgbggfaaGreatDoor
end

section
namespace Go.Proofs.YtnfeacnbgbggfaaGreatDoor
open Go.Eng
variable [aE]
def Rd (F : Addr → Option Value) (hg : Gl F) (vs : List V) (cs : List Value) : Prop := aO ⟨F, fun _ _ => none, hg⟩ vs cs ∧ ∀ c ∈ cs, c.oneCell' = true
section
variable {F : Addr → Option Value} {hg : Gl F}
theorem BG {v : Value} (h : v.oneCell' = true) : Rd F hg [.sc v] [v] := ⟨.cons (.sc _ _) (.nil _), by simpa using h⟩
theorem gD {a b : List V} {cs : List Value} {off n : Nat} (h1 : Rd F hg a ((cs.drop off).take n)) (h2 : Rd F hg b (cs.drop (off + n))) : Rd F hg (a ++ b) (cs.drop off) := by
 have e : cs.drop off = (cs.drop off).take n ++ cs.drop (off + n) := by rw [← List.drop_drop, List.take_append_drop]
 rw [e]
 refine ⟨.append h1.1 h2.1, fun c hc => ?_⟩
 rcases List.mem_append.1 hc with hc | hc
 ·exact h1.2 c hc
 ·exact h2.2 c hc
theorem xh (a : Addr) (x y : Nat) : (a.add x).add y = a.add (x + y) := by
 unfold Addr.add
 by_cases hx : x = 0
 ·subst hx; simp
 ·by_cases hy : y = 0
  ·subst hy; simp
  ·simp [hx, hy, Nat.add_assoc]
theorem zi {α β : Type} {R : Nat → β → α → Prop} : ∀ {es : List β}, (∀ (i : Nat) (e : β), es[i]? = some e → ∃ a : α, R i e a) → ∃ l : List α, l.length = es.length ∧ ∀ (i : Nat) (e : β) (a : α), es[i]? = some e → l[i]? = some a → R i e a := by
 intro es
 induction es generalizing R with
 | nil => intro _; exact ⟨[], rfl, by simp⟩
 | cons e r ih =>
  intro h
  obtain ⟨a, ha⟩ := h 0 e rfl
  obtain ⟨l, hl, hr⟩ := ih (R := fun i => R (i + 1)) fun i e he => h (i + 1) e (by simpa using he)
  refine ⟨a :: l, by simp [hl], fun i e' a' he RX => ?_⟩
  cases i with
  | zero => simp at he RX; subst he; subst RX; exact ha
  | succ i => exact hr i e' a' (by simpa using he) (by simpa using RX)
theorem qX {H α : Type} {g : α → Nat} : ∀ {l : List α} {es : List (DataW H)}, l.length = es.length → (∀ (i : Nat) (e : DataW H) (a : α), es[i]? = some e → l[i]? = some a → g a ≤ Rows.uptoBulk e) → dR g l ≤ Rows.uptoBulkAll es
 | [], [], _, _ => by simp [dR]
 | a :: l, e :: es, hl, h => by
  have h1 := h 0 e a rfl rfl
  have h2 := qX (l := l) (es := es) (g := g) (by simpa using hl) fun i e a he ha => h (i + 1) e a (by simpa using he) (by simpa using ha)
  simp only [dR,Rows.uptoBulkAll]; omega
 | [], _ :: _, hl, _ => by simp at hl
 | _ :: _, [], hl, _ => by simp at hl
theorem HG {H : Type} {enc : TypeId × Value → H} {P : Program} {w : World} {sp : Nat → Bool} {held : Bool} {f : Nat} {T T' : TypeId} {α : Type} {row : α → V} {g : α → Nat} {n : Nat}
  (hF : F = w.cell?) (hT : P.underlying T = some (.slice T')) (hn : P.cellsOf T' = n)
  (hr : ∀ {cs : List Value} {d : DataW H} {p : List MemPlace}, DataW.trod enc P w 0 sp held f T' cs = some (d, p) → ∃ a : α, Rd F hg (row a).cells cs ∧ g a ≤ Rows.uptoBulk d)
  {cs : List Value} {d : DataW H} {p : List MemPlace} (h : DataW.trod enc P w 0 sp held (f + 1) T cs = some (d, p)) :
  ∃ l : List α, Rd F hg [.slice (l.map row)] cs ∧ dR g l + 1 ≤ Rows.uptoBulk d := by
 rcases trod_slice hT h with ⟨rfl, rfl⟩ | ⟨a, cap, elems, spare, rfl, rfl, hc, he⟩
 ·exact ⟨[], ⟨.cons (.slice _ [] none 0 0 default (fun _ _ => default) (by simp) (by simp) (by simp) (by simp) (by simp) (by simp)) (.nil _), by simp [Value.oneCell']⟩, by simp [dR, Rows.uptoBulk]⟩
 ·obtain ⟨l, hl, hR⟩ := zi (es := elems) (R := fun i e (x : α) => ∃ mZ : List Value, w.cells? 0 (a.add (i * P.cellsOf T')) (P.cellsOf T') = some mZ ∧ Rd F hg (row x).cells mZ ∧ g x ≤ Rows.uptoBulk e) fun i e hi => by
   obtain ⟨mZ, p', h1, h2⟩ := he i e hi
   obtain ⟨x, h3, h4⟩ := hr h2
   exact ⟨x, mZ, h1, h3, h4⟩
  rw [hn] at hR
  have key : ∀ (i : Nat) (x : α), l[i]? = some x → ∃ mZ : List Value, Rd F hg (row x).cells mZ ∧ (row x).cells.length = n ∧ ∀ (j : Nat) (c : Value), mZ[j]? = some c → F (a.add (i * n + j)) = some c := fun i x hx => by
   obtain ⟨e, Zh⟩ : ∃ e, elems[i]? = some e := ⟨_, List.getElem?_eq_getElem (by rw [← hl]; exact (List.getElem?_eq_some_iff.1 hx).1)⟩
   obtain ⟨mZ, h1, h2, -⟩ := hR i e x Zh hx
   unfold World.cells? at h1
   rw [if_pos (Nat.zero_le _)] at h1
   obtain ⟨e1, e2⟩ := oU h1
   refine ⟨mZ, h2, by rw [h2.1.1, e1]; simp, fun j c hj => ?_⟩
   obtain ⟨k, hk, Mv⟩ := e2 j c hj
   have Zi : k = j := by
    obtain ⟨aF, hv⟩ := List.getElem?_eq_some_iff.1 hk
    simpa using hv.symm
   subst Zi
   rw [xh] at Mv
   rw [hF]; exact Mv
  have cell : ∀ (i : Nat) (r : V) (j : Nat) (c : V), (l.map row)[i]? = some r → r.cells[j]? = some c → ∃ x, F (a.add (i * n + j)) = some x ∧ x.oneCell' = true ∧ aT ⟨F, fun _ _ => none, hg⟩ c x := fun i r j c hi hj => by
   rw [List.getElem?_map, Option.map_eq_some_iff] at hi
   obtain ⟨x, hx, rfl⟩ := hi
   obtain ⟨mZ, h2, -, h3⟩ := key i x hx
   obtain ⟨y, hy, ot⟩ := h2.1.get hj
   exact ⟨y, h3 j y hy, h2.2 y (List.mem_of_getElem? hy), ot⟩
  refine ⟨l, ⟨.cons ?_ (.nil _), by simp [Value.oneCell']⟩, ?_⟩
  ·have := aT.slice ⟨F, fun _ _ => none, hg⟩ (l.map row) (some a) cap n a (fun i j => (F (a.add (i * n + j))).getD default) (fun _ => rfl) (by rw [List.length_map, hl]; exact hc)
    (fun i r hi => by
     rw [List.getElem?_map, Option.map_eq_some_iff] at hi
     obtain ⟨x, hx, rfl⟩ := hi
     obtain ⟨_, -, h, -⟩ := key i x hx
     exact h)
    (fun i r j c hi hj => by obtain ⟨x, h, -, -⟩ := cell i r j c hi hj; show F _ = some ((F _).getD _); rw [h]; rfl)
    (fun i r j c hi hj => by obtain ⟨x, h, h', -⟩ := cell i r j c hi hj; show Value.oneCell' ((F _).getD _) = true; rw [h]; exact h')
    (fun i r j c hi hj => by obtain ⟨x, h, -, h'⟩ := cell i r j c hi hj; show aT _ c ((F _).getD _); rw [h]; exact h')
   rwa [List.length_map, hl] at this
  ·have := qX (g := g) hl fun i e x he hx => by obtain ⟨_, -, -, h⟩ := hR i e x he hx; exact h
   simp only [Rows.uptoBulk]; omega
end
def BH {H : Type} (enc : TypeId × Value → H) (P : Program) (w : World) (sp : Nat → Bool) (held : Bool) (f : Nat) (cs : List Value) : List Field → (List (DataW H) → Prop) → Prop
 | [], K => K []
 | fd :: r, K => ∃ (e : DataW H) (p : List MemPlace), DataW.trod enc P w 0 sp held f fd.type ((cs.drop fd.offset).take (P.cellsOf fd.type)) = some (e, p) ∧ BH enc P w sp held f cs r fun es => K (e :: es)
theorem vD {H : Type} {enc : TypeId × Value → H} {P : Program} {w : World} {sp : Nat → Bool} {held : Bool} {f : Nat} {cs : List Value} : ∀ {fs : List Field} {K : List (DataW H) → Prop} {es : List (DataW H)}, es.length = fs.length →
  (∀ (i : Nat) (e : DataW H), es[i]? = some e → ∃ (fd : Field) (p' : List MemPlace), fs[i]? = some fd ∧ DataW.trod enc P w 0 sp held f fd.type ((cs.drop fd.offset).take (P.cellsOf fd.type)) = some (e, p')) → K es → BH enc P w sp held f cs fs K
 | [], K, [], _, _, hK => hK
 | fd :: r, K, e :: es, hl, h, hK => by
  obtain ⟨Zj, p', h1, h2⟩ := h 0 e rfl
  obtain rfl : fd = Zj := by simpa using h1
  exact ⟨e, p', h2, vD (es := es) (by simpa using hl) (fun i e he => by simpa using h (i + 1) e (by simpa using he)) hK⟩
 | [], _, _ :: _, hl, _, _ => by simp at hl
 | _ :: _, _, [], hl, _, _ => by simp at hl
theorem kI {H : Type} {enc : TypeId × Value → H} {P : Program} {w : World} {sp : Nat → Bool} {held : Bool} {f : Nat} {T : TypeId} {cs : List Value} {d : DataW H} {p : List MemPlace} {fs : Array Field}
  (hT : P.underlying T = some (.struct fs)) (h : DataW.trod enc P w 0 sp held (f + 1) T cs = some (d, p)) : cs.length = P.cellsOf T ∧ BH enc P w sp held f cs fs.toList fun es => d = .agg es := by
 obtain ⟨h1, parts, h2, h3, h4⟩ := trod_struct hT h
 exact ⟨h1, vD (by simpa using h3) (fun i e he => by simpa using h4 i e he) h2⟩
end Go.Proofs.YtnfeacnbgbggfaaGreatDoor
end

section
namespace Go.Proofs.YtnfeacnbgbggfaaGreatDoor
structure br where
 lo : Int
 hi : Int
def mz (x : br) : Option br := if max x.lo 0 < min x.hi 1000000 then some ⟨max x.lo 0, min x.hi 1000000⟩ else none
def clip (s : List br) : List br := s.filterMap mz
def xi : List br → br → List br
 | [], x => [x]
 | y :: r, x => if y.lo ≤ x.lo then y :: xi r x else x :: y :: r
def dd (out : List br) (x : br) : List br := match out.getLast? with
 | some y => if x.lo ≤ y.hi then out.dropLast ++ [⟨y.lo, max y.hi x.hi⟩] else out ++ [x]
 | none => [x]
def merge (l : List br) : List br := l.foldl dd []
def canon (s : List br) : List br := merge ((clip s).foldl xi [])
def fZ (l : List br) : Prop := l.Pairwise fun a b => a.lo ≤ b.lo
theorem BI (out : List br) (x y : br) (h : x.lo = y.lo) (hx : x.lo ≤ x.hi) (hy : y.lo ≤ y.hi) : dd (dd out x) y = dd (dd out y) x := by
 unfold dd
 cases hl : out.getLast? with
 | none =>
  simp only [List.getLast?_singleton,List.dropLast_singleton,List.nil_append]
  rw [if_pos (by omega), if_pos (by omega)]
  simp only [h,Int.max_comm]
 | some z =>
  dsimp only
  by_cases hz : x.lo ≤ z.hi
  ·rw [if_pos hz, if_pos (by omega)]
   simp only [List.getLast?_append,List.getLast?_singleton,Option.some_or,List.dropLast_concat]
   rw [if_pos (by omega), if_pos (by omega)]
   simp only [Int.max_assoc,Int.max_comm x.hi]
  ·rw [if_neg hz, if_neg (by omega)]
   simp only [List.getLast?_append,List.getLast?_singleton,Option.some_or,List.dropLast_concat]
   rw [if_pos (by omega), if_pos (by omega)]
   simp only [h,Int.max_comm]
theorem qY (x : br) : ∀ (p : List br) (out : List br), (∀ y ∈ p, y.lo = x.lo ∧ y.lo ≤ y.hi) → x.lo ≤ x.hi → (p ++ [x]).foldl dd out = (x :: p).foldl dd out
 | [], out, _, _ => rfl
 | y :: r, out, h, hx => by
  have h1 := h y (by simp)
  rw [List.cons_append, List.foldl_cons, qY x r _ (fun z hz => h z (by simp [hz])) hx]
  simp only [List.foldl_cons]
  rw [BI out y x h1.1 h1.2 hx]
theorem tp : ∀ (l m : List br) (out : List br), l.Perm m → fZ l → fZ m → (∀ x ∈ l, x.lo ≤ x.hi) → l.foldl dd out = m.foldl dd out
 | [], m, out, hp, _, _, _ => by rw [hp.nil_eq]
 | x :: t, m, out, hp, hl, hm, hw => by
  have rD : x ∈ m := hp.subset (by simp)
  obtain ⟨p, q, rfl⟩ := List.append_of_mem rD
  have Zk : ∀ y ∈ p, y.lo = x.lo ∧ y.lo ≤ y.hi := fun y hy => by
   have NG : y ∈ x :: t := hp.symm.subset (by simp [hy])
   have h1 : y.lo ≤ x.lo := (List.pairwise_append.1 hm).2.2 y hy x (by simp)
   have h2 : x.lo ≤ y.lo := by
    rcases List.mem_cons.1 NG with rfl | h
    ·omega
    ·exact (List.pairwise_cons.1 hl).1 y h
   exact ⟨by omega, hw y NG⟩
  have hx := hw x (by simp)
  have e : (p ++ x :: q).foldl dd out = (x :: (p ++ q)).foldl dd out := by
   rw [show p ++ x :: q = (p ++ [x]) ++ q by simp, List.foldl_append, qY x p out Zk hx, ← List.foldl_append]; rfl
  rw [e, List.foldl_cons, List.foldl_cons]
  refine tp t (p ++ q) _ ?_ (List.pairwise_cons.1 hl).2 ?_ fun y hy => hw y (by simp [hy])
  ·exact (List.perm_cons x).1 (hp.trans (by simpa using List.perm_middle))
  ·rw [fZ, List.pairwise_append] at hm ⊢
   exact ⟨hm.1, (List.pairwise_cons.1 hm.2.1).2, fun a ha b hb => hm.2.2 a ha b (by simp [hb])⟩
theorem pY : ∀ (l : List br) (x : br), (xi l x).Perm (x :: l)
 | [], x => List.Perm.refl _
 | y :: r, x => by
  unfold xi
  split
  ·exact ((pY r x).cons y).trans (List.Perm.swap x y r)
  ·exact List.Perm.refl _
theorem zj : ∀ (l : List br) (x : br), fZ l → fZ (xi l x)
 | [], x, _ => List.pairwise_singleton _ _
 | y :: r, x, h => by
  have h1 := List.pairwise_cons.1 h
  unfold xi
  split
  ·rename_i hy
   refine List.pairwise_cons.2 ⟨fun z hz => ?_, zj r x h1.2⟩
   rcases List.mem_cons.1 ((pY r x).subset hz) with rfl | hz
   ·exact hy
   ·exact h1.1 z hz
  ·rename_i hy
   refine List.pairwise_cons.2 ⟨fun z hz => ?_, h⟩
   rcases List.mem_cons.1 hz with rfl | hz
   ·omega
   ·have := h1.1 z hz; omega
theorem nF : ∀ (m l : List br), fZ l → fZ (m.foldl xi l) ∧ (m.foldl xi l).Perm (l ++ m)
 | [], l, h => ⟨h, by simp⟩
 | x :: t, l, h => by
  obtain ⟨h1, h2⟩ := nF t (xi l x) (zj l x h)
  refine ⟨h1, h2.trans ?_⟩
  exact ((pY l x).append_right t).trans (by simp [List.perm_middle.symm])
theorem xj {s : List br} : ∀ x ∈ clip s, 0 ≤ x.lo ∧ x.lo < x.hi ∧ x.hi ≤ 1000000 := fun x hx => by
 obtain ⟨y, -, hy⟩ := List.mem_filterMap.1 hx
 unfold mz at hy
 split at hy
 ·cases hy; dsimp only; omega
 ·cases hy
theorem zl {s l : List br} (hp : l.Perm (clip s)) (ha : fZ l) : merge l = canon s := by
 obtain ⟨h1, h2⟩ := nF (clip s) [] List.Pairwise.nil
 exact tp l _ [] (hp.trans (by simpa using h2.symm)) ha h1 fun x hx => by have := xj x (hp.subset hx); omega
structure fA where
 mj : Int
 mn : Int
 pt : Int
structure Rq where
 path : ByteArray
 set : List br
structure Rl where
 path : ByteArray
 ay : fA
 reqs : List Rq
 ar : ByteArray
 ei : ByteArray
 ce : ByteArray
 yk : Bool
structure gR where
 path : ByteArray
 ay : fA
theorem fA.ext' {a b : fA} (h1 : a.mj = b.mj) (h2 : a.mn = b.mn) (h3 : a.pt = b.pt) : a = b := by cases a; cases b; simp_all
theorem br.ext' {a b : br} (h1 : a.lo = b.lo) (h2 : a.hi = b.hi) : a = b := by cases a; cases b; simp_all
instance : DecidableEq br := fun a b => if h : a.lo = b.lo ∧ a.hi = b.hi then .isTrue (br.ext' h.1 h.2) else .isFalse fun e => h (by subst e; exact ⟨rfl, rfl⟩)
theorem gR.ext' {a b : gR} (h1 : a.path = b.path) (h2 : a.ay = b.ay) : a = b := by cases a; cases b; simp_all
instance : DecidableEq fA := fun a b => if h : a.mj = b.mj ∧ a.mn = b.mn ∧ a.pt = b.pt then .isTrue (fA.ext' h.1 h.2.1 h.2.2) else .isFalse fun e => h (by subst e; exact ⟨rfl, rfl, rfl⟩)
instance : DecidableEq gR := fun a b => if h : a.path = b.path ∧ a.ay = b.ay then .isTrue (gR.ext' h.1 h.2) else .isFalse fun e => h (by subst e; exact ⟨rfl, rfl⟩)
def Rl.key (r : Rl) : gR := ⟨r.path, r.ay⟩
def fA.place (v : fA) : Int := 1000 * v.mn + v.pt
def has (s : List br) (p : Int) : Bool := decide (0 ≤ p) && decide (p < 1000000) && s.any fun x => decide (x.lo ≤ p) && decide (p < x.hi)
def jQ (q : Rq) (r : Rl) : Bool := decide (q.path = r.path) && has q.set r.ay.place
inductive qZ (l : List Rl) (roots : List Rq) : Rl → Prop
 | root (q : Rq) (r : Rl) (hq : q ∈ roots) (hr : r ∈ l) (h : jQ q r = true) : qZ l roots r
 | step (a : Rl) (q : Rq) (r : Rl) (ha : qZ l roots a) (hq : q ∈ a.reqs) (hr : r ∈ l) (h : jQ q r = true) : qZ l roots r
theorem qZ.mem {l : List Rl} {roots : List Rq} {r : Rl} (h : qZ l roots r) : r ∈ l := by cases h <;> assumption
theorem qZ.mono {l : List Rl} {roots more : List Rq} (hm : ∀ q ∈ roots, q ∈ more) {r : Rl} (h : qZ l roots r) : qZ l more r := by
 induction h with
 | root q r hq hr h => exact .root q r (hm q hq) hr h
 | step a q r _ hq hr h ih => exact .step a q r ih hq hr h
noncomputable def de (l : List Rl) (roots : List Rq) : List Rl := l.filter fun r => @decide _ (Classical.propDecidable (qZ l roots r))
theorem zm {l : List Rl} {roots : List Rq} {r : Rl} : r ∈ de l roots ↔ qZ l roots r := by
 unfold de
 rw [List.mem_filter, @decide_eq_true_iff _ (Classical.propDecidable _)]
 exact ⟨fun h => h.2, fun h => ⟨h.mem, h⟩⟩
theorem KU {l : List Rl} {roots : List Rq} (S : Rl → Prop) (h1 : ∀ r, S r → qZ l roots r) (h2 : ∀ q ∈ roots, ∀ r ∈ l, jQ q r = true → S r) (h3 : ∀ a, S a → ∀ q ∈ a.reqs, ∀ r ∈ l, jQ q r = true → S r) (r : Rl) : S r ↔ qZ l roots r := by
 refine ⟨h1 r, fun h => ?_⟩
 induction h with
 | root q r hq hr h => exact h2 q hq r hr h
 | step a q r _ hq hr h ih => exact h3 a ih q hq r hr h
inductive O3 (l : List Rl) (roots : List Rq) : ByteArray → Prop
 | root (q : Rq) (hq : q ∈ roots) : O3 l roots q.path
 | step (a : Rl) (q : Rq) (ha : a ∈ l) (hn : O3 l roots a.path) (hq : q ∈ a.reqs) : O3 l roots q.path
theorem mA {q : Rq} {r : Rl} (h : jQ q r = true) : q.path = r.path := by
 unfold jQ at h
 rw [Bool.and_eq_true] at h
 exact of_decide_eq_true h.1
theorem qZ.sub {l m : List Rl} {roots : List Rq} (XK : ∀ r ∈ l, r ∈ m) {r : Rl} (h : qZ l roots r) : qZ m roots r := by
 induction h with
 | root q r hq hr h => exact .root q r hq (XK r hr) h
 | step a q r _ hq hr h ih => exact .step a q r ih hq (XK r hr) h
def uv (n : Nat) : List UInt8 := if n < 128 then [UInt8.ofNat n] else UInt8.ofNat (n % 128 + 128) :: uv (n / 128)
termination_by n
decreasing_by omega
def bG : List UInt8 → Nat → Nat → Option (Nat × Nat)
 | [], _, _ => none
 | b :: r, i, n => if 9 < i ∨ i = 9 ∧ 1 < b.toNat then none else
   if b.toNat < 128 then (if i = 0 ∨ 0 < b.toNat then some (n + b.toNat * 2 ^ (7 * i), i + 1) else none)
   else bG r (i + 1) (n + (b.toNat - 128) * 2 ^ (7 * i))
theorem jR {n : Nat} (h : n < 128) : uv n = [UInt8.ofNat n] := by rw [uv, if_pos h]
theorem tq {n : Nat} (h : ¬ n < 128) : uv n = UInt8.ofNat (n % 128 + 128) :: uv (n / 128) := by rw [uv, if_neg h]
theorem gJ {n : Nat} (h : n < 256) : (UInt8.ofNat n).toNat = n := by simp; omega
theorem KV : ∀ (i n m : Nat) (rest : List UInt8), i ≤ 9 → n < 2 ^ (64 - 7 * i) → (i = 0 ∨ 0 < n) → bG (uv n ++ rest) i m = some (m + n * 2 ^ (7 * i), i + (uv n).length) := by
 intro i n
 induction n using Nat.strongRecOn generalizing i with
 | _ n ih =>
  intro m rest hi hn h0
  have hb : i = 9 → n < 2 := fun h => by subst h; simpa using hn
  by_cases h : n < 128
  ·rw [jR h]
   show bG (UInt8.ofNat n :: rest) i m = _
   rw [bG, gJ (by omega), if_neg (by omega), if_pos h, if_pos h0]
   rfl
  ·rw [tq h]
   have F7 : i ≠ 9 := fun e => by have := hb e; omega
   show bG (UInt8.ofNat (n % 128 + 128) :: (uv (n / 128) ++ rest)) i m = _
   rw [bG, gJ (by omega), if_neg (by omega), if_neg (by omega)]
   have hp : 2 ^ (64 - 7 * i) = 128 * 2 ^ (64 - 7 * (i + 1)) := by
    rw [show (128 : Nat) = 2 ^ 7 from rfl, ← Nat.pow_add]
    congr 1; omega
   rw [ih (n / 128) (by omega) (i + 1) _ rest (by omega) (by rw [hp] at hn; exact Nat.div_lt_of_lt_mul hn) (.inr (by omega))]
   have e1 : 2 ^ (7 * (i + 1)) = 128 * 2 ^ (7 * i) := by rw [show (128 : Nat) = 2 ^ 7 from rfl, ← Nat.pow_add]; congr 1; omega
   have e2 : m + (n % 128 + 128 - 128) * 2 ^ (7 * i) + n / 128 * 2 ^ (7 * (i + 1)) = m + n * 2 ^ (7 * i) := by
    rw [e1, Nat.add_sub_cancel, Nat.add_assoc, ← Nat.mul_assoc, ← Nat.add_mul]
    congr 2; omega
   rw [e2, List.length_cons]
   congr 2; omega
theorem Dt : ∀ (l : List UInt8) (i m n k : Nat), bG l i m = some (n, k) → ∃ v, n = m + v * 2 ^ (7 * i) ∧ (i = 0 ∨ 0 < v) ∧ i + (uv v).length = k ∧ ∃ rest, l = uv v ++ rest ∧ v < 2 ^ (64 - 7 * i) ∧ k ≤ 10
 | [], i, m, n, k, h => by simp [bG] at h
 | b :: r, i, m, n, k, h => by
  rw [bG] at h
  split at h
  ·cases h
  rename_i h9
  split at h
  ·rename_i hb
   split at h
   ·rename_i h0
    simp only [Option.some.injEq,Prod.mk.injEq] at h
    obtain ⟨rfl, rfl⟩ := h
    have hu : uv b.toNat = [b] := by rw [jR hb]; simp
    refine ⟨b.toNat, rfl, h0, by rw [hu]; rfl, r, by rw [hu]; rfl, ?_, by omega⟩
    by_cases Zl : i = 9
    ·subst Zl; simp; omega
    ·have : 2 ^ 7 ≤ 2 ^ (64 - 7 * i) := Nat.pow_le_pow_right (by omega) (by omega)
     omega
   ·cases h
  ·rename_i hb
   obtain ⟨v, hv, h0, hk, rest, hr, aF, Wm⟩ := Dt r (i + 1) _ n k h
   have FX : 0 < v := by omega
   have Oe : b.toNat < 256 := b.toNat_lt
   have Zm : (b.toNat - 128 + 128 * v) % 128 = b.toNat - 128 := by omega
   have MU : (b.toNat - 128 + 128 * v) / 128 = v := by omega
   have hu : uv (b.toNat - 128 + 128 * v) = b :: uv v := by
    rw [tq (by omega), Zm, MU, Nat.sub_add_cancel (by omega)]; simp
   have e1 : 2 ^ (7 * (i + 1)) = 128 * 2 ^ (7 * i) := by rw [show (128 : Nat) = 2 ^ 7 from rfl, ← Nat.pow_add]; congr 1; omega
   have iF : 0 < (uv v).length := by rw [uv]; split <;> simp
   refine ⟨b.toNat - 128 + 128 * v, ?_, .inr (by omega), by rw [hu, List.length_cons]; omega, rest, by rw [hu, hr]; rfl, ?_, Wm⟩
   ·rw [hv, e1, Nat.add_mul, Nat.add_assoc, Nat.mul_comm 128 v, Nat.mul_assoc]
   ·have h8 : i ≤ 8 := by omega
    have hp : 2 ^ (64 - 7 * i) = 128 * 2 ^ (64 - 7 * (i + 1)) := by
     rw [show (128 : Nat) = 2 ^ 7 from rfl, ← Nat.pow_add]
     congr 1; omega
    rw [hp]; omega
def from_ (s : ByteArray) (at_ : Nat) : List UInt8 := s.data.toList.drop at_
theorem gM (s : ByteArray) (a : Nat) : (from_ s a).length = s.size - a := by unfold from_; rw [List.length_drop, Array.length_toList]; rfl
theorem vE (s : ByteArray) (a k : Nat) : (from_ s a).drop k = from_ s (a + k) := by unfold from_; rw [List.drop_drop]
def eP (s : ByteArray) (at_ : Nat) : Option (Nat × Nat) := match bG (from_ s at_) 0 0 with
 | some (n, k) => if n < 9223372036854775808 then some (n, at_ + k) else none
 | none => none
def lg (s : ByteArray) (at_ : Nat) : Option (ByteArray × Nat) := match eP s at_ with
 | some (n, j) => if n ≤ s.size - j then some (s.extract j (j + n), j + n) else none
 | none => none
theorem tr {s : ByteArray} {a : Nat} {x rest : List UInt8} (h : from_ s a = x ++ rest) : from_ s (a + x.length) = rest := by
 rw [← vE, h, List.drop_left]
theorem xk {s : ByteArray} {a n : Nat} {rest : List UInt8} (hn : n < 9223372036854775808) (h : from_ s a = uv n ++ rest) : eP s a = some (n, a + (uv n).length) ∧ from_ s (a + (uv n).length) = rest := by
 refine ⟨?_, tr h⟩
 unfold eP
 rw [h, KV 0 n 0 rest (by omega) (by show n < 2 ^ 64; omega) (.inl rfl)]
 simp only [Nat.mul_zero,Nat.pow_zero,Nat.mul_one,Nat.zero_add]
 rw [if_pos hn]
theorem nG {s : ByteArray} {a n j : Nat} (h : eP s a = some (n, j)) : from_ s a = uv n ++ from_ s j ∧ n < 9223372036854775808 ∧ j = a + (uv n).length ∧ j ≤ s.size ∧ a < j := by
 unfold eP at h
 split at h
 ·rename_i n' k hs
  split at h
  ·rename_i hn
   simp only [Option.some.injEq,Prod.mk.injEq] at h
   obtain ⟨rfl, rfl⟩ := h
   obtain ⟨v, hv, -, hk, rest, hr, -, -⟩ := Dt _ _ _ _ _ hs
   have Zn : v = n' := by rw [hv]; simp
   subst Zn
   rw [Nat.zero_add] at hk
   have iF : 0 < (uv v).length := by rw [uv]; split <;> simp
   have hl := congrArg List.length hr
   rw [gM, List.length_append] at hl
   refine ⟨?_, hn, by rw [hk], by omega, by omega⟩
   rw [← hk, tr hr]; exact hr
  ·cases h
 ·cases h
def bc (s : ByteArray) : List UInt8 := s.data.toList
theorem eX (s : ByteArray) : (bc s).length = s.size := Array.length_toList
theorem oV (s : ByteArray) (j n : Nat) : bc (s.extract j (j + n)) = (from_ s j).take n := by
 unfold bc from_
 rw [ByteArray.data_extract, Array.toList_extract, List.extract_eq_take_drop, Nat.add_sub_cancel_left]
theorem iL {a b : ByteArray} (h : bc a = bc b) : a = b := by
 cases a; cases b; unfold bc at h; dsimp only at h; rw [Array.toList_inj.1 h]
def eT (t : ByteArray) : List UInt8 := uv t.size ++ bc t
theorem pZ {s t : ByteArray} {a : Nat} {rest : List UInt8} (hn : t.size < 9223372036854775808) (h : from_ s a = eT t ++ rest) : lg s a = some (t, a + (eT t).length) ∧ from_ s (a + (eT t).length) = rest := by
 refine ⟨?_, tr h⟩
 unfold eT at h
 rw [List.append_assoc] at h
 obtain ⟨h1, h2⟩ := xk hn h
 unfold lg
 rw [h1]
 dsimp only
 have hl := congrArg List.length h2
 rw [gM, List.length_append, eX] at hl
 have e : s.extract (a + (uv t.size).length) (a + (uv t.size).length + t.size) = t := iL (by rw [oV, h2, ← eX t, List.take_left])
 rw [e, show (eT t).length = (uv t.size).length + t.size by unfold eT; rw [List.length_append, eX], Nat.add_assoc]
 rw [if_pos]
 by_cases ht : t.size = 0
 ·omega
 ·omega
theorem gi {s t : ByteArray} {a j : Nat} (h : lg s a = some (t, j)) : from_ s a = eT t ++ from_ s j ∧ t.size < 9223372036854775808 ∧ j ≤ s.size ∧ a < j ∧ t.size ≤ s.size := by
 unfold lg at h
 split at h
 ·rename_i n k hi
  obtain ⟨h1, h2, h3, h4, h5⟩ := nG hi
  split at h
  ·rename_i hn
   simp only [Option.some.injEq,Prod.mk.injEq] at h
   obtain ⟨rfl, rfl⟩ := h
   have hs : (s.extract k (k + n)).size = n := by rw [ByteArray.size_extract]; omega
   refine ⟨?_, by omega, by omega, by omega, by omega⟩
   unfold eT
   rw [hs, oV, List.append_assoc, ← vE, List.take_append_drop]; exact h1
  ·cases h
 ·cases h
end Go.Proofs.YtnfeacnbgbggfaaGreatDoor
end

section
namespace Go.Proofs.YtnfeacnbgbggfaaGreatDoor
open Go.Eng
variable [aE]
def aj (s : br) : V := .agg [num s.lo, num s.hi]
def al (l : List br) : V := .slice (l.map aj)
def ak (q : Rq) : V := .agg [str q.path, al q.set]
def ah (l : List Rq) : V := .slice (l.map ak)
def dI (v : fA) : V := .agg [num v.mj, num v.mn, num v.pt]
def bh (s : gR) : V := .agg [str s.path, num s.ay.mj, num s.ay.mn, num s.ay.pt]
def bT (l : List gR) : V := .slice (l.map bh)
def ag (r : Rl) : List V := [str r.path, num r.ay.mj, num r.ay.mn, num r.ay.pt, ah r.reqs, str r.ar, str r.ei, str r.ce, bl r.yk]
def af (r : Rl) : V := .agg (ag r)
def bP (l : List Rl) : V := .slice (l.map af)
def dw (l : List Rl) (I : List V) : V := .agg [bP l, .slice I]
attribute [go_sem] al ah bT bP
end Go.Proofs.YtnfeacnbgbggfaaGreatDoor
end

section
namespace Go.Proofs.YtnfeacnbgbggfaaGreatDoor
open Go.Eng
open Nat renaming reduceAdd → zA, reduceLT → zB, reduceLeDiff → zC, reduceMul → zD, reduceEqDiff → zE, reduceSub → zF
variable [aE]
set_option maxHeartbeats 4000000
set_option maxRecDepth 100000
theorem O4 {s e : ByteArray} (he : e.size = 0) (h : (!(s.toList == e.toList)) = true) : ∃ c, s[0]? = some c := by
 refine bI (s := s) (i := 0) ?_
 rcases Nat.eq_zero_or_pos s.size with hz | hz
 ·exfalso
  have e1 : s.toList = e.toList := by
   rw [ByteArray.toList_eq, ByteArray.toList_eq]
   have a1 : s.data.toList = [] := by simpa [← List.length_eq_zero_iff, Array.length_toList] using hz
   have a2 : e.data.toList = [] := by simpa [← List.length_eq_zero_iff, Array.length_toList] using he
   rw [a1, a2]
  rw [e1] at h; simp at h
 ·exact hz
def uP (c : Int) : Bool := decide (97 ≤ c) && decide (c ≤ 122)
def BJ (c : Int) : Bool := decide (65 ≤ c) && decide (c ≤ 90)
def ew (c : Int) : Bool := decide (48 ≤ c) && decide (c ≤ 57)
def kJ (c : Int) : Bool := uP c || BJ c || ew c || decide (c = 95)
def tu (c : Int) : Bool := uP c || ew c
def gj (p : Int → Bool) (s : ByteArray) : Bool := s.data.toList.all fun b => p b.toNat
def cC (s : ByteArray) (i : Nat) : Int := match s[i]? with | some c => c.toNat | none => 0
theorem jS {s : ByteArray} {i : Nat} {c : UInt8} (h : s[i]? = some c) : s.data.toList[i]? = some c := by
 obtain ⟨h1, h2⟩ := getElem?_eq_some_iff.1 h
 have h3 : i < s.data.toList.length := by simpa using h1
 rw [List.getElem?_eq_getElem h3]
 exact congrArg some (by rw [Array.getElem_toList]; exact h2)
theorem cX {s : ByteArray} {i : Nat} {c : UInt8} (h : s[i]? = some c) : cC s i = c.toNat := by unfold cC; rw [h]
theorem jT {p : Int → Bool} {s : ByteArray} (h : ∀ j < s.size, ∀ b, s[j]? = some b → p b.toNat = true) : gj p s = true := by
 refine List.all_eq_true.2 fun b hb => ?_
 obtain ⟨j, hj⟩ := List.mem_iff_getElem?.1 hb
 have h1 : j < s.size := by have := (List.getElem?_eq_some_iff.1 hj).1; simpa using this
 obtain ⟨c, hc⟩ := bI h1
 have := jS hc
 rw [hj] at this; cases this
 exact h j h1 b hc
theorem iM {p : Int → Bool} {s : ByteArray} {j : Nat} {b : UInt8} (h : s[j]? = some b) (hp : p b.toNat = false) : gj p s = false := by
 have hm := List.mem_of_getElem? (jS h)
 cases ha : gj p s with
 | false => rfl
 | true => have := List.all_eq_true.1 ha b hm; rw [hp] at this; cases this
theorem Du {s e : ByteArray} (he : e.size = 0) (h : (!(s.toList == e.toList)) = true) : 1 ≤ s.size := by
 obtain ⟨c, hc⟩ := O4 he h
 exact (getElem?_eq_some_iff.1 hc).1
theorem zn {s e : ByteArray} (he : e.size = 0) (h : (!(s.toList == e.toList)) = false) : s.size = 0 := by
 have e1 : s.toList = e.toList := by simpa using h
 rw [ByteArray.toList_eq, ByteArray.toList_eq] at e1
 have := congrArg List.length e1
 simp only [Array.length_toList] at this
 exact Eq.trans this he
theorem tv (c : Int) : ∃ r_, (fun w => w = bl (uP c)) r_ ∧ aP Tryz.prog 127 [.sc (.int .u8 c)] r_ := by
 refine ek tt_ok [] 9 [.tmp 2] (fn := Tryz.f127) Tryz.func127 rfl Tryz.call127 ⟨rfl, rfl, by simp⟩ fun K hK => ?_
 simp only [go_sem,reduceIte,zA,zB,zC,zD,zE,zF,reduceCtorEq]
 refine aL (fun dS => ?_) (fun dS => ?_)
 ·simp only [go_sem,reduceIte,zA,zB,zC,zD,zE,zF,reduceCtorEq]
  exact hK _ (congrArg bl (by simp_all [uP] <;> (intros; omega)))
 ·simp only [go_sem,reduceIte,zA,zB,zC,zD,zE,zF,reduceCtorEq]
  exact hK _ (congrArg bl (by simp_all [uP] <;> (intros; omega)))
theorem BK (c : Int) : ∃ r_, (fun w => w = bl (BJ c)) r_ ∧ aP Tryz.prog 176 [.sc (.int .u8 c)] r_ := by
 refine ek tt_ok [] 9 [.tmp 2] (fn := Tryz.f176) Tryz.func176 rfl Tryz.call176 ⟨rfl, rfl, by simp⟩ fun K hK => ?_
 simp only [go_sem,reduceIte,zA,zB,zC,zD,zE,zF,reduceCtorEq]
 refine aL (fun dS => ?_) (fun dS => ?_)
 ·simp only [go_sem,reduceIte,zA,zB,zC,zD,zE,zF,reduceCtorEq]
  exact hK _ (congrArg bl (by simp_all [BJ] <;> (intros; omega)))
 ·simp only [go_sem,reduceIte,zA,zB,zC,zD,zE,zF,reduceCtorEq]
  exact hK _ (congrArg bl (by simp_all [BJ] <;> (intros; omega)))
theorem oW (c : Int) : ∃ r_, (fun w => w = bl (ew c)) r_ ∧ aP Tryz.prog 128 [.sc (.int .u8 c)] r_ := by
 refine ek tt_ok [] 9 [.tmp 2] (fn := Tryz.f128) Tryz.func128 rfl Tryz.call128 ⟨rfl, rfl, by simp⟩ fun K hK => ?_
 simp only [go_sem,reduceIte,zA,zB,zC,zD,zE,zF,reduceCtorEq]
 refine aL (fun dS => ?_) (fun dS => ?_)
 ·simp only [go_sem,reduceIte,zA,zB,zC,zD,zE,zF,reduceCtorEq]
  exact hK _ (congrArg bl (by simp_all [ew] <;> (intros; omega)))
 ·simp only [go_sem,reduceIte,zA,zB,zC,zD,zE,zF,reduceCtorEq]
  exact hK _ (congrArg bl (by simp_all [ew] <;> (intros; omega)))
theorem qa (c : Int) : ∃ r_, (fun w => w = bl (uP c)) r_ ∧ aP Tryz.prog 178 [.sc (.int .u8 c)] r_ := by
 refine ek tt_ok [] 9 [.tmp 2] (fn := Tryz.f178) Tryz.func178 rfl Tryz.call178 ⟨rfl, rfl, by simp⟩ fun K hK => ?_
 simp only [go_sem,reduceIte,zA,zB,zC,zD,zE,zF,reduceCtorEq]
 refine aL (fun dS => ?_) (fun dS => ?_)
 ·simp only [go_sem,reduceIte,zA,zB,zC,zD,zE,zF,reduceCtorEq]
  exact hK _ (congrArg bl (by simp_all [uP] <;> (intros; omega)))
 ·simp only [go_sem,reduceIte,zA,zB,zC,zD,zE,zF,reduceCtorEq]
  exact hK _ (congrArg bl (by simp_all [uP] <;> (intros; omega)))
theorem zo (c : Int) : ∃ r_, (fun w => w = bl (BJ c)) r_ ∧ aP Tryz.prog 202 [.sc (.int .u8 c)] r_ := by
 refine ek tt_ok [] 9 [.tmp 2] (fn := Tryz.f202) Tryz.func202 rfl Tryz.call202 ⟨rfl, rfl, by simp⟩ fun K hK => ?_
 simp only [go_sem,reduceIte,zA,zB,zC,zD,zE,zF,reduceCtorEq]
 refine aL (fun dS => ?_) (fun dS => ?_)
 ·simp only [go_sem,reduceIte,zA,zB,zC,zD,zE,zF,reduceCtorEq]
  exact hK _ (congrArg bl (by simp_all [BJ] <;> (intros; omega)))
 ·simp only [go_sem,reduceIte,zA,zB,zC,zD,zE,zF,reduceCtorEq]
  exact hK _ (congrArg bl (by simp_all [BJ] <;> (intros; omega)))
theorem mB (c : Int) : ∃ r_, (fun w => w = bl (ew c)) r_ ∧ aP Tryz.prog 179 [.sc (.int .u8 c)] r_ := by
 refine ek tt_ok [] 9 [.tmp 2] (fn := Tryz.f179) Tryz.func179 rfl Tryz.call179 ⟨rfl, rfl, by simp⟩ fun K hK => ?_
 simp only [go_sem,reduceIte,zA,zB,zC,zD,zE,zF,reduceCtorEq]
 refine aL (fun dS => ?_) (fun dS => ?_)
 ·simp only [go_sem,reduceIte,zA,zB,zC,zD,zE,zF,reduceCtorEq]
  exact hK _ (congrArg bl (by simp_all [ew] <;> (intros; omega)))
 ·simp only [go_sem,reduceIte,zA,zB,zC,zD,zE,zF,reduceCtorEq]
  exact hK _ (congrArg bl (by simp_all [ew] <;> (intros; omega)))
theorem KW (c : Int) : ∃ r_, (fun w => w = bl (kJ c)) r_ ∧ aP Tryz.prog 151 [.sc (.int .u8 c)] r_ := by
 refine ek tt_ok [] 17 [.tmp 2] (fn := Tryz.f151) Tryz.func151 rfl Tryz.call151 ⟨rfl, rfl, by simp⟩ fun K hK => ?_
 simp only [go_sem,reduceIte,zA,zB,zC,zD,zE,zF,reduceCtorEq]
 refine cF (tv _) ?_
 rintro _ rfl
 simp only [go_sem,reduceIte,zA,zB,zC,zD,zE,zF,reduceCtorEq]
 refine aL (fun dS => ?_) (fun dS => ?_)
 ·simp only [go_sem,reduceIte,zA,zB,zC,zD,zE,zF,reduceCtorEq]
  exact hK _ (congrArg bl (by simp_all [kJ]))
 ·simp only [go_sem,reduceIte,zA,zB,zC,zD,zE,zF,reduceCtorEq]
  refine cF (BK _) ?_
  rintro _ rfl
  simp only [go_sem,reduceIte,zA,zB,zC,zD,zE,zF,reduceCtorEq]
  refine aL (fun zp => ?_) (fun zp => ?_)
  ·simp only [go_sem,reduceIte,zA,zB,zC,zD,zE,zF,reduceCtorEq]
   exact hK _ (congrArg bl (by simp_all [kJ]))
  ·simp only [go_sem,reduceIte,zA,zB,zC,zD,zE,zF,reduceCtorEq]
   refine cF (oW _) ?_
   rintro _ rfl
   simp only [go_sem,reduceIte,zA,zB,zC,zD,zE,zF,reduceCtorEq]
   refine aL (fun BL => ?_) (fun BL => ?_)
   ·simp only [go_sem,reduceIte,zA,zB,zC,zD,zE,zF,reduceCtorEq]
    exact hK _ (congrArg bl (by simp_all [kJ]))
   ·simp only [go_sem,reduceIte,zA,zB,zC,zD,zE,zF,reduceCtorEq]
    exact hK _ (congrArg bl (by simp_all [kJ]))
theorem HH (c : Int) : ∃ r_, (fun w => w = bl (kJ c)) r_ ∧ aP Tryz.prog 199 [.sc (.int .u8 c)] r_ := by
 refine ek tt_ok [] 17 [.tmp 2] (fn := Tryz.f199) Tryz.func199 rfl Tryz.call199 ⟨rfl, rfl, by simp⟩ fun K hK => ?_
 simp only [go_sem,reduceIte,zA,zB,zC,zD,zE,zF,reduceCtorEq]
 refine cF (qa _) ?_
 rintro _ rfl
 simp only [go_sem,reduceIte,zA,zB,zC,zD,zE,zF,reduceCtorEq]
 refine aL (fun dS => ?_) (fun dS => ?_)
 ·simp only [go_sem,reduceIte,zA,zB,zC,zD,zE,zF,reduceCtorEq]
  exact hK _ (congrArg bl (by simp_all [kJ]))
 ·simp only [go_sem,reduceIte,zA,zB,zC,zD,zE,zF,reduceCtorEq]
  refine cF (zo _) ?_
  rintro _ rfl
  simp only [go_sem,reduceIte,zA,zB,zC,zD,zE,zF,reduceCtorEq]
  refine aL (fun zp => ?_) (fun zp => ?_)
  ·simp only [go_sem,reduceIte,zA,zB,zC,zD,zE,zF,reduceCtorEq]
   exact hK _ (congrArg bl (by simp_all [kJ]))
  ·simp only [go_sem,reduceIte,zA,zB,zC,zD,zE,zF,reduceCtorEq]
   refine cF (mB _) ?_
   rintro _ rfl
   simp only [go_sem,reduceIte,zA,zB,zC,zD,zE,zF,reduceCtorEq]
   refine aL (fun BL => ?_) (fun BL => ?_)
   ·simp only [go_sem,reduceIte,zA,zB,zC,zD,zE,zF,reduceCtorEq]
    exact hK _ (congrArg bl (by simp_all [kJ]))
   ·simp only [go_sem,reduceIte,zA,zB,zC,zD,zE,zF,reduceCtorEq]
    exact hK _ (congrArg bl (by simp_all [kJ]))
theorem SV (c : Int) : ∃ r_, (fun w => w = bl (tu c)) r_ ∧ aP Tryz.prog 126 [.sc (.int .u8 c)] r_ := by
 refine ek tt_ok [] 9 [.tmp 2] (fn := Tryz.f126) Tryz.func126 rfl Tryz.call126 ⟨rfl, rfl, by simp⟩ fun K hK => ?_
 simp only [go_sem,reduceIte,zA,zB,zC,zD,zE,zF,reduceCtorEq]
 refine cF (tv _) ?_
 rintro _ rfl
 simp only [go_sem,reduceIte,zA,zB,zC,zD,zE,zF,reduceCtorEq]
 refine aL (fun dS => ?_) (fun dS => ?_)
 ·simp only [go_sem,reduceIte,zA,zB,zC,zD,zE,zF,reduceCtorEq]
  exact hK _ (congrArg bl (by simp_all [tu]))
 ·simp only [go_sem,reduceIte,zA,zB,zC,zD,zE,zF,reduceCtorEq]
  refine cF (oW _) ?_
  rintro _ rfl
  simp only [go_sem,reduceIte,zA,zB,zC,zD,zE,zF,reduceCtorEq]
  exact hK _ (congrArg bl (by simp_all [tu]))
theorem xl (g : FuncId) (p : Int → Bool) (hg : ∀ c : Int, ∃ r, (fun v => v = bl (p c)) r ∧ aP Tryz.prog g [.sc (.int .u8 c)] r) (s : ByteArray) (hs : s.size ≤ 1048576) : ∃ r_, (fun w => w = bl (gj p s)) r_ ∧ aP Tryz.prog 125 [str s, .sc (.func (.func g) #[] #[])] r_ := by
 refine ek tt_ok [] 18 [.tmp 4] (fn := Tryz.f125) Tryz.func125 rfl Tryz.call125 ⟨rfl, rfl, by simp⟩ fun K hK => ?_
 have eE : Tryz.prog.underlying 9 = some .string := by kernel_rfl
 have sl : ∀ (a : ByteArray) (ty : TypeId), cd Tryz.prog (Builtin.len_ #[9] ty) [.sc (.string a)] = some (num a.size) := fun a ty => bE (P := Tryz.prog) (tt := tt) (T := 9) a eE ty
 simp only [sl,go_sem,reduceIte,zA,zB,zC,zD,zE,zF,reduceCtorEq]
 refine bO tt_ok [] [8] 0 [0,1,7] (fun vs => ((s.size : Int) - Go.Eng.intOf (vs.headD .undef)).toNat) (fun vs => ∃ i : Nat, vs = [num i] ∧ i ≤ s.size ∧ ∀ j < i, ∀ b, s[j]? = some b → p b.toNat = true) (by omega) (by simp only [sl,go_sem,reduceIte,zA,zB,zC,zD,zE,zF,reduceCtorEq]) (⟨0, rfl, Nat.zero_le _, fun j hj => absurd hj (Nat.not_lt_zero j)⟩) fun vs hI Z1 cE => ?_
 obtain ⟨i, rfl, hi, dH⟩ := hI
 simp only [sl,go_sem,reduceIte,zA,zB,zC,zD,zE,zF,reduceCtorEq]
 refine aL (fun la => ?_) (fun la => ?_)
 ·have aF : i < s.size := by simpa using la
  have hw := aC i (by omega)
  obtain ⟨c, jD⟩ := bI (s := s) (i := i) aF
  have ca := cx (P := Tryz.prog) s eE .i64 (i : Int) (by omega) (c := c) (show s[((i : Nat) : Int).toNat]? = some c from jD)
  simp only [hw,ca,sl,go_sem,reduceIte,zA,zB,zC,zD,zE,zF,reduceCtorEq]
  refine cF (hg _) ?_
  rintro _ rfl
  simp only [hw,ca,sl,go_sem,reduceIte,zA,zB,zC,zD,zE,zF,reduceCtorEq]
  refine aL (fun kK => ?_) (fun kK => ?_)
  ·have ax : false = gj p s := (iM jD (by simpa using kK)).symm
   simp only [hw,ca,sl,go_sem,reduceIte,zA,zB,zC,zD,zE,zF,reduceCtorEq]
   exact hK _ (congrArg bl ax)
  ·simp only [hw,ca,sl,go_sem,reduceIte,zA,zB,zC,zD,zE,zF,reduceCtorEq]
   refine cE _ (eR (by omega) (by simp only [hw,ca,sl,go_sem,reduceIte,zA,zB,zC,zD,zE,zF,reduceCtorEq]) ?_ ?_) <;> simp only [ja,lk,reduceIte,zE]
   ·refine ⟨i + 1, rfl, aF, fun j hj b hb => ?_⟩
    rcases Nat.lt_or_ge j i with h | h
    ·exact dH j h b hb
    ·obtain rfl : j = i := by omega
     rw [jD] at hb; cases hb; simpa using kK
   ·simp only [Go.Eng.intOf,List.headD_cons]; omega
 ·have dg : ¬ i < s.size := by simpa using la
  have ax : true = gj p s := (jT fun j hj b hb => dH j (by omega) b hb).symm
  simp only [sl,go_sem,reduceIte,zA,zB,zC,zD,zE,zF,reduceCtorEq]
  exact hK _ (congrArg bl ax)
theorem HI (s : ByteArray) (hs : s.size ≤ 1048576) : ∃ r_, (fun w => w = bl (gj kJ s)) r_ ∧ aP Tryz.prog 190 [str s] r_ := by
 refine ek tt_ok [] 15 [.tmp 2] (fn := Tryz.f190) Tryz.func190 rfl Tryz.call190 ⟨rfl, rfl, by simp⟩ fun K hK => ?_
 have eE : Tryz.prog.underlying 9 = some .string := by kernel_rfl
 have sl : ∀ (a : ByteArray) (ty : TypeId), cd Tryz.prog (Builtin.len_ #[9] ty) [.sc (.string a)] = some (num a.size) := fun a ty => bE (P := Tryz.prog) (tt := tt) (T := 9) a eE ty
 simp only [sl,go_sem,reduceIte,zA,zB,zC,zD,zE,zF,reduceCtorEq]
 refine bO tt_ok [] [3] 0 [0] (fun vs => ((s.size : Int) - Go.Eng.intOf (vs.headD .undef)).toNat) (fun vs => ∃ i : Nat, vs = [num i] ∧ i ≤ s.size ∧ ∀ j < i, ∀ b, s[j]? = some b → kJ b.toNat = true) (by omega) (by simp only [sl,go_sem,reduceIte,zA,zB,zC,zD,zE,zF,reduceCtorEq]) (⟨0, rfl, Nat.zero_le _, fun j hj => absurd hj (Nat.not_lt_zero j)⟩) fun vs hI Z1 cE => ?_
 obtain ⟨i, rfl, hi, dH⟩ := hI
 simp only [sl,go_sem,reduceIte,zA,zB,zC,zD,zE,zF,reduceCtorEq]
 refine aL (fun HJ => ?_) (fun HJ => ?_)
 ·have aF : i < s.size := by simpa using HJ
  have hw := aC i (by omega)
  obtain ⟨c, jD⟩ := bI (s := s) (i := i) aF
  have ca := cx (P := Tryz.prog) s eE .i64 (i : Int) (by omega) (c := c) (show s[((i : Nat) : Int).toNat]? = some c from jD)
  simp only [hw,ca,sl,go_sem,reduceIte,zA,zB,zC,zD,zE,zF,reduceCtorEq]
  refine cF (HH _) ?_
  rintro _ rfl
  simp only [hw,ca,sl,go_sem,reduceIte,zA,zB,zC,zD,zE,zF,reduceCtorEq]
  refine aL (fun eY => ?_) (fun eY => ?_)
  ·have ax : false = gj kJ s := (iM jD (by simpa using eY)).symm
   simp only [hw,ca,sl,go_sem,reduceIte,zA,zB,zC,zD,zE,zF,reduceCtorEq]
   exact hK _ (congrArg bl ax)
  ·simp only [hw,ca,sl,go_sem,reduceIte,zA,zB,zC,zD,zE,zF,reduceCtorEq]
   refine cE _ (eR (by omega) (by simp only [hw,ca,sl,go_sem,reduceIte,zA,zB,zC,zD,zE,zF,reduceCtorEq]) ?_ ?_) <;> simp only [ja,lk,reduceIte,zE]
   ·refine ⟨i + 1, rfl, aF, fun j hj b hb => ?_⟩
    rcases Nat.lt_or_ge j i with h | h
    ·exact dH j h b hb
    ·obtain rfl : j = i := by omega
     rw [jD] at hb; cases hb; simpa using eY
   ·simp only [Go.Eng.intOf,List.headD_cons]; omega
 ·have dg : ¬ i < s.size := by simpa using HJ
  have ax : true = gj kJ s := (jT fun j hj b hb => dH j (by omega) b hb).symm
  simp only [sl,go_sem,reduceIte,zA,zB,zC,zD,zE,zF,reduceCtorEq]
  exact hK _ (congrArg bl ax)
end Go.Proofs.YtnfeacnbgbggfaaGreatDoor
end

section
namespace Go.Proofs.YtnfeacnbgbggfaaGreatDoor
open Go.Eng
open Nat renaming reduceAdd → zA, reduceLT → zB, reduceLeDiff → zC, reduceMul → zD, reduceEqDiff → zE, reduceSub → zF
variable [aE]
set_option maxHeartbeats 4000000
set_option maxRecDepth 100000
def fA.part (v : fA) (i : Nat) : Int := if i = 0 then v.mj else if i = 1 then v.mn else v.pt
theorem Wn (a b c : Int) : A0 Tryz.prog 151 [(0, .int .i64 a), (1, .int .i64 b), (2, .int .i64 c)] = some (.agg [num a, num b, num c]) := by kernel_rfl
theorem O5 (a b c : Int) : aQ Tryz.prog (Instr.index 151) (.agg [num a, num b, num c]) (num 0) = some (num a) := by kernel_rfl
theorem O6 (a b c : Int) : aQ Tryz.prog (Instr.index 151) (.agg [num a, num b, num c]) (num 1) = some (num b) := by kernel_rfl
theorem O7 (a b c : Int) : aQ Tryz.prog (Instr.index 151) (.agg [num a, num b, num c]) (num 2) = some (num c) := by kernel_rfl
theorem SX (v : fA) (i : Nat) (h : i < 3) : aQ Tryz.prog (Instr.index 151) (.agg [num v.mj, num v.mn, num v.pt]) (num i) = some (num (v.part i)) := by
 obtain ⟨a, b, c⟩ := v
 match i, h with
 | 0, _ => exact O5 a b c
 | 1, _ => exact O6 a b c
 | 2, _ => exact O7 a b c
def gk (n : Int) : Bool := decide (0 ≤ n) && decide (n ≤ 999)
def fA.ok (v : fA) : Bool := gk v.mj && gk v.mn && gk v.pt
theorem fA.BM (v : fA) : v.ok = true ↔ ∀ i < 3, gk (v.part i) = true := by
 unfold fA.ok
 simp only [Bool.and_eq_true]
 constructor
 ·rintro ⟨⟨h0, h1⟩, h2⟩ i hi
  match i, hi with
  | 0, _ => exact h0
  | 1, _ => exact h1
  | 2, _ => exact h2
 ·exact fun h => ⟨⟨h 0 (by omega), h 1 (by omega)⟩, h 2 (by omega)⟩
def kL (a b : Int) : Int := if a < b then -1 else if b < a then 1 else 0
def fA.cmp (a b : fA) : Int := if kL a.mj b.mj ≠ 0 then kL a.mj b.mj else if kL a.mn b.mn ≠ 0 then kL a.mn b.mn else kL a.pt b.pt
theorem fA.O8 {a b : fA} {i : Nat} (hi : i < 3) (h : ∀ j < i, kL (a.part j) (b.part j) = 0) (bD : kL (a.part i) (b.part i) ≠ 0) : a.cmp b = kL (a.part i) (b.part i) := by
 unfold fA.cmp
 match i, hi with
 | 0, _ => exact if_pos bD
 | 1, _ =>
  have h0 := h 0 (by omega)
  simp only [fA.part,if_true] at h0
  rw [if_neg (by rw [h0]; simp)]
  exact if_pos bD
 | 2, _ =>
  have h0 := h 0 (by omega)
  have h1 := h 1 (by omega)
  simp only [fA.part,if_true] at h0 h1
  rw [if_neg (by rw [h0]; simp), if_neg (by rw [show kL a.mn b.mn = 0 from h1]; simp)]
  rfl
theorem fA.cmp_eq {a b : fA} (h : ∀ j < 3, kL (a.part j) (b.part j) = 0) : a.cmp b = 0 := by
 unfold fA.cmp
 have h0 := h 0 (by omega)
 have h1 := h 1 (by omega)
 have h2 := h 2 (by omega)
 rw [if_neg (by rw [show kL a.mj b.mj = 0 from h0]; simp), if_neg (by rw [show kL a.mn b.mn = 0 from h1]; simp)]
 exact h2
def vF (a b : ByteArray) : Bool := Op.bytesLess a.toList b.toList
theorem bU (a b : ByteArray) : (a.toList == b.toList) = decide (a = b) := by
 rw [Bool.eq_iff_iff, beq_iff_eq, decide_eq_true_eq]
 refine ⟨fun h => ?_, fun h => by rw [h]⟩
 rw [ByteArray.toList_eq, ByteArray.toList_eq] at h
 cases a; cases b; congr 1; exact Array.toList_inj.1 h
theorem HK (a b : ByteArray) : vF a b = decide (a.data.toList < b.data.toList) := by
 unfold vF
 rw [Proofs.bytesLess_eq, ByteArray.toList_eq, ByteArray.toList_eq]
def zq (a b : ByteArray) : Int := if vF a b = true then -1 else if a = b then 0 else 1
theorem nH {v : fA} (h : v.ok = true) : IntKind.i64.wrap (1000 * v.mn) = 1000 * v.mn ∧ IntKind.i64.wrap (1000 * v.mn + v.pt) = v.place ∧ 0 ≤ v.place ∧ v.place < 1000000 := by
 unfold fA.ok gk at h
 simp only [Bool.and_eq_true,decide_eq_true_eq] at h
 unfold fA.place
 refine ⟨IntWalk.i64_in _ (by omega), IntWalk.i64_in _ (by omega), by omega, by omega⟩
theorem tx (v : fA) : ∃ r_, (fun w => w = .agg [num v.mj, num v.mn, num v.pt]) r_ ∧ aP Tryz.prog 114 [dI v] r_ := by
 refine ek tt_ok [] 10 [.cell 2 151] (fn := Tryz.f114) Tryz.func114 rfl Tryz.call114 ⟨rfl, rfl, by simp⟩ fun K hK => ?_
 simp only [dI]
 simp only [Wn,go_sem,reduceIte,zA,zB,zC,zD,zE,zF,reduceCtorEq]
 exact hK _ rfl
theorem zr (v : fA) : ∃ r_, (fun w => w = bl (v.ok)) r_ ∧ aP Tryz.prog 78 [dI v] r_ := by
 refine ek tt_ok [] 17 [.tmp 2] (fn := Tryz.f78) Tryz.func78 rfl Tryz.call78 ⟨rfl, rfl, by simp⟩ fun K hK => ?_
 simp only [dI]
 simp only [go_sem,reduceIte,zA,zB,zC,zD,zE,zF,reduceCtorEq]
 refine cF (by have h := tx v; simp only [dI] at h; exact h) ?_
 rintro _ rfl
 simp only [go_sem,reduceIte,zA,zB,zC,zD,zE,zF,reduceCtorEq]
 refine bO tt_ok [] [7] 1 [6] (fun vs => ((3 : Int) - Go.Eng.intOf (vs.headD .undef)).toNat) (fun vs => ∃ i : Nat, vs = [num i] ∧ i ≤ 3 ∧ ∀ j < i, gk (v.part j) = true) (by omega) (by simp only [go_sem,reduceIte,zA,zB,zC,zD,zE,zF,reduceCtorEq]) (⟨0, rfl, Nat.zero_le _, fun j hj => absurd hj (Nat.not_lt_zero j)⟩) fun vs hI Z1 cE => ?_
 obtain ⟨i, rfl, hi, bn⟩ := hI
 simp only [go_sem,reduceIte,zA,zB,zC,zD,zE,zF,reduceCtorEq]
 refine aL (fun M6 => ?_) (fun M6 => ?_)
 ·have aF : i < 3 := by have := of_decide_eq_true M6; omega
  have ca := SX v i aF
  have hw := aC i (by omega)
  simp only [ca,hw,go_sem,reduceIte,zA,zB,zC,zD,zE,zF,reduceCtorEq]
  refine aL (fun SY => ?_) (fun SY => ?_)
  ·have ax : false = v.ok := by
    cases ho : v.ok with
    | false => rfl
    | true =>
     have h1 := v.BM.1 ho i aF
     unfold gk at h1
     simp only [Bool.and_eq_true,decide_eq_true_eq] at h1
     exfalso; simp_all <;> omega
   simp only [ca,hw,go_sem,reduceIte,zA,zB,zC,zD,zE,zF,reduceCtorEq]
   exact hK _ (congrArg bl ax)
  ·simp only [ca,hw,go_sem,reduceIte,zA,zB,zC,zD,zE,zF,reduceCtorEq]
   refine aL (fun lS => ?_) (fun lS => ?_)
   ·have ax : false = v.ok := by
     cases ho : v.ok with
     | false => rfl
     | true =>
      have h1 := v.BM.1 ho i aF
      unfold gk at h1
      simp only [Bool.and_eq_true,decide_eq_true_eq] at h1
      exfalso; simp_all <;> omega
    simp only [ca,hw,go_sem,reduceIte,zA,zB,zC,zD,zE,zF,reduceCtorEq]
    exact hK _ (congrArg bl ax)
   ·simp only [ca,hw,go_sem,reduceIte,zA,zB,zC,zD,zE,zF,reduceCtorEq]
    refine cE _ (eR (by omega) (by simp only [ca,hw,go_sem,reduceIte,zA,zB,zC,zD,zE,zF,reduceCtorEq]) ?_ ?_) <;> simp only [ja,lk,reduceIte,zE]
    ·refine ⟨i + 1, rfl, aF, fun j hj => ?_⟩
     rcases Nat.lt_or_ge j i with h | h
     ·exact bn j h
     ·obtain rfl : j = i := by omega
      unfold gk; simp_all <;> omega
    ·simp only [Go.Eng.intOf,List.headD_cons]; omega
 ·have dg : i = 3 := by have := of_decide_eq_false M6; omega
  subst dg
  have ax : true = v.ok := (v.BM.2 bn).symm
  simp only [go_sem,reduceIte,zA,zB,zC,zD,zE,zF,reduceCtorEq]
  exact hK _ (congrArg bl ax)
end Go.Proofs.YtnfeacnbgbggfaaGreatDoor
end

section
namespace Go.Proofs.YtnfeacnbgbggfaaGreatDoor
open Go.Eng
open Nat renaming reduceAdd → zA, reduceLT → zB, reduceLeDiff → zC, reduceMul → zD, reduceEqDiff → zE, reduceSub → zF
variable [aE]
set_option maxHeartbeats 4000000
set_option maxRecDepth 100000
def KX (l : List Int) : Int := (l.find? fun n => decide (n ≠ 0)).getD 0
theorem O9 {l : List Int} {i : Nat} {n : Int} (h : l[i]? = some n) (hn : n ≠ 0) (bn : ∀ j < i, ∀ m, l[j]? = some m → m = 0) : KX l = n := by
 unfold KX
 have : l.find? (fun n => decide (n ≠ 0)) = some n := by
  rw [List.find?_eq_some_iff_getElem]
  refine ⟨by simpa using hn, i, (List.getElem?_eq_some_iff.1 h).1, (List.getElem?_eq_some_iff.1 h).2, fun j hj => ?_⟩
  have := bn j hj _ (List.getElem?_eq_getElem (by have := (List.getElem?_eq_some_iff.1 h).1; omega))
  simpa using this
 rw [this]; rfl
theorem HL {l : List Int} (bn : ∀ j < l.length, ∀ m, l[j]? = some m → m = 0) : KX l = 0 := by
 unfold KX
 have : l.find? (fun n => decide (n ≠ 0)) = none := by
  rw [List.find?_eq_none]
  intro n hn
  obtain ⟨j, hj⟩ := List.mem_iff_getElem?.1 hn
  have := bn j (List.getElem?_eq_some_iff.1 hj).1 n hj
  simpa using this
 rw [this]; rfl
def Rl.cmp (a b : Rl) : Int := if zq a.path b.path ≠ 0 then zq a.path b.path else a.ay.cmp b.ay
theorem KY (a b : Int) : KX [a, b] = if a ≠ 0 then a else b := by
 unfold KX
 by_cases h : a = 0 <;> by_cases h2 : b = 0 <;> simp [h, h2]
theorem Dv (n : Int) : ∃ r_, (fun w => w = bl (false)) r_ ∧ aP Tryz.prog 158 [num n] r_ := by
 refine ek tt_ok [] 6 [.tmp 2] (fn := Tryz.f158) Tryz.func158 rfl Tryz.call158 ⟨rfl, rfl, by simp⟩ fun K hK => ?_
 simp only [go_sem,reduceIte,zA,zB,zC,zD,zE,zF,reduceCtorEq]
 exact hK _ (congrArg bl (by simp))
theorem Dw (s : ByteArray) : ∃ r_, (fun w => w = bl (false)) r_ ∧ aP Tryz.prog 135 [str s] r_ := by
 refine ek tt_ok [] 6 [.tmp 2] (fn := Tryz.f135) Tryz.func135 rfl Tryz.call135 ⟨rfl, rfl, by simp⟩ fun K hK => ?_
 simp only [go_sem,reduceIte,zA,zB,zC,zD,zE,zF,reduceCtorEq]
 exact hK _ (congrArg bl (by simp))
theorem KZ (a b : Int) : ∃ r_, (fun w => w = num (kL a b)) r_ ∧ aP Tryz.prog 136 [num a, num b] r_ := by
 refine ek tt_ok [] 20 [.tmp 4] (fn := Tryz.f136) Tryz.func136 rfl Tryz.call136 ⟨rfl, rfl, by simp⟩ fun K hK => ?_
 simp only [go_sem,reduceIte,zA,zB,zC,zD,zE,zF,reduceCtorEq]
 refine cF (Dv _) ?_
 rintro _ rfl
 simp only [go_sem,reduceIte,zA,zB,zC,zD,zE,zF,reduceCtorEq]
 refine cF (Dv _) ?_
 rintro _ rfl
 simp only [go_sem,reduceIte,zA,zB,zC,zD,zE,zF,reduceCtorEq]
 refine aL (fun kK => ?_) (fun kK => ?_)
 ·simp only [go_sem,reduceIte,zA,zB,zC,zD,zE,zF,reduceCtorEq]
  exact hK _ (congrArg num (by unfold kL; simp_all <;> omega))
 ·simp only [go_sem,reduceIte,zA,zB,zC,zD,zE,zF,reduceCtorEq]
  refine aL (fun tz => ?_) (fun tz => ?_)
  ·simp only [go_sem,reduceIte,zA,zB,zC,zD,zE,zF,reduceCtorEq]
   exact hK _ (congrArg num (by unfold kL; simp_all <;> omega))
  ·simp only [go_sem,reduceIte,zA,zB,zC,zD,zE,zF,reduceCtorEq]
   exact hK _ (congrArg num (by unfold kL; simp_all <;> omega))
theorem K0 (a b : ByteArray) : ∃ r_, (fun w => w = num (zq a b)) r_ ∧ aP Tryz.prog 111 [str a, str b] r_ := by
 refine ek tt_ok [] 20 [.tmp 4] (fn := Tryz.f111) Tryz.func111 rfl Tryz.call111 ⟨rfl, rfl, by simp⟩ fun K hK => ?_
 simp only [go_sem,reduceIte,zA,zB,zC,zD,zE,zF,reduceCtorEq]
 refine cF (Dw _) ?_
 rintro _ rfl
 simp only [go_sem,reduceIte,zA,zB,zC,zD,zE,zF,reduceCtorEq]
 refine cF (Dw _) ?_
 rintro _ rfl
 simp only [go_sem,reduceIte,zA,zB,zC,zD,zE,zF,reduceCtorEq]
 refine aL (fun kK => ?_) (fun kK => ?_)
 ·simp only [go_sem,reduceIte,zA,zB,zC,zD,zE,zF,reduceCtorEq]
  exact hK _ (congrArg num (by unfold zq vF; simp_all [bU]))
 ·simp only [go_sem,reduceIte,zA,zB,zC,zD,zE,zF,reduceCtorEq]
  refine aL (fun tz => ?_) (fun tz => ?_)
  ·simp only [go_sem,reduceIte,zA,zB,zC,zD,zE,zF,reduceCtorEq]
   exact hK _ (congrArg num (by unfold zq vF; simp_all [bU]))
  ·simp only [go_sem,reduceIte,zA,zB,zC,zD,zE,zF,reduceCtorEq]
   exact hK _ (congrArg num (by unfold zq vF; simp_all [bU]))
theorem SZ (l : List Int) (hl : l.length ≤ 1048576) : ∃ r_, (fun w => w = num (KX l)) r_ ∧ aP Tryz.prog 110 [.slice (l.map num)] r_ := by
 refine ek tt_ok [] 18 [.tmp 2] (fn := Tryz.f110) Tryz.func110 rfl Tryz.call110 ⟨rfl, rfl, by simp⟩ fun K hK => ?_
 simp only [List.length_map,go_sem,reduceIte,zA,zB,zC,zD,zE,zF,reduceCtorEq]
 refine bO tt_ok [] [8] 0 [3,6,7] (fun vs => ((l.length : Int) - Go.Eng.intOf (vs.headD .undef)).toNat) (fun vs => ∃ i : Nat, vs = [num i] ∧ i ≤ l.length ∧ ∀ j < i, ∀ m, l[j]? = some m → m = 0) (by omega) (by simp only [List.length_map,go_sem,reduceIte,zA,zB,zC,zD,zE,zF,reduceCtorEq]) (⟨0, rfl, Nat.zero_le _, fun j hj => absurd hj (Nat.not_lt_zero j)⟩) fun vs hI Z1 cE => ?_
 obtain ⟨i, rfl, hi, bn⟩ := hI
 simp only [List.length_map,go_sem,reduceIte,zA,zB,zC,zD,zE,zF,reduceCtorEq]
 refine aL (fun la => ?_) (fun la => ?_)
 ·have aF : i < l.length := by simpa using la
  have hw := aC i (by omega)
  obtain ⟨x, hx⟩ : ∃ x, l[i]? = some x := ⟨_, List.getElem?_eq_getElem aF⟩
  simp only [hw,List.getElem?_map,hx,List.length_map,go_sem,reduceIte,zA,zB,zC,zD,zE,zF,reduceCtorEq]
  refine aL (fun eY => ?_) (fun eY => ?_)
  ·have ax : x = KX l := (O9 hx (by simpa using eY) bn).symm
   simp only [hw,List.getElem?_map,hx,List.length_map,go_sem,reduceIte,zA,zB,zC,zD,zE,zF,reduceCtorEq]
   exact hK _ (congrArg num ax)
  ·simp only [hw,List.getElem?_map,hx,List.length_map,go_sem,reduceIte,zA,zB,zC,zD,zE,zF,reduceCtorEq]
   refine cE _ (eR (by omega) (by simp only [hw,List.getElem?_map,hx,List.length_map,go_sem,reduceIte,zA,zB,zC,zD,zE,zF,reduceCtorEq]) ?_ ?_) <;> simp only [ja,lk,reduceIte,zE]
   ·refine ⟨i + 1, rfl, aF, fun j hj => ?_⟩
    rcases Nat.lt_or_ge j i with h | h
    ·exact bn j h
    ·obtain rfl : j = i := by omega
     intro m hm
     rw [hx] at hm; cases hm; simpa using eY
   ·simp only [Go.Eng.intOf,List.headD_cons]; omega
 ·have dg : ¬ i < l.length := by simpa using la
  have ax : 0 = KX l := (HL fun j hj => bn j (by omega)).symm
  simp only [List.length_map,go_sem,reduceIte,zA,zB,zC,zD,zE,zF,reduceCtorEq]
  exact hK _ (congrArg num ax)
end Go.Proofs.YtnfeacnbgbggfaaGreatDoor
end

section
namespace Go.Proofs.YtnfeacnbgbggfaaGreatDoor
open Go.Eng
variable [aE]
theorem Wo {P : Program} {T : TypeId} (hT : P.underlying T = some .string) (d : Nat) (a b : ByteArray) : aD P (Op.equalIn (d + 1) T (.string a) (.string b)) = some (a == b) := by
 rw [Op.equalIn, aJ, cq hT]
 rfl
theorem HM {P : Program} {T : TypeId} (hT : P.underlying T = some (.int .i64)) (d : Nat) (a b : Int) : aD P (Op.equalIn (d + 1) T (.int .i64 a) (.int .i64 b)) = some (a == b) := by
 rw [Op.equalIn, aJ, cq hT]
 rfl
theorem Pa (d : Nat) (a b c e : Int) : aD Tryz.prog (Op.equalIn (d + 1 + 1) 78 (.agg #[.int .i64 a, .int .i64 b]) (.agg #[.int .i64 c, .int .i64 e])) = some (a == c && b == e) := by
 have q1 := HM Tryz.underlying3 d a c
 have q2 := HM Tryz.underlying3 d b e
 have hs : Tryz.prog.stoodInHeld 78 = false := by kernel_rfl
 have nw : ∀ x y, aD Tryz.prog (part 3 #[x, y] 0) = some x := fun x y => by kernel_rfl
 have oa : ∀ x y, aD Tryz.prog (part 3 #[x, y] 1) = some y := fun x y => by kernel_rfl
 rw [Op.equalIn, aJ, cq Tryz.underlying78]
 dsimp only [Option.bind_some]
 rw [aJ]
 show ((some Tryz.prog).bind _) = _
 rw [Option.bind_some, if_neg (by rw [hs]; simp)]
 rw [← Array.forIn_toList]
 have n1 : ("From" ≠ "_") := by decide
 have n2 : ("To" ≠ "_") := by decide
 have pr : ∀ {α : Type} (x : α), aD Tryz.prog (pure x : Sem α) = some x := fun x => rfl
 simp only [List.forIn_cons,List.forIn_nil,aJ,if_pos n1,if_pos n2,nw,oa,Option.bind_some,q1,pr]
 cases Zo : (a == c)
 ·simp [pr, Option.bind_some]
 ·simp only [Bool.not_true,Bool.false_eq_true,if_false,pr,Option.bind_some,aJ,if_pos n2,oa,q2,Bool.true_and]
  cases fS : (b == e) <;> simp [pr, aJ]
theorem HN (n : Nat) (a b c x y z : Int) : aD Tryz.prog (Op.equalIn (n + 1 + 1) 38 (.agg #[.int .i64 a, .int .i64 b, .int .i64 c]) (.agg #[.int .i64 x, .int .i64 y, .int .i64 z])) = some (a == x && (b == y && c == z)) := by
 have q1 := HM Tryz.underlying3 n a x
 have q2 := HM Tryz.underlying3 n b y
 have q3 := HM Tryz.underlying3 n c z
 have hs : Tryz.prog.stoodInHeld 38 = false := by kernel_rfl
 have nw : ∀ x y z, aD Tryz.prog (part 3 #[x, y, z] 0) = some x := fun x y z => by kernel_rfl
 have oa : ∀ x y z, aD Tryz.prog (part 3 #[x, y, z] 1) = some y := fun x y z => by kernel_rfl
 have Wp : ∀ x y z, aD Tryz.prog (part 3 #[x, y, z] 2) = some z := fun x y z => by kernel_rfl
 rw [Op.equalIn, aJ, cq Tryz.underlying38]
 dsimp only [Option.bind_some]
 rw [aJ]
 show ((some Tryz.prog).bind _) = _
 rw [Option.bind_some, if_neg (by rw [hs]; simp)]
 rw [← Array.forIn_toList]
 have n1 : ("Major" ≠ "_") := by decide
 have n2 : ("Minor" ≠ "_") := by decide
 have n3 : ("Patch" ≠ "_") := by decide
 have pr : ∀ {α : Type} (x : α), aD Tryz.prog (pure x : Sem α) = some x := fun x => rfl
 simp only [List.forIn_cons,List.forIn_nil,aJ,if_pos n1,if_pos n2,if_pos n3,nw,oa,Wp,Option.bind_some,q1,pr]
 cases h1 : (a == x)
 ·simp [pr, Option.bind_some]
 ·simp only [Bool.not_true,Bool.false_eq_true,if_false,pr,Option.bind_some,aJ,if_pos n2,if_pos n3,oa,Wp,q2,q3,Bool.true_and]
  cases h2 : (b == y)
  ·simp [pr, aJ]
  ·simp only [Bool.not_true,Bool.false_eq_true,if_false,pr,Option.bind_some,aJ,if_pos n3,Wp,q3,Bool.true_and]
   cases h3 : (c == z) <;> simp [pr, aJ]
theorem Pb (n : Nat) (s t : ByteArray) (a b c x y z : Int) : aD Tryz.prog (Op.equalIn (n + 1 + 1 + 1) 54 (.agg #[.string s, .int .i64 a, .int .i64 b, .int .i64 c]) (.agg #[.string t, .int .i64 x, .int .i64 y, .int .i64 z])) = some (s == t && (a == x && (b == y && c == z))) := by
 have q1 := Wo Tryz.underlying9 (n + 1) s t
 have q2 := HN n a b c x y z
 have hs : Tryz.prog.stoodInHeld 54 = false := by kernel_rfl
 have nw : ∀ x y z u, aD Tryz.prog (part 9 #[x, y, z, u] 0) = some x := fun x y z u => by kernel_rfl
 have oa : ∀ x y z u, aD Tryz.prog (part 38 #[x, y, z, u] 1) = some (.agg #[y, z, u]) := fun x y z u => by kernel_rfl
 rw [Op.equalIn, aJ, cq Tryz.underlying54]
 dsimp only [Option.bind_some]
 rw [aJ]
 show ((some Tryz.prog).bind _) = _
 rw [Option.bind_some, if_neg (by rw [hs]; simp)]
 rw [← Array.forIn_toList]
 have n1 : ("Path" ≠ "_") := by decide
 have n2 : ("Version" ≠ "_") := by decide
 have pr : ∀ {α : Type} (x : α), aD Tryz.prog (pure x : Sem α) = some x := fun x => rfl
 simp only [List.forIn_cons,List.forIn_nil,aJ,if_pos n1,if_pos n2,nw,oa,Option.bind_some,q1,pr]
 cases Zo : (s == t)
 ·simp [pr, Option.bind_some]
 ·simp only [Bool.not_true,Bool.false_eq_true,if_false,pr,Option.bind_some,aJ,if_pos n2,oa,q2,Bool.true_and]
  cases fS : (a == x && (b == y && c == z)) <;> simp [pr, aJ]
theorem Wq (u v : br) : aD Tryz.prog (Op.equal 78 (.agg #[.int .i64 u.lo, .int .i64 u.hi]) (.agg #[.int .i64 v.lo, .int .i64 v.hi])) = some (decide (u = v)) := by
 rw [show Op.equal 78 = Op.equalIn (9998 + 1 + 1) 78 from rfl, Pa]
 congr 1
 rw [Bool.eq_iff_iff]
 simp only [Bool.and_eq_true,beq_iff_eq,decide_eq_true_eq]
 exact ⟨fun h => br.ext' h.1 h.2, fun h => by subst h; exact ⟨rfl, rfl⟩⟩
theorem Wr (u v : fA) : aD Tryz.prog (Op.equal 38 (.agg #[.int .i64 u.mj, .int .i64 u.mn, .int .i64 u.pt]) (.agg #[.int .i64 v.mj, .int .i64 v.mn, .int .i64 v.pt])) = some (decide (u = v)) := by
 rw [show Op.equal 38 = Op.equalIn (9998 + 1 + 1) 38 from rfl, HN]
 congr 1
 rw [Bool.eq_iff_iff]
 simp only [Bool.and_eq_true,beq_iff_eq,decide_eq_true_eq]
 exact ⟨fun h => fA.ext' h.1 h.2.1 h.2.2, fun h => by subst h; exact ⟨rfl, rfl, rfl⟩⟩
def aN (s : gR) : Value := .agg #[.string s.path, .int .i64 s.ay.mj, .int .i64 s.ay.mn, .int .i64 s.ay.pt]
theorem S0 (u v : gR) : aD Tryz.prog (Op.equal 54 (aN u) (aN v)) = some (decide (u = v)) := by
 unfold aN
 rw [show Op.equal 54 = Op.equalIn (9997 + 1 + 1 + 1) 54 from rfl, Pb]
 congr 1
 rw [Bool.eq_iff_iff]
 simp only [Bool.and_eq_true,beq_iff_eq,decide_eq_true_eq,im]
 exact ⟨fun h => gR.ext' h.1 (fA.ext' h.2.1 h.2.2.1 h.2.2.2), fun h => by subst h; exact ⟨rfl, rfl, rfl, rfl⟩⟩
theorem bA (x y : Operand) (u v : br) : aQ Tryz.prog (fq .neq 78 x y) (.agg [num u.lo, num u.hi]) (.agg [num v.lo, num v.hi]) = some (bl (!decide (u = v))) := by
 have : aD Tryz.prog (do eqGuard .neq 78 x y (.agg #[.int .i64 u.lo, .int .i64 u.hi]) (.agg #[.int .i64 v.lo, .int .i64 v.hi]); binOp .neq 78 (.agg #[.int .i64 u.lo, .int .i64 u.hi]) (.agg #[.int .i64 v.lo, .int .i64 v.hi])) = some (.bool (!decide (u = v))) := by
  have hg : aD Tryz.prog (eqGuard .neq 78 x y (.agg #[.int .i64 u.lo, .int .i64 u.hi]) (.agg #[.int .i64 v.lo, .int .i64 v.hi])) = some () := by kernel_rfl
  rw [aJ, hg, Option.bind_some]
  have hb : ∀ u v : Array Value, binOp .neq 78 (.agg u) (.agg v) = (Op.equal 78 (.agg u) (.agg v) >>= fun r => Pure.pure (Value.bool !r)) := fun u v => rfl
  rw [hb, aJ, Wq]; rfl
 simp only [aQ,bp,oc,fq]
 rw [this]; rfl
theorem df (x y : Operand) (u v : fA) : aQ Tryz.prog (fq .eql 38 x y) (.agg [num u.mj, num u.mn, num u.pt]) (.agg [num v.mj, num v.mn, num v.pt]) = some (bl (decide (u = v))) := by
 have : aD Tryz.prog (do eqGuard .eql 38 x y (.agg #[.int .i64 u.mj, .int .i64 u.mn, .int .i64 u.pt]) (.agg #[.int .i64 v.mj, .int .i64 v.mn, .int .i64 v.pt]); binOp .eql 38 (.agg #[.int .i64 u.mj, .int .i64 u.mn, .int .i64 u.pt]) (.agg #[.int .i64 v.mj, .int .i64 v.mn, .int .i64 v.pt])) = some (.bool (decide (u = v))) := by
  have hg : aD Tryz.prog (eqGuard .eql 38 x y (.agg #[.int .i64 u.mj, .int .i64 u.mn, .int .i64 u.pt]) (.agg #[.int .i64 v.mj, .int .i64 v.mn, .int .i64 v.pt])) = some () := by kernel_rfl
  rw [aJ, hg, Option.bind_some]
  have hb : ∀ u v : Array Value, binOp .eql 38 (.agg u) (.agg v) = (Op.equal 38 (.agg u) (.agg v) >>= fun r => Pure.pure (Value.bool r)) := fun u v => rfl
  rw [hb, aJ, Wr]; rfl
 simp only [aQ,bp,oc,fq]
 rw [this]; rfl
theorem HO (x y : Operand) (u v : gR) : aQ Tryz.prog (fq .eql 54 x y) (.agg [str u.path, num u.ay.mj, num u.ay.mn, num u.ay.pt]) (.agg [str v.path, num v.ay.mj, num v.ay.mn, num v.ay.pt]) = some (bl (decide (u = v))) := by
 have : aD Tryz.prog (do eqGuard .eql 54 x y (aN u) (aN v); binOp .eql 54 (aN u) (aN v)) = some (.bool (decide (u = v))) := by
  have hg : aD Tryz.prog (eqGuard .eql 54 x y (aN u) (aN v)) = some () := by unfold aN; kernel_rfl
  rw [aJ, hg, Option.bind_some]
  have hb : ∀ u v : Array Value, binOp .eql 54 (.agg u) (.agg v) = (Op.equal 54 (.agg u) (.agg v) >>= fun r => Pure.pure (Value.bool r)) := fun u v => rfl
  unfold aN
  rw [hb, aJ]
  have := S0 u v
  unfold aN at this
  rw [this]; rfl
 unfold aN at this
 simp only [aQ,bp,oc,fq]
 rw [this]; rfl
end Go.Proofs.YtnfeacnbgbggfaaGreatDoor
end

section
namespace Go.Proofs.YtnfeacnbgbggfaaGreatDoor
open Go.Eng
open Nat renaming reduceAdd → zA, reduceLT → zB, reduceLeDiff → zC, reduceMul → zD, reduceEqDiff → zE, reduceSub → zF
variable [aE]
set_option maxHeartbeats 4000000
set_option maxRecDepth 100000
def fA.pl (v : fA) : Int := if v.ok = true then v.place else 0
def oX (p : Int) (x : br) : Bool := decide (x.lo ≤ p) && decide (p < x.hi)
theorem BN {α : Type} {q : α → Bool} {l : List α} {i : Nat} {x : α} (h : l[i]? = some x) (hq : q x = true) : l.any q = true := List.any_eq_true.2 ⟨x, List.mem_of_getElem? h, hq⟩
theorem any_none {α : Type} {q : α → Bool} {l : List α} (h : ∀ j < l.length, ∀ x, l[j]? = some x → q x = false) : l.any q = false := by
 rw [List.any_eq_false]
 intro x hx
 obtain ⟨j, hj⟩ := List.mem_iff_getElem?.1 hx
 rw [h j (List.getElem?_eq_some_iff.1 hj).1 x hj]; simp
theorem has_eq (s : List br) (p : Int) : has s p = (decide (0 ≤ p) && decide (p < 1000000) && s.any (oX p)) := rfl
theorem nI {α : Type} {xs ys : List α} (hl : xs.length = ys.length) (h : ∀ j < xs.length, xs[j]? = ys[j]?) : xs = ys := by
 apply List.ext_getElem?
 intro j
 rcases Nat.lt_or_ge j xs.length with hj | hj
 ·exact h j hj
 ·rw [List.getElem?_eq_none hj, List.getElem?_eq_none (by omega)]
theorem kM (r : Rl) : ∃ r_, (fun w => w = bh r.key) r_ ∧ aP Tryz.prog 47 [af r] r_ := by
 refine ek tt_ok [] 8 [.cell 2 54] (fn := Tryz.f47) Tryz.func47 rfl Tryz.call47 ⟨rfl, rfl, by simp⟩ fun K hK => ?_
 simp only [af,ag]
 simp only [go_sem,reduceIte,zA,zB,zC,zD,zE,zF,reduceCtorEq]
 exact hK _ rfl
theorem E6 (v : fA) : ∃ r_, (fun w => w = .bt [num v.pl, num (if v.ok = true then 0 else 2)]) r_ ∧ aP Tryz.prog 25 [dI v] r_ := by
 refine ek tt_ok [] 13 [.tmp 2, .tmp 3] (fn := Tryz.f25) Tryz.func25 rfl Tryz.call25 ⟨rfl, rfl, by simp⟩ fun K hK => ?_
 simp only [dI]
 simp only [go_sem,reduceIte,zA,zB,zC,zD,zE,zF,reduceCtorEq]
 refine cF (by have h := zr v; simp only [dI] at h; exact h) ?_
 rintro _ rfl
 simp only [go_sem,reduceIte,zA,zB,zC,zD,zE,zF,reduceCtorEq]
 refine aL (fun BO => ?_) (fun BO => ?_)
 ·have ho : v.ok = false := by simpa using BO
  have hp : v.pl = 0 := by unfold fA.pl; rw [ho]; rfl
  simp only [go_sem,reduceIte,zA,zB,zC,zD,zE,zF,reduceCtorEq]
  refine hK _ ?_
  rw [hp, ho]
  rfl
 ·have ho : v.ok = true := by simpa using BO
  have hp : v.pl = v.place := if_pos ho
  obtain ⟨w1, w2, -, -⟩ := nH ho
  simp only [w1,w2,go_sem,reduceIte,zA,zB,zC,zD,zE,zF,reduceCtorEq]
  refine hK _ ?_
  rw [hp, ho]
  rfl
theorem iN (r : Rl) : ∃ r_, (fun w => w = num (r.ay.pl)) r_ ∧ aP Tryz.prog 48 [af r] r_ := by
 refine ek tt_ok [] 12 [.tmp 2] (fn := Tryz.f48) Tryz.func48 rfl Tryz.call48 ⟨rfl, rfl, by simp⟩ fun K hK => ?_
 simp only [af,ag]
 simp only [go_sem,reduceIte,zA,zB,zC,zD,zE,zF,reduceCtorEq]
 refine cF (by have h := E6 r.ay; simp only [dI] at h; exact h) ?_
 rintro _ rfl
 simp only [go_sem,reduceIte,zA,zB,zC,zD,zE,zF,reduceCtorEq]
 exact hK _ rfl
theorem K1 (p : Int) (x : br) : ∃ r_, (fun w => w = bl (oX p x)) r_ ∧ aR Tryz.prog 81 [aj x, .ptr 0 0] ([.box [num p]]) r_ ([.box [num p]]) := by
 refine F5 tt_ok [] 14 [.tmp 3] (fn := Tryz.f81) Tryz.func81 rfl Tryz.call81 ⟨rfl, rfl, by simp⟩ fun K hK => ?_
 simp only [aj]
 simp only [go_sem,reduceIte,zA,zB,zC,zD,zE,zF,reduceCtorEq]
 refine aL (fun S2 => ?_) (fun S2 => ?_)
 ·simp only [go_sem,reduceIte,zA,zB,zC,zD,zE,zF,reduceCtorEq]
  refine hK _ _ ⟨congrArg bl ?_, rfl⟩
  unfold oX; simp_all <;> (intros; omega)
 ·simp only [go_sem,reduceIte,zA,zB,zC,zD,zE,zF,reduceCtorEq]
  refine hK _ _ ⟨congrArg bl ?_, rfl⟩
  unfold oX; simp_all <;> (intros; omega)
theorem E7 (p : Int) (s : List br) (hl : s.length ≤ 1048576) : ∃ r_, (fun w => ∃ k : Int, w = num k ∧ decide (0 ≤ k) = s.any (oX p)) r_ ∧ aR Tryz.prog 115 [al s, .fU (.func 81) [] [.ptr 0 0]] ([.box [num p]]) r_ ([.box [num p]]) := by
 refine F5 tt_ok [] 19 [.tmp 4] (fn := Tryz.f115) Tryz.func115 rfl Tryz.call115 ⟨rfl, rfl, by simp⟩ fun K hK => ?_
 simp only [al]
 simp only [List.length_map,go_sem,reduceIte,zA,zB,zC,zD,zE,zF,reduceCtorEq]
 refine bO tt_ok [] [8] 1 [0,1,7] (fun vs => ((s.length : Int) - Go.Eng.intOf (vs.headD .undef)).toNat) (fun vs => ∃ i : Nat, vs = [num i] ∧ i ≤ s.length ∧ ∀ j < i, ∀ x, s[j]? = some x → oX p x = false) (by omega) (by simp only [List.length_map,go_sem,reduceIte,zA,zB,zC,zD,zE,zF,reduceCtorEq]) (⟨0, rfl, Nat.zero_le _, fun j hj => absurd hj (Nat.not_lt_zero j)⟩) fun vs hI Z1 cE => ?_
 obtain ⟨i, rfl, hi, bn⟩ := hI
 simp only [List.length_map,go_sem,reduceIte,zA,zB,zC,zD,zE,zF,reduceCtorEq]
 refine aL (fun la => ?_) (fun la => ?_)
 ·have aF : i < s.length := by simpa using la
  have hw := aC i (by omega)
  obtain ⟨x, hx⟩ : ∃ x, s[i]? = some x := ⟨_, List.getElem?_eq_getElem aF⟩
  simp only [hw,List.getElem?_map,hx,aj,List.length_map,go_sem,reduceIte,zA,zB,zC,zD,zE,zF,reduceCtorEq]
  refine cS (by have h := K1 p x; simp only [aj] at h; exact h) ?_
  rintro _ rfl
  simp only [hw,List.getElem?_map,hx,aj,List.length_map,go_sem,reduceIte,zA,zB,zC,zD,zE,zF,reduceCtorEq]
  refine aL (fun kK => ?_) (fun kK => ?_)
  ·have ax : decide (0 ≤ (i : Int)) = s.any (oX p) := by rw [BN hx kK]; exact decide_eq_true (Int.natCast_nonneg i)
   simp only [hw,List.getElem?_map,hx,aj,List.length_map,go_sem,reduceIte,zA,zB,zC,zD,zE,zF,reduceCtorEq]
   exact hK _ _ ⟨⟨_, rfl, ax⟩, rfl⟩
  ·simp only [hw,List.getElem?_map,hx,aj,List.length_map,go_sem,reduceIte,zA,zB,zC,zD,zE,zF,reduceCtorEq]
   refine cE _ (eR (by omega) (by simp only [hw,List.getElem?_map,hx,aj,List.length_map,go_sem,reduceIte,zA,zB,zC,zD,zE,zF,reduceCtorEq]) ?_ ?_) <;> simp only [ja,lk,reduceIte,zE]
   ·refine ⟨i + 1, rfl, aF, fun j hj => ?_⟩
    rcases Nat.lt_or_ge j i with h | h
    ·exact bn j h
    ·obtain rfl : j = i := by omega
     intro y hy
     rw [hx] at hy; cases hy; exact kK
   ·simp only [Go.Eng.intOf,List.headD_cons]; omega
 ·have dg : ¬ i < s.length := by simpa using la
  have ax : decide (0 ≤ (-1 : Int)) = s.any (oX p) := (any_none fun j hj => bn j (by omega)).symm ▸ rfl
  simp only [List.length_map,go_sem,reduceIte,zA,zB,zC,zD,zE,zF,reduceCtorEq]
  exact hK _ _ ⟨⟨_, rfl, ax⟩, rfl⟩
theorem E8 (p : Int) (s : List br) (hl : s.length ≤ 1048576) : ∃ r_, (fun w => w = bl (s.any (oX p))) r_ ∧ aR Tryz.prog 80 [al s, .fU (.func 81) [] [.ptr 0 0]] ([.box [num p]]) r_ ([.box [num p]]) := by
 refine F5 tt_ok [] 9 [.tmp 4] (fn := Tryz.f80) Tryz.func80 rfl Tryz.call80 ⟨rfl, rfl, by simp⟩ fun K hK => ?_
 simp only [al]
 simp only [go_sem,reduceIte,zA,zB,zC,zD,zE,zF,reduceCtorEq]
 refine cS (by have h := E7 p s hl; simp only [al] at h; exact h) ?_
 rintro _ ⟨k, rfl, hk⟩
 simp only [go_sem,reduceIte,zA,zB,zC,zD,zE,zF,reduceCtorEq]
 exact hK _ _ ⟨congrArg bl hk, rfl⟩
theorem BP (s : List br) (p : Int) (hl : s.length ≤ 1048576) : ∃ r_, (fun w => w = bl (has s p)) r_ ∧ aP Tryz.prog 28 [al s, num p] r_ := by
 refine ek tt_ok [] 16 [.tmp 4] (fn := Tryz.f28) Tryz.func28 rfl Tryz.call28 ⟨rfl, rfl, by simp⟩ fun K hK => ?_
 simp only [al]
 simp only [go_sem,reduceIte,zA,zB,zC,zD,zE,zF,reduceCtorEq]
 refine aL (fun dS => ?_) (fun dS => ?_)
 ·simp only [go_sem,reduceIte,zA,zB,zC,zD,zE,zF,reduceCtorEq]
  refine aL (fun zp => ?_) (fun zp => ?_)
  ·simp only [go_sem,reduceIte,zA,zB,zC,zD,zE,zF,reduceCtorEq]
   refine cS (by have h := E8 p s hl; simp only [al] at h; exact h) ?_
   rintro _ rfl
   simp only [go_sem,reduceIte,zA,zB,zC,zD,zE,zF,reduceCtorEq]
   refine hK _ (congrArg bl ?_)
   rw [has_eq]; simp_all <;> (intros; omega)
  ·simp only [go_sem,reduceIte,zA,zB,zC,zD,zE,zF,reduceCtorEq]
   refine hK _ (congrArg bl ?_)
   rw [has_eq]; simp_all <;> (intros; omega)
 ·simp only [go_sem,reduceIte,zA,zB,zC,zD,zE,zF,reduceCtorEq]
  refine hK _ (congrArg bl ?_)
  rw [has_eq]; simp_all <;> (intros; omega)
theorem tA (n : Int) : ∃ r_, (fun w => w = bl (gk n)) r_ ∧ aP Tryz.prog 121 [num n] r_ := by
 refine ek tt_ok [] 9 [.tmp 2] (fn := Tryz.f121) Tryz.func121 rfl Tryz.call121 ⟨rfl, rfl, by simp⟩ fun K hK => ?_
 simp only [go_sem,reduceIte,zA,zB,zC,zD,zE,zF,reduceCtorEq]
 refine aL (fun dS => ?_) (fun dS => ?_)
 ·simp only [go_sem,reduceIte,zA,zB,zC,zD,zE,zF,reduceCtorEq]
  exact hK _ (congrArg bl (by unfold gk; simp_all <;> (intros; omega)))
 ·simp only [go_sem,reduceIte,zA,zB,zC,zD,zE,zF,reduceCtorEq]
  exact hK _ (congrArg bl (by unfold gk; simp_all <;> (intros; omega)))
theorem E9 (v : fA) : ∃ r_, (fun w => w = bl (v.ok)) r_ ∧ aP Tryz.prog 94 [dI v] r_ := by
 refine ek tt_ok [] 16 [.tmp 2] (fn := Tryz.f94) Tryz.func94 rfl Tryz.call94 ⟨rfl, rfl, by simp⟩ fun K hK => ?_
 simp only [dI]
 simp only [go_sem,reduceIte,zA,zB,zC,zD,zE,zF,reduceCtorEq]
 refine cF (tA _) ?_
 rintro _ rfl
 simp only [go_sem,reduceIte,zA,zB,zC,zD,zE,zF,reduceCtorEq]
 refine aL (fun ra => ?_) (fun ra => ?_)
 ·simp only [go_sem,reduceIte,zA,zB,zC,zD,zE,zF,reduceCtorEq]
  refine cF (tA _) ?_
  rintro _ rfl
  simp only [go_sem,reduceIte,zA,zB,zC,zD,zE,zF,reduceCtorEq]
  refine aL (fun vG => ?_) (fun vG => ?_)
  ·simp only [go_sem,reduceIte,zA,zB,zC,zD,zE,zF,reduceCtorEq]
   refine cF (tA _) ?_
   rintro _ rfl
   simp only [go_sem,reduceIte,zA,zB,zC,zD,zE,zF,reduceCtorEq]
   exact hK _ (congrArg bl (by unfold fA.ok; simp_all))
  ·simp only [go_sem,reduceIte,zA,zB,zC,zD,zE,zF,reduceCtorEq]
   exact hK _ (congrArg bl (by unfold fA.ok; simp_all))
 ·simp only [go_sem,reduceIte,zA,zB,zC,zD,zE,zF,reduceCtorEq]
  exact hK _ (congrArg bl (by unfold fA.ok; simp_all))
theorem xm (s t : List br) (hl : s.length ≤ 1048576) : ∃ r_, (fun w => w = bl (decide (s = t))) r_ ∧ aP Tryz.prog 42 [al s, al t] r_ := by
 refine ek tt_ok [] 26 [.tmp 4] (fn := Tryz.f42) Tryz.func42 rfl Tryz.call42 ⟨rfl, rfl, by simp⟩ fun K hK => ?_
 simp only [al]
 simp only [List.length_map,bA,go_sem,reduceIte,zA,zB,zC,zD,zE,zF,reduceCtorEq]
 refine aL (fun eL => ?_) (fun eL => ?_)
 ·have ax : false = decide (s = t) := by
   refine (decide_eq_false fun e => ?_).symm
   subst e; simp at eL
  simp only [List.length_map,bA,go_sem,reduceIte,zA,zB,zC,zD,zE,zF,reduceCtorEq]
  exact hK _ (congrArg bl ax)
 ·have lq : s.length = t.length := by have := eL; simp at this; omega
  simp only [List.length_map,bA,go_sem,reduceIte,zA,zB,zC,zD,zE,zF,reduceCtorEq]
  refine bO tt_ok [] [5] 0 [0,1,10] (fun vs => ((s.length : Int) - Go.Eng.intOf (vs.headD .undef)).toNat) (fun vs => ∃ i : Nat, vs = [num i] ∧ i ≤ s.length ∧ ∀ j < i, s[j]? = t[j]?) (by omega) (by simp only [List.length_map,bA,go_sem,reduceIte,zA,zB,zC,zD,zE,zF,reduceCtorEq]) (⟨0, rfl, Nat.zero_le _, fun j hj => absurd hj (Nat.not_lt_zero j)⟩) fun vs hI Z1 cE => ?_
  obtain ⟨i, rfl, hi, bn⟩ := hI
  simp only [List.length_map,bA,go_sem,reduceIte,zA,zB,zC,zD,zE,zF,reduceCtorEq]
  refine aL (fun eY => ?_) (fun eY => ?_)
  ·have aF : i < s.length := by simpa using eY
   have hw := aC i (by omega)
   obtain ⟨x, hx⟩ : ∃ x, s[i]? = some x := ⟨_, List.getElem?_eq_getElem aF⟩
   obtain ⟨y, hy⟩ : ∃ y, t[i]? = some y := ⟨_, List.getElem?_eq_getElem (by omega)⟩
   simp only [hw,List.getElem?_map,hx,hy,aj,List.length_map,bA,go_sem,reduceIte,zA,zB,zC,zD,zE,zF,reduceCtorEq]
   refine bH tt_ok aK [⟨.n, 0, [], [], []⟩, ⟨.n, 0, [], [], []⟩, ⟨.r, 0, [], [], []⟩, ⟨.r, 0, [], [], []⟩, ⟨.n, 0, [], [], []⟩, ⟨.n, 0, [], [], []⟩, ⟨.r, 0, [], [], []⟩, ⟨.r, 0, [], [], []⟩, ⟨.n, 0, [], [], []⟩] 0 (by kernel_rfl) ?_
   simp only [hw,List.getElem?_map,hx,hy,aj,List.length_map,bA,go_sem,reduceIte,zA,zB,zC,zD,zE,zF,reduceCtorEq]
   refine aL (fun fu => ?_) (fun fu => ?_)
   ·have ax : false = decide (s = t) := by
     refine (decide_eq_false fun e => ?_).symm
     subst e; rw [hx] at hy; cases hy; simp at fu
    simp only [hw,List.getElem?_map,hx,hy,aj,List.length_map,bA,go_sem,reduceIte,zA,zB,zC,zD,zE,zF,reduceCtorEq]
    exact hK _ (congrArg bl ax)
   ·simp only [hw,List.getElem?_map,hx,hy,aj,List.length_map,bA,go_sem,reduceIte,zA,zB,zC,zD,zE,zF,reduceCtorEq]
    refine cE _ (eR (by omega) (by simp only [hw,List.getElem?_map,hx,hy,aj,List.length_map,bA,go_sem,reduceIte,zA,zB,zC,zD,zE,zF,reduceCtorEq]) ?_ ?_) <;> simp only [ja,lk,reduceIte,zE]
    ·refine ⟨i + 1, rfl, aF, fun j hj => ?_⟩
     rcases Nat.lt_or_ge j i with h | h
     ·exact bn j h
     ·obtain rfl : j = i := by omega
      rw [hx, hy]
      have := fu
      simp_all
    ·simp only [Go.Eng.intOf,List.headD_cons]; omega
  ·have dg : ¬ i < s.length := by simpa using eY
   have ax : true = decide (s = t) := (decide_eq_true (nI lq fun j hj => bn j (by omega))).symm
   simp only [List.length_map,bA,go_sem,reduceIte,zA,zB,zC,zD,zE,zF,reduceCtorEq]
   exact hK _ (congrArg bl ax)
theorem zt (s t : List br) (hl : s.length ≤ 1048576) : ∃ r_, (fun w => w = bl (decide (s = t))) r_ ∧ aP Tryz.prog 157 [al s, al t] r_ := by
 refine ek tt_ok [] 26 [.tmp 4] (fn := Tryz.f157) Tryz.func157 rfl Tryz.call157 ⟨rfl, rfl, by simp⟩ fun K hK => ?_
 simp only [al]
 simp only [List.length_map,bA,go_sem,reduceIte,zA,zB,zC,zD,zE,zF,reduceCtorEq]
 refine aL (fun eL => ?_) (fun eL => ?_)
 ·have ax : false = decide (s = t) := by
   refine (decide_eq_false fun e => ?_).symm
   subst e; simp at eL
  simp only [List.length_map,bA,go_sem,reduceIte,zA,zB,zC,zD,zE,zF,reduceCtorEq]
  exact hK _ (congrArg bl ax)
 ·have lq : s.length = t.length := by have := eL; simp at this; omega
  simp only [List.length_map,bA,go_sem,reduceIte,zA,zB,zC,zD,zE,zF,reduceCtorEq]
  refine bO tt_ok [] [13] 0 [0,1,10,12] (fun vs => ((s.length : Int) - Go.Eng.intOf (vs.headD .undef)).toNat) (fun vs => ∃ i : Nat, vs = [num i] ∧ i ≤ s.length ∧ ∀ j < i, s[j]? = t[j]?) (by omega) (by simp only [List.length_map,bA,go_sem,reduceIte,zA,zB,zC,zD,zE,zF,reduceCtorEq]) (⟨0, rfl, Nat.zero_le _, fun j hj => absurd hj (Nat.not_lt_zero j)⟩) fun vs hI Z1 cE => ?_
  obtain ⟨i, rfl, hi, bn⟩ := hI
  simp only [List.length_map,bA,go_sem,reduceIte,zA,zB,zC,zD,zE,zF,reduceCtorEq]
  refine aL (fun eY => ?_) (fun eY => ?_)
  ·have aF : i < s.length := by simpa using eY
   have hw := aC i (by omega)
   obtain ⟨x, hx⟩ : ∃ x, s[i]? = some x := ⟨_, List.getElem?_eq_getElem aF⟩
   obtain ⟨y, hy⟩ : ∃ y, t[i]? = some y := ⟨_, List.getElem?_eq_getElem (by omega)⟩
   simp only [hw,List.getElem?_map,hx,hy,aj,List.length_map,bA,go_sem,reduceIte,zA,zB,zC,zD,zE,zF,reduceCtorEq]
   refine bH tt_ok aK [⟨.n, 0, [], [], []⟩, ⟨.n, 0, [], [], []⟩, ⟨.r, 0, [], [], []⟩, ⟨.r, 0, [], [], []⟩, ⟨.n, 0, [], [], []⟩, ⟨.n, 0, [], [], []⟩, ⟨.r, 0, [], [], []⟩, ⟨.r, 0, [], [], []⟩, ⟨.n, 0, [], [], []⟩] 0 (by kernel_rfl) ?_
   simp only [hw,List.getElem?_map,hx,hy,aj,List.length_map,bA,go_sem,reduceIte,zA,zB,zC,zD,zE,zF,reduceCtorEq]
   refine aL (fun uQ => ?_) (fun uQ => ?_)
   ·have ax : false = decide (s = t) := by
     refine (decide_eq_false fun e => ?_).symm
     subst e; rw [hx] at hy; cases hy; simp at uQ
    simp only [hw,List.getElem?_map,hx,hy,aj,List.length_map,bA,go_sem,reduceIte,zA,zB,zC,zD,zE,zF,reduceCtorEq]
    exact hK _ (congrArg bl ax)
   ·simp only [hw,List.getElem?_map,hx,hy,aj,List.length_map,bA,go_sem,reduceIte,zA,zB,zC,zD,zE,zF,reduceCtorEq]
    refine cE _ (eR (by omega) (by simp only [hw,List.getElem?_map,hx,hy,aj,List.length_map,bA,go_sem,reduceIte,zA,zB,zC,zD,zE,zF,reduceCtorEq]) ?_ ?_) <;> simp only [ja,lk,reduceIte,zE]
    ·refine ⟨i + 1, rfl, aF, fun j hj => ?_⟩
     rcases Nat.lt_or_ge j i with h | h
     ·exact bn j h
     ·obtain rfl : j = i := by omega
      rw [hx, hy]
      have := uQ
      simp_all
    ·simp only [Go.Eng.intOf,List.headD_cons]; omega
  ·have dg : ¬ i < s.length := by simpa using eY
   have ax : true = decide (s = t) := (decide_eq_true (nI lq fun j hj => bn j (by omega))).symm
   simp only [List.length_map,bA,go_sem,reduceIte,zA,zB,zC,zD,zE,zF,reduceCtorEq]
   exact hK _ (congrArg bl ax)
end Go.Proofs.YtnfeacnbgbggfaaGreatDoor
end
