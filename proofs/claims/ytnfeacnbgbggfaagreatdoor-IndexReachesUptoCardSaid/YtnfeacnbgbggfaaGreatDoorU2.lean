/-
  READINGS: what the reading of an argument (DataW.trod) says of its cells, for types made of truth values, integers, strings, slices, structures.
  READINGS, B: the abstract values that a reading gives.
  PLAIN LAWS of chapter 32: sets of places, releases, what roots reach, canonical bytes. No program in sight.
  ENCODINGS of chapter 32's data.
  CONTRACTS: bytes of names, exactly.
  CONTRACTS: versions, places.
  CONTRACTS: comparing.
  EQUALITY of structs of chapter 32: spans, numbers, what is selected.
  CONTRACTS: releases: keys, places; sets of places.
-/
import Derived.Test.YtnfeacnbgbggfaaGreatDoorU1
import Derived.Test.YtnfeacnbgbggfaaGreatDoorRows
import Derived.Sort.Walk0
set_option linter.all false
section
namespace Go.Proofs.YtnfeacnbgbggfaaGreatDoor
open Go.Eng
variable [aE]
section
variable {H : Type} {enc : TypeId × Value → H} {P : Program} {w : World} {sp : Nat → Bool} {held : Bool} {f : Nat} {T : TypeId} {cs : List Value} {d : DataW H} {p : List MemPlace}
theorem trod_bool (hT : P.underlying T = some .bool) (h : DataW.trod enc P w 0 sp held (f + 1) T cs = some (d, p)) : ∃ b, cs = [.bool b] ∧ d = .lit (.bool b) := by
 unfold DataW.trod at h
 rw [hT] at h
 split at h <;> simp_all
theorem trod_int {k : IntKind} (hT : P.underlying T = some (.int k)) (h : DataW.trod enc P w 0 sp held (f + 1) T cs = some (d, p)) : ∃ n, cs = [.int k n] ∧ d = .lit (.int k n) := by
 unfold DataW.trod at h
 rw [hT] at h
 split at h <;> simp_all
theorem trod_string (hT : P.underlying T = some .string) (h : DataW.trod enc P w 0 sp held (f + 1) T cs = some (d, p)) : ∃ s, cs = [.string s] ∧ d = .lit (.string s.data.toList) := by
 unfold DataW.trod at h
 rw [hT] at h
 split at h <;> simp_all
theorem oK {α β : Type} {g : α → Option β} : ∀ {l : List α} {r : List β}, l.mapM g = some r → r.length = l.length ∧ ∀ (i : Nat) (b : β), r[i]? = some b → ∃ a : α, l[i]? = some a ∧ g a = some b
 | [], r, h => by simp at h; subst h; simp
 | a :: l, r, h => by
  rw [List.mapM_cons] at h
  cases h1 : g a with
  | none => rw [h1] at h; simp at h
  | some b =>
   rw [h1] at h
   cases h2 : l.mapM g with
   | none => rw [h2] at h; simp at h
   | some r' =>
    rw [h2] at h
    simp at h
    subst h
    obtain ⟨e1, e2⟩ := oK h2
    refine ⟨by simp [e1], fun i b' hb => ?_⟩
    cases i with
    | zero => simp at hb; subst hb; exact ⟨a, rfl, h1⟩
    | succ i => simpa using e2 i b' (by simpa using hb)
theorem trod_slice {T' : TypeId} (hT : P.underlying T = some (.slice T')) (h : DataW.trod enc P w 0 sp held (f + 1) T cs = some (d, p)) :
  (cs = [.slice none 0 0] ∧ d = .nil) ∨ ∃ (a : Addr) (cap : Nat) (elems spare : List (DataW H)), cs = [.slice (some a) elems.length cap] ∧ d = .slice elems spare ∧ elems.length ≤ cap ∧
   ∀ (i : Nat) (e : DataW H), elems[i]? = some e → ∃ mL p', w.cells? 0 (a.add (i * P.cellsOf T')) (P.cellsOf T') = some mL ∧ DataW.trod enc P w 0 sp held f T' mL = some (e, p') := by
 unfold DataW.trod at h
 rw [hT] at h
 split at h <;> try (simp at *; done)
 ·rename_i e' h1 h2
  simp at h
  exact .inl ⟨rfl, h.1.symm⟩
 ·rename_i e' a len cap h1
  obtain rfl : T' = e' := by simpa using h1
  refine .inr ?_
  dsimp only at h
  split at h
  ·rename_i hb
   cases h3 : (List.range len).mapM (fun i => (w.cells? 0 (a.add (i * P.cellsOf T')) (P.cellsOf T')).bind (DataW.trod enc P w 0 sp held f T')) with
   | none => rw [h3] at h; simp at h
   | some elems =>
    rw [h3] at h
    obtain ⟨e1, e2⟩ := oK h3
    simp only [Option.bind_some,Option.map_eq_some_iff] at h
    obtain ⟨rest, -, h5⟩ := h
    simp only [Prod.mk.injEq] at h5
    have hl : elems.length = len := by simpa using e1
    refine ⟨a, cap, elems.map (·.1), rest.map (·.1), by rw [List.length_map, hl], h5.1.symm, by rw [List.length_map, hl]; exact hb.2.1, fun i e he => ?_⟩
    rw [List.getElem?_map, Option.map_eq_some_iff] at he
    obtain ⟨x, hx, rfl⟩ := he
    obtain ⟨j, hj, hg⟩ := e2 i x hx
    have rP : j = i := by
     obtain ⟨az, hv⟩ := List.getElem?_eq_some_iff.1 hj
     simpa using hv.symm
    subst rP
    rw [Option.bind_eq_some_iff] at hg
    obtain ⟨mL, hc, ht⟩ := hg
    exact ⟨mL, x.2, hc, ht⟩
  ·simp at h
theorem trod_struct {fs : Array Field} (hT : P.underlying T = some (.struct fs)) (h : DataW.trod enc P w 0 sp held (f + 1) T cs = some (d, p)) :
  cs.length = P.cellsOf T ∧ ∃ parts : List (DataW H), d = .agg parts ∧ parts.length = fs.size ∧
   ∀ (i : Nat) (e : DataW H), parts[i]? = some e → ∃ (fd : Field) (p' : List MemPlace), fs[i]? = some fd ∧ DataW.trod enc P w 0 sp held f fd.type ((cs.drop fd.offset).take (P.cellsOf fd.type)) = some (e, p') := by
 unfold DataW.trod at h
 rw [hT] at h
 split at h <;> try (simp at *; done)
 ·rename_i W5 h1
  obtain rfl : fs = W5 := by simpa using h1
  split at h
  ·rename_i hl
   refine ⟨hl, ?_⟩
   rw [Option.map_eq_some_iff] at h
   obtain ⟨xs, h3, h4⟩ := h
   simp only [Prod.mk.injEq] at h4
   obtain ⟨e1, e2⟩ := oK h3
   refine ⟨xs.map (·.1), h4.1.symm, by rw [List.length_map, e1]; simp, fun i e he => ?_⟩
   rw [List.getElem?_map, Option.map_eq_some_iff] at he
   obtain ⟨x, hx, rfl⟩ := he
   obtain ⟨fd, hj, hg⟩ := e2 i x hx
   exact ⟨fd, x.2, by simpa using hj, hg⟩
  ·simp at h
end
end Go.Proofs.YtnfeacnbgbggfaaGreatDoor
end

section
namespace Go.Proofs.YtnfeacnbgbggfaaGreatDoor
open Go.Eng
variable [aE]
def Rd (F : Addr → Option Value) (hg : Gl F) (vs : List V) (cs : List Value) : Prop := aP ⟨F, fun _ _ => none, hg⟩ vs cs ∧ ∀ c ∈ cs, c.oneCell' = true
section
variable {F : Addr → Option Value} {hg : Gl F}
theorem AJ {v : Value} (h : v.oneCell' = true) : Rd F hg [.sc v] [v] := ⟨.cons (.sc _ _) (.nil _), by simpa using h⟩
theorem dt {a b : List V} {cs : List Value} {off n : Nat} (h1 : Rd F hg a ((cs.drop off).take n)) (h2 : Rd F hg b (cs.drop (off + n))) : Rd F hg (a ++ b) (cs.drop off) := by
 have e : cs.drop off = (cs.drop off).take n ++ cs.drop (off + n) := by rw [← List.drop_drop, List.take_append_drop]
 rw [e]
 refine ⟨.append h1.1 h2.1, fun c hc => ?_⟩
 rcases List.mem_append.1 hc with hc | hc
 ·exact h1.2 c hc
 ·exact h2.2 c hc
theorem wh (a : Addr) (x y : Nat) : (a.add x).add y = a.add (x + y) := by
 unfold Addr.add
 by_cases hx : x = 0
 ·subst hx; simp
 ·by_cases hy : y = 0
  ·subst hy; simp
  ·simp [hx, hy, Nat.add_assoc]
theorem yu {α β : Type} {R : Nat → β → α → Prop} : ∀ {es : List β}, (∀ (i : Nat) (e : β), es[i]? = some e → ∃ a : α, R i e a) → ∃ l : List α, l.length = es.length ∧ ∀ (i : Nat) (e : β) (a : α), es[i]? = some e → l[i]? = some a → R i e a := by
 intro es
 induction es generalizing R with
 | nil => intro _; exact ⟨[], rfl, by simp⟩
 | cons e r ih =>
  intro h
  obtain ⟨a, ha⟩ := h 0 e rfl
  obtain ⟨l, hl, hr⟩ := ih (R := fun i => R (i + 1)) fun i e he => h (i + 1) e (by simpa using he)
  refine ⟨a :: l, by simp [hl], fun i e' a' he Rh => ?_⟩
  cases i with
  | zero => simp at he Rh; subst he; subst Rh; exact ha
  | succ i => exact hr i e' a' (by simpa using he) (by simpa using Rh)
theorem qA {H α : Type} {g : α → Nat} : ∀ {l : List α} {es : List (DataW H)}, l.length = es.length → (∀ (i : Nat) (e : DataW H) (a : α), es[i]? = some e → l[i]? = some a → g a ≤ Rows.uptoBulk e) → cZ g l ≤ Rows.uptoBulkAll es
 | [], [], _, _ => by simp [cZ]
 | a :: l, e :: es, hl, h => by
  have h1 := h 0 e a rfl rfl
  have h2 := qA (l := l) (es := es) (g := g) (by simpa using hl) fun i e a he ha => h (i + 1) e a (by simpa using he) (by simpa using ha)
  simp only [cZ,Rows.uptoBulkAll]; omega
 | [], _ :: _, hl, _ => by simp at hl
 | _ :: _, [], hl, _ => by simp at hl
theorem GJ {H : Type} {enc : TypeId × Value → H} {P : Program} {w : World} {sp : Nat → Bool} {held : Bool} {f : Nat} {T T' : TypeId} {α : Type} {row : α → V} {g : α → Nat} {n : Nat}
  (hF : F = w.cell?) (hT : P.underlying T = some (.slice T')) (hn : P.cellsOf T' = n)
  (hr : ∀ {cs : List Value} {d : DataW H} {p : List MemPlace}, DataW.trod enc P w 0 sp held f T' cs = some (d, p) → ∃ a : α, Rd F hg (row a).cells cs ∧ g a ≤ Rows.uptoBulk d)
  {cs : List Value} {d : DataW H} {p : List MemPlace} (h : DataW.trod enc P w 0 sp held (f + 1) T cs = some (d, p)) :
  ∃ l : List α, Rd F hg [.slice (l.map row)] cs ∧ cZ g l + 1 ≤ Rows.uptoBulk d := by
 rcases trod_slice hT h with ⟨rfl, rfl⟩ | ⟨a, cap, elems, spare, rfl, rfl, hc, he⟩
 ·exact ⟨[], ⟨.cons (.slice _ [] none 0 0 default (fun _ _ => default) (by simp) (by simp) (by simp) (by simp) (by simp) (by simp)) (.nil _), by simp [Value.oneCell']⟩, by simp [cZ, Rows.uptoBulk]⟩
 ·obtain ⟨l, hl, hR⟩ := yu (es := elems) (R := fun i e (x : α) => ∃ mL : List Value, w.cells? 0 (a.add (i * P.cellsOf T')) (P.cellsOf T') = some mL ∧ Rd F hg (row x).cells mL ∧ g x ≤ Rows.uptoBulk e) fun i e hi => by
   obtain ⟨mL, p', h1, h2⟩ := he i e hi
   obtain ⟨x, h3, h4⟩ := hr h2
   exact ⟨x, mL, h1, h3, h4⟩
  rw [hn] at hR
  have key : ∀ (i : Nat) (x : α), l[i]? = some x → ∃ mL : List Value, Rd F hg (row x).cells mL ∧ (row x).cells.length = n ∧ ∀ (j : Nat) (c : Value), mL[j]? = some c → F (a.add (i * n + j)) = some c := fun i x hx => by
   obtain ⟨e, YQ⟩ : ∃ e, elems[i]? = some e := ⟨_, List.getElem?_eq_getElem (by rw [← hl]; exact (List.getElem?_eq_some_iff.1 hx).1)⟩
   obtain ⟨mL, h1, h2, -⟩ := hR i e x YQ hx
   unfold World.cells? at h1
   rw [if_pos (Nat.zero_le _)] at h1
   obtain ⟨e1, e2⟩ := oK h1
   refine ⟨mL, h2, by rw [h2.1.1, e1]; simp, fun j c hj => ?_⟩
   obtain ⟨k, hk, LD⟩ := e2 j c hj
   have YR : k = j := by
    obtain ⟨az, hv⟩ := List.getElem?_eq_some_iff.1 hk
    simpa using hv.symm
   subst YR
   rw [wh] at LD
   rw [hF]; exact LD
  have cell : ∀ (i : Nat) (r : V) (j : Nat) (c : V), (l.map row)[i]? = some r → r.cells[j]? = some c → ∃ x, F (a.add (i * n + j)) = some x ∧ x.oneCell' = true ∧ aW ⟨F, fun _ _ => none, hg⟩ c x := fun i r j c hi hj => by
   rw [List.getElem?_map, Option.map_eq_some_iff] at hi
   obtain ⟨x, hx, rfl⟩ := hi
   obtain ⟨mL, h2, -, h3⟩ := key i x hx
   obtain ⟨y, hy, od⟩ := h2.1.get hj
   exact ⟨y, h3 j y hy, h2.2 y (List.mem_of_getElem? hy), od⟩
  refine ⟨l, ⟨.cons ?_ (.nil _), by simp [Value.oneCell']⟩, ?_⟩
  ·have := aW.slice ⟨F, fun _ _ => none, hg⟩ (l.map row) (some a) cap n a (fun i j => (F (a.add (i * n + j))).getD default) (fun _ => rfl) (by rw [List.length_map, hl]; exact hc)
    (fun i r hi => by
     rw [List.getElem?_map, Option.map_eq_some_iff] at hi
     obtain ⟨x, hx, rfl⟩ := hi
     obtain ⟨_, -, h, -⟩ := key i x hx
     exact h)
    (fun i r j c hi hj => by obtain ⟨x, h, -, -⟩ := cell i r j c hi hj; show F _ = some ((F _).getD _); rw [h]; rfl)
    (fun i r j c hi hj => by obtain ⟨x, h, h', -⟩ := cell i r j c hi hj; show Value.oneCell' ((F _).getD _) = true; rw [h]; exact h')
    (fun i r j c hi hj => by obtain ⟨x, h, -, h'⟩ := cell i r j c hi hj; show aW _ c ((F _).getD _); rw [h]; exact h')
   rwa [List.length_map, hl] at this
  ·have := qA (g := g) hl fun i e x he hx => by obtain ⟨_, -, -, h⟩ := hR i e x he hx; exact h
   simp only [Rows.uptoBulk]; omega
end
def AK {H : Type} (enc : TypeId × Value → H) (P : Program) (w : World) (sp : Nat → Bool) (held : Bool) (f : Nat) (cs : List Value) : List Field → (List (DataW H) → Prop) → Prop
 | [], K => K []
 | fd :: r, K => ∃ (e : DataW H) (p : List MemPlace), DataW.trod enc P w 0 sp held f fd.type ((cs.drop fd.offset).take (P.cellsOf fd.type)) = some (e, p) ∧ AK enc P w sp held f cs r fun es => K (e :: es)
theorem uM {H : Type} {enc : TypeId × Value → H} {P : Program} {w : World} {sp : Nat → Bool} {held : Bool} {f : Nat} {cs : List Value} : ∀ {fs : List Field} {K : List (DataW H) → Prop} {es : List (DataW H)}, es.length = fs.length →
  (∀ (i : Nat) (e : DataW H), es[i]? = some e → ∃ (fd : Field) (p' : List MemPlace), fs[i]? = some fd ∧ DataW.trod enc P w 0 sp held f fd.type ((cs.drop fd.offset).take (P.cellsOf fd.type)) = some (e, p')) → K es → AK enc P w sp held f cs fs K
 | [], K, [], _, _, hK => hK
 | fd :: r, K, e :: es, hl, h, hK => by
  obtain ⟨YS, p', h1, h2⟩ := h 0 e rfl
  obtain rfl : fd = YS := by simpa using h1
  exact ⟨e, p', h2, uM (es := es) (by simpa using hl) (fun i e he => by simpa using h (i + 1) e (by simpa using he)) hK⟩
 | [], _, _ :: _, hl, _, _ => by simp at hl
 | _ :: _, _, [], hl, _, _ => by simp at hl
theorem fe {H : Type} {enc : TypeId × Value → H} {P : Program} {w : World} {sp : Nat → Bool} {held : Bool} {f : Nat} {T : TypeId} {cs : List Value} {d : DataW H} {p : List MemPlace} {fs : Array Field}
  (hT : P.underlying T = some (.struct fs)) (h : DataW.trod enc P w 0 sp held (f + 1) T cs = some (d, p)) : cs.length = P.cellsOf T ∧ AK enc P w sp held f cs fs.toList fun es => d = .agg es := by
 obtain ⟨h1, parts, h2, h3, h4⟩ := trod_struct hT h
 exact ⟨h1, uM (by simpa using h3) (fun i e he => by simpa using h4 i e he) h2⟩
end Go.Proofs.YtnfeacnbgbggfaaGreatDoor
end

section
namespace Go.Proofs.YtnfeacnbgbggfaaGreatDoor
structure bF where
 lo : Int
 hi : Int
def mc (x : bF) : Option bF := if max x.lo 0 < min x.hi 1000000 then some ⟨max x.lo 0, min x.hi 1000000⟩ else none
def clip (s : List bF) : List bF := s.filterMap mc
def wi : List bF → bF → List bF
 | [], x => [x]
 | y :: r, x => if y.lo ≤ x.lo then y :: wi r x else x :: y :: r
def dj (out : List bF) (x : bF) : List bF := match out.getLast? with
 | some y => if x.lo ≤ y.hi then out.dropLast ++ [⟨y.lo, max y.hi x.hi⟩] else out ++ [x]
 | none => [x]
def merge (l : List bF) : List bF := l.foldl dj []
def canon (s : List bF) : List bF := merge ((clip s).foldl wi [])
def fP (l : List bF) : Prop := l.Pairwise fun a b => a.lo ≤ b.lo
theorem AL (out : List bF) (x y : bF) (h : x.lo = y.lo) (hx : x.lo ≤ x.hi) (hy : y.lo ≤ y.hi) : dj (dj out x) y = dj (dj out y) x := by
 unfold dj
 cases hl : out.getLast? with
 | none =>
  simp only [List.getLast?_singleton,List.dropLast_singleton,List.nil_append]
  rw [if_pos (by omega), if_pos (by omega)]
  simp only [h,Int.max_comm]
 | some z =>
  dsimp only
  by_cases hz : x.lo ≤ z.hi
  ·rw [if_pos hz, if_pos (by omega)]
   simp only [List.getLast?_append,List.getLast?_singleton,Option.some_or,List.dropLast_concat]
   rw [if_pos (by omega), if_pos (by omega)]
   simp only [Int.max_assoc,Int.max_comm x.hi]
  ·rw [if_neg hz, if_neg (by omega)]
   simp only [List.getLast?_append,List.getLast?_singleton,Option.some_or,List.dropLast_concat]
   rw [if_pos (by omega), if_pos (by omega)]
   simp only [h,Int.max_comm]
theorem qB (x : bF) : ∀ (p : List bF) (out : List bF), (∀ y ∈ p, y.lo = x.lo ∧ y.lo ≤ y.hi) → x.lo ≤ x.hi → (p ++ [x]).foldl dj out = (x :: p).foldl dj out
 | [], out, _, _ => rfl
 | y :: r, out, h, hx => by
  have h1 := h y (by simp)
  rw [List.cons_append, List.foldl_cons, qB x r _ (fun z hz => h z (by simp [hz])) hx]
  simp only [List.foldl_cons]
  rw [AL out y x h1.1 h1.2 hx]
theorem sK : ∀ (l m : List bF) (out : List bF), l.Perm m → fP l → fP m → (∀ x ∈ l, x.lo ≤ x.hi) → l.foldl dj out = m.foldl dj out
 | [], m, out, hp, _, _, _ => by rw [hp.nil_eq]
 | x :: t, m, out, hp, hl, hm, hw => by
  have rm : x ∈ m := hp.subset (by simp)
  obtain ⟨p, q, rfl⟩ := List.append_of_mem rm
  have YT : ∀ y ∈ p, y.lo = x.lo ∧ y.lo ≤ y.hi := fun y hy => by
   have MT : y ∈ x :: t := hp.symm.subset (by simp [hy])
   have h1 : y.lo ≤ x.lo := (List.pairwise_append.1 hm).2.2 y hy x (by simp)
   have h2 : x.lo ≤ y.lo := by
    rcases List.mem_cons.1 MT with rfl | h
    ·omega
    ·exact (List.pairwise_cons.1 hl).1 y h
   exact ⟨by omega, hw y MT⟩
  have hx := hw x (by simp)
  have e : (p ++ x :: q).foldl dj out = (x :: (p ++ q)).foldl dj out := by
   rw [show p ++ x :: q = (p ++ [x]) ++ q by simp, List.foldl_append, qB x p out YT hx, ← List.foldl_append]; rfl
  rw [e, List.foldl_cons, List.foldl_cons]
  refine sK t (p ++ q) _ ?_ (List.pairwise_cons.1 hl).2 ?_ fun y hy => hw y (by simp [hy])
  ·exact (List.perm_cons x).1 (hp.trans (by simpa using List.perm_middle))
  ·rw [fP, List.pairwise_append] at hm ⊢
   exact ⟨hm.1, (List.pairwise_cons.1 hm.2.1).2, fun a ha b hb => hm.2.2 a ha b (by simp [hb])⟩
theorem pF : ∀ (l : List bF) (x : bF), (wi l x).Perm (x :: l)
 | [], x => List.Perm.refl _
 | y :: r, x => by
  unfold wi
  split
  ·exact ((pF r x).cons y).trans (List.Perm.swap x y r)
  ·exact List.Perm.refl _
theorem yv : ∀ (l : List bF) (x : bF), fP l → fP (wi l x)
 | [], x, _ => List.pairwise_singleton _ _
 | y :: r, x, h => by
  have h1 := List.pairwise_cons.1 h
  unfold wi
  split
  ·rename_i hy
   refine List.pairwise_cons.2 ⟨fun z hz => ?_, yv r x h1.2⟩
   rcases List.mem_cons.1 ((pF r x).subset hz) with rfl | hz
   ·exact hy
   ·exact h1.1 z hz
  ·rename_i hy
   refine List.pairwise_cons.2 ⟨fun z hz => ?_, h⟩
   rcases List.mem_cons.1 hz with rfl | hz
   ·omega
   ·have := h1.1 z hz; omega
theorem nn : ∀ (m l : List bF), fP l → fP (m.foldl wi l) ∧ (m.foldl wi l).Perm (l ++ m)
 | [], l, h => ⟨h, by simp⟩
 | x :: t, l, h => by
  obtain ⟨h1, h2⟩ := nn t (wi l x) (yv l x h)
  refine ⟨h1, h2.trans ?_⟩
  exact ((pF l x).append_right t).trans (by simp [List.perm_middle.symm])
theorem wj {s : List bF} : ∀ x ∈ clip s, 0 ≤ x.lo ∧ x.lo < x.hi ∧ x.hi ≤ 1000000 := fun x hx => by
 obtain ⟨y, -, hy⟩ := List.mem_filterMap.1 hx
 unfold mc at hy
 split at hy
 ·cases hy; dsimp only; omega
 ·cases hy
theorem yw {s l : List bF} (hp : l.Perm (clip s)) (ha : fP l) : merge l = canon s := by
 obtain ⟨h1, h2⟩ := nn (clip s) [] List.Pairwise.nil
 exact sK l _ [] (hp.trans (by simpa using h2.symm)) ha h1 fun x hx => by have := wj x (hp.subset hx); omega
structure er where
 mj : Int
 mn : Int
 pt : Int
structure Rq where
 path : ByteArray
 set : List bF
structure Rl where
 path : ByteArray
 aA : er
 reqs : List Rq
 ar : ByteArray
 fY : ByteArray
 ce : ByteArray
 yk : Bool
structure dA where
 path : ByteArray
 aA : er
theorem er.ext' {a b : er} (h1 : a.mj = b.mj) (h2 : a.mn = b.mn) (h3 : a.pt = b.pt) : a = b := by cases a; cases b; simp_all
theorem bF.ext' {a b : bF} (h1 : a.lo = b.lo) (h2 : a.hi = b.hi) : a = b := by cases a; cases b; simp_all
instance : DecidableEq bF := fun a b => if h : a.lo = b.lo ∧ a.hi = b.hi then .isTrue (bF.ext' h.1 h.2) else .isFalse fun e => h (by subst e; exact ⟨rfl, rfl⟩)
theorem dA.ext' {a b : dA} (h1 : a.path = b.path) (h2 : a.aA = b.aA) : a = b := by cases a; cases b; simp_all
instance : DecidableEq er := fun a b => if h : a.mj = b.mj ∧ a.mn = b.mn ∧ a.pt = b.pt then .isTrue (er.ext' h.1 h.2.1 h.2.2) else .isFalse fun e => h (by subst e; exact ⟨rfl, rfl, rfl⟩)
instance : DecidableEq dA := fun a b => if h : a.path = b.path ∧ a.aA = b.aA then .isTrue (dA.ext' h.1 h.2) else .isFalse fun e => h (by subst e; exact ⟨rfl, rfl⟩)
def Rl.key (r : Rl) : dA := ⟨r.path, r.aA⟩
def er.place (v : er) : Int := 1000 * v.mn + v.pt
def has (s : List bF) (p : Int) : Bool := decide (0 ≤ p) && decide (p < 1000000) && s.any fun x => decide (x.lo ≤ p) && decide (p < x.hi)
def eg (q : Rq) (r : Rl) : Bool := decide (q.path = r.path) && has q.set r.aA.place
inductive oL (l : List Rl) (roots : List Rq) : Rl → Prop
 | root (q : Rq) (r : Rl) (hq : q ∈ roots) (hr : r ∈ l) (h : eg q r = true) : oL l roots r
 | step (a : Rl) (q : Rq) (r : Rl) (ha : oL l roots a) (hq : q ∈ a.reqs) (hr : r ∈ l) (h : eg q r = true) : oL l roots r
theorem oL.mem {l : List Rl} {roots : List Rq} {r : Rl} (h : oL l roots r) : r ∈ l := by cases h <;> assumption
theorem oL.mono {l : List Rl} {roots more : List Rq} (hm : ∀ q ∈ roots, q ∈ more) {r : Rl} (h : oL l roots r) : oL l more r := by
 induction h with
 | root q r hq hr h => exact .root q r (hm q hq) hr h
 | step a q r _ hq hr h ih => exact .step a q r ih hq hr h
noncomputable def bS (l : List Rl) (roots : List Rq) : List Rl := l.filter fun r => @decide _ (Classical.propDecidable (oL l roots r))
theorem yx {l : List Rl} {roots : List Rq} {r : Rl} : r ∈ bS l roots ↔ oL l roots r := by
 unfold bS
 rw [List.mem_filter, @decide_eq_true_iff _ (Classical.propDecidable _)]
 exact ⟨fun h => h.2, fun h => ⟨h.mem, h⟩⟩
theorem JZ {l : List Rl} {roots : List Rq} (S : Rl → Prop) (h1 : ∀ r, S r → oL l roots r) (h2 : ∀ q ∈ roots, ∀ r ∈ l, eg q r = true → S r) (h3 : ∀ a, S a → ∀ q ∈ a.reqs, ∀ r ∈ l, eg q r = true → S r) (r : Rl) : S r ↔ oL l roots r := by
 refine ⟨h1 r, fun h => ?_⟩
 induction h with
 | root q r hq hr h => exact h2 q hq r hr h
 | step a q r _ hq hr h ih => exact h3 a ih q hq r hr h
inductive Oh (l : List Rl) (roots : List Rq) : ByteArray → Prop
 | root (q : Rq) (hq : q ∈ roots) : Oh l roots q.path
 | step (a : Rl) (q : Rq) (ha : a ∈ l) (hn : Oh l roots a.path) (hq : q ∈ a.reqs) : Oh l roots q.path
theorem me {q : Rq} {r : Rl} (h : eg q r = true) : q.path = r.path := by
 unfold eg at h
 rw [Bool.and_eq_true] at h
 exact of_decide_eq_true h.1
theorem oL.sub {l m : List Rl} {roots : List Rq} (Xm : ∀ r ∈ l, r ∈ m) {r : Rl} (h : oL l roots r) : oL m roots r := by
 induction h with
 | root q r hq hr h => exact .root q r hq (Xm r hr) h
 | step a q r _ hq hr h ih => exact .step a q r ih hq (Xm r hr) h
def uv (n : Nat) : List UInt8 := if n < 128 then [UInt8.ofNat n] else UInt8.ofNat (n % 128 + 128) :: uv (n / 128)
termination_by n
decreasing_by omega
def dJ : List UInt8 → Nat → Nat → Option (Nat × Nat)
 | [], _, _ => none
 | b :: r, i, n => if 9 < i ∨ i = 9 ∧ 1 < b.toNat then none else
   if b.toNat < 128 then (if i = 0 ∨ 0 < b.toNat then some (n + b.toNat * 2 ^ (7 * i), i + 1) else none)
   else dJ r (i + 1) (n + (b.toNat - 128) * 2 ^ (7 * i))
theorem lx {n : Nat} (h : n < 128) : uv n = [UInt8.ofNat n] := by rw [uv, if_pos h]
theorem wk {n : Nat} (h : ¬ n < 128) : uv n = UInt8.ofNat (n % 128 + 128) :: uv (n / 128) := by rw [uv, if_neg h]
theorem iU {n : Nat} (h : n < 256) : (UInt8.ofNat n).toNat = n := by simp; omega
theorem J0 : ∀ (i n m : Nat) (rest : List UInt8), i ≤ 9 → n < 2 ^ (64 - 7 * i) → (i = 0 ∨ 0 < n) → dJ (uv n ++ rest) i m = some (m + n * 2 ^ (7 * i), i + (uv n).length) := by
 intro i n
 induction n using Nat.strongRecOn generalizing i with
 | _ n ih =>
  intro m rest hi hn h0
  have hb : i = 9 → n < 2 := fun h => by subst h; simpa using hn
  by_cases h : n < 128
  ·rw [lx h]
   show dJ (UInt8.ofNat n :: rest) i m = _
   rw [dJ, iU (by omega), if_neg (by omega), if_pos h, if_pos h0]
   rfl
  ·rw [wk h]
   have Qp : i ≠ 9 := fun e => by have := hb e; omega
   show dJ (UInt8.ofNat (n % 128 + 128) :: (uv (n / 128) ++ rest)) i m = _
   rw [dJ, iU (by omega), if_neg (by omega), if_neg (by omega)]
   have hp : 2 ^ (64 - 7 * i) = 128 * 2 ^ (64 - 7 * (i + 1)) := by
    rw [show (128 : Nat) = 2 ^ 7 from rfl, ← Nat.pow_add]
    congr 1; omega
   rw [ih (n / 128) (by omega) (i + 1) _ rest (by omega) (by rw [hp] at hn; exact Nat.div_lt_of_lt_mul hn) (.inr (by omega))]
   have e1 : 2 ^ (7 * (i + 1)) = 128 * 2 ^ (7 * i) := by rw [show (128 : Nat) = 2 ^ 7 from rfl, ← Nat.pow_add]; congr 1; omega
   have e2 : m + (n % 128 + 128 - 128) * 2 ^ (7 * i) + n / 128 * 2 ^ (7 * (i + 1)) = m + n * 2 ^ (7 * i) := by
    rw [e1, Nat.add_sub_cancel, Nat.add_assoc, ← Nat.mul_assoc, ← Nat.add_mul]
    congr 2; omega
   rw [e2, List.length_cons]
   congr 2; omega
theorem Cu : ∀ (l : List UInt8) (i m n k : Nat), dJ l i m = some (n, k) → ∃ v, n = m + v * 2 ^ (7 * i) ∧ (i = 0 ∨ 0 < v) ∧ i + (uv v).length = k ∧ ∃ rest, l = uv v ++ rest ∧ v < 2 ^ (64 - 7 * i) ∧ k ≤ 10
 | [], i, m, n, k, h => by simp [dJ] at h
 | b :: r, i, m, n, k, h => by
  rw [dJ] at h
  split at h
  ·cases h
  rename_i h9
  split at h
  ·rename_i hb
   split at h
   ·rename_i h0
    simp only [Option.some.injEq,Prod.mk.injEq] at h
    obtain ⟨rfl, rfl⟩ := h
    have hu : uv b.toNat = [b] := by rw [lx hb]; simp
    refine ⟨b.toNat, rfl, h0, by rw [hu]; rfl, r, by rw [hu]; rfl, ?_, by omega⟩
    by_cases YU : i = 9
    ·subst YU; simp; omega
    ·have : 2 ^ 7 ≤ 2 ^ (64 - 7 * i) := Nat.pow_le_pow_right (by omega) (by omega)
     omega
   ·cases h
  ·rename_i hb
   obtain ⟨v, hv, h0, hk, rest, hr, az, VT⟩ := Cu r (i + 1) _ n k h
   have EY : 0 < v := by omega
   have Ns : b.toNat < 256 := b.toNat_lt
   have YV : (b.toNat - 128 + 128 * v) % 128 = b.toNat - 128 := by omega
   have L3 : (b.toNat - 128 + 128 * v) / 128 = v := by omega
   have hu : uv (b.toNat - 128 + 128 * v) = b :: uv v := by
    rw [wk (by omega), YV, L3, Nat.sub_add_cancel (by omega)]; simp
   have e1 : 2 ^ (7 * (i + 1)) = 128 * 2 ^ (7 * i) := by rw [show (128 : Nat) = 2 ^ 7 from rfl, ← Nat.pow_add]; congr 1; omega
   have ir : 0 < (uv v).length := by rw [uv]; split <;> simp
   refine ⟨b.toNat - 128 + 128 * v, ?_, .inr (by omega), by rw [hu, List.length_cons]; omega, rest, by rw [hu, hr]; rfl, ?_, VT⟩
   ·rw [hv, e1, Nat.add_mul, Nat.add_assoc, Nat.mul_comm 128 v, Nat.mul_assoc]
   ·have h8 : i ≤ 8 := by omega
    have hp : 2 ^ (64 - 7 * i) = 128 * 2 ^ (64 - 7 * (i + 1)) := by
     rw [show (128 : Nat) = 2 ^ 7 from rfl, ← Nat.pow_add]
     congr 1; omega
    rw [hp]; omega
def from_ (s : ByteArray) (at_ : Nat) : List UInt8 := s.data.toList.drop at_
theorem iV (s : ByteArray) (a : Nat) : (from_ s a).length = s.size - a := by unfold from_; rw [List.length_drop, Array.length_toList]; rfl
theorem uN (s : ByteArray) (a k : Nat) : (from_ s a).drop k = from_ s (a + k) := by unfold from_; rw [List.drop_drop]
def oM (s : ByteArray) (at_ : Nat) : Option (Nat × Nat) := match dJ (from_ s at_) 0 0 with
 | some (n, k) => if n < 9223372036854775808 then some (n, at_ + k) else none
 | none => none
def AM (s : ByteArray) (at_ : Nat) : Option (ByteArray × Nat) := match oM s at_ with
 | some (n, j) => if n ≤ s.size - j then some (s.extract j (j + n), j + n) else none
 | none => none
theorem sL {s : ByteArray} {a : Nat} {x rest : List UInt8} (h : from_ s a = x ++ rest) : from_ s (a + x.length) = rest := by
 rw [← uN, h, List.drop_left]
theorem AN {s : ByteArray} {a n : Nat} {rest : List UInt8} (hn : n < 9223372036854775808) (h : from_ s a = uv n ++ rest) : oM s a = some (n, a + (uv n).length) ∧ from_ s (a + (uv n).length) = rest := by
 refine ⟨?_, sL h⟩
 unfold oM
 rw [h, J0 0 n 0 rest (by omega) (by show n < 2 ^ 64; omega) (.inl rfl)]
 simp only [Nat.mul_zero,Nat.pow_zero,Nat.mul_one,Nat.zero_add]
 rw [if_pos hn]
theorem AO {s : ByteArray} {a n j : Nat} (h : oM s a = some (n, j)) : from_ s a = uv n ++ from_ s j ∧ n < 9223372036854775808 ∧ j = a + (uv n).length ∧ j ≤ s.size ∧ a < j := by
 unfold oM at h
 split at h
 ·rename_i n' k hs
  split at h
  ·rename_i hn
   simp only [Option.some.injEq,Prod.mk.injEq] at h
   obtain ⟨rfl, rfl⟩ := h
   obtain ⟨v, hv, -, hk, rest, hr, -, -⟩ := Cu _ _ _ _ _ hs
   have YW : v = n' := by rw [hv]; simp
   subst YW
   rw [Nat.zero_add] at hk
   have ir : 0 < (uv v).length := by rw [uv]; split <;> simp
   have hl := congrArg List.length hr
   rw [iV, List.length_append] at hl
   refine ⟨?_, hn, by rw [hk], by omega, by omega⟩
   rw [← hk, sL hr]; exact hr
  ·cases h
 ·cases h
def bg (s : ByteArray) : List UInt8 := s.data.toList
theorem eU (s : ByteArray) : (bg s).length = s.size := Array.length_toList
theorem oN (s : ByteArray) (j n : Nat) : bg (s.extract j (j + n)) = (from_ s j).take n := by
 unfold bg from_
 rw [ByteArray.data_extract, Array.toList_extract, List.extract_eq_take_drop, Nat.add_sub_cancel_left]
theorem np {a b : ByteArray} (h : bg a = bg b) : a = b := by
 cases a; cases b; unfold bg at h; dsimp only at h; rw [Array.toList_inj.1 h]
def eT (t : ByteArray) : List UInt8 := uv t.size ++ bg t
theorem Oi {s t : ByteArray} {a : Nat} {rest : List UInt8} (hn : t.size < 9223372036854775808) (h : from_ s a = eT t ++ rest) : AM s a = some (t, a + (eT t).length) ∧ from_ s (a + (eT t).length) = rest := by
 refine ⟨?_, sL h⟩
 unfold eT at h
 rw [List.append_assoc] at h
 obtain ⟨h1, h2⟩ := AN hn h
 unfold AM
 rw [h1]
 dsimp only
 have hl := congrArg List.length h2
 rw [iV, List.length_append, eU] at hl
 have e : s.extract (a + (uv t.size).length) (a + (uv t.size).length + t.size) = t := np (by rw [oN, h2, ← eU t, List.take_left])
 rw [e, show (eT t).length = (uv t.size).length + t.size by unfold eT; rw [List.length_append, eU], Nat.add_assoc]
 rw [if_pos]
 by_cases ht : t.size = 0
 ·omega
 ·omega
theorem Oj {s t : ByteArray} {a j : Nat} (h : AM s a = some (t, j)) : from_ s a = eT t ++ from_ s j ∧ t.size < 9223372036854775808 ∧ j ≤ s.size ∧ a < j ∧ t.size ≤ s.size := by
 unfold AM at h
 split at h
 ·rename_i n k hi
  obtain ⟨h1, h2, h3, h4, h5⟩ := AO hi
  split at h
  ·rename_i hn
   simp only [Option.some.injEq,Prod.mk.injEq] at h
   obtain ⟨rfl, rfl⟩ := h
   have hs : (s.extract k (k + n)).size = n := by rw [ByteArray.size_extract]; omega
   refine ⟨?_, by omega, by omega, by omega, by omega⟩
   unfold eT
   rw [hs, oN, List.append_assoc, ← uN, List.take_append_drop]; exact h1
  ·cases h
 ·cases h
end Go.Proofs.YtnfeacnbgbggfaaGreatDoor
end

section
namespace Go.Proofs.YtnfeacnbgbggfaaGreatDoor
open Go.Eng
variable [aE]
def ak (s : bF) : V := .agg [num s.lo, num s.hi]
def al (l : List bF) : V := .slice (l.map ak)
def aj (q : Rq) : V := .agg [str q.path, al q.set]
def ah (l : List Rq) : V := .slice (l.map aj)
def bM (v : er) : V := .agg [num v.mj, num v.mn, num v.pt]
def aH (s : dA) : V := .agg [str s.path, num s.aA.mj, num s.aA.mn, num s.aA.pt]
def aX (l : List dA) : V := .slice (l.map aH)
def ab (r : Rl) : List V := [str r.path, num r.aA.mj, num r.aA.mn, num r.aA.pt, ah r.reqs, str r.ar, str r.fY, str r.ce, bl r.yk]
def ag (r : Rl) : V := .agg (ab r)
def bh (l : List Rl) : V := .slice (l.map ag)
def bA (l : List Rl) (I : List V) : V := .agg [bh l, .slice I]
attribute [go_sem] al ah aX bh
end Go.Proofs.YtnfeacnbgbggfaaGreatDoor
end

section
namespace Go.Proofs.YtnfeacnbgbggfaaGreatDoor
open Go.Eng
open Nat renaming reduceAdd → zA, reduceLT → zB, reduceLeDiff → zC, reduceMul → zD, reduceEqDiff → zE, reduceSub → zF
variable [aE]
set_option maxHeartbeats 4000000
set_option maxRecDepth 100000
theorem Ol {s e : ByteArray} (he : e.size = 0) (h : (!(s.toList == e.toList)) = true) : ∃ c, s[0]? = some c := by
 refine bW (s := s) (i := 0) ?_
 rcases Nat.eq_zero_or_pos s.size with hz | hz
 ·exfalso
  have e1 : s.toList = e.toList := by
   rw [ByteArray.toList_eq, ByteArray.toList_eq]
   have a1 : s.data.toList = [] := by simpa [← List.length_eq_zero_iff, Array.length_toList] using hz
   have a2 : e.data.toList = [] := by simpa [← List.length_eq_zero_iff, Array.length_toList] using he
   rw [a1, a2]
  rw [e1] at h; simp at h
 ·exact hz
def tW (c : Int) : Bool := decide (97 ≤ c) && decide (c ≤ 122)
def AP (c : Int) : Bool := decide (65 ≤ c) && decide (c ≤ 90)
def eC (c : Int) : Bool := decide (48 ≤ c) && decide (c ≤ 57)
def ki (c : Int) : Bool := tW c || AP c || eC c || decide (c = 95)
def sM (c : Int) : Bool := tW c || eC c
def fZ (p : Int → Bool) (s : ByteArray) : Bool := s.data.toList.all fun b => p b.toNat
def cD (s : ByteArray) (i : Nat) : Int := match s[i]? with | some c => c.toNat | none => 0
theorem jB {s : ByteArray} {i : Nat} {c : UInt8} (h : s[i]? = some c) : s.data.toList[i]? = some c := by
 obtain ⟨h1, h2⟩ := getElem?_eq_some_iff.1 h
 have h3 : i < s.data.toList.length := by simpa using h1
 rw [List.getElem?_eq_getElem h3]
 exact congrArg some (by rw [Array.getElem_toList]; exact h2)
theorem c8 {s : ByteArray} {i : Nat} {c : UInt8} (h : s[i]? = some c) : cD s i = c.toNat := by unfold cD; rw [h]
theorem jC {p : Int → Bool} {s : ByteArray} (h : ∀ j < s.size, ∀ b, s[j]? = some b → p b.toNat = true) : fZ p s = true := by
 refine List.all_eq_true.2 fun b hb => ?_
 obtain ⟨j, hj⟩ := List.mem_iff_getElem?.1 hb
 have h1 : j < s.size := by have := (List.getElem?_eq_some_iff.1 hj).1; simpa using this
 obtain ⟨c, hc⟩ := bW h1
 have := jB hc
 rw [hj] at this; cases this
 exact h j h1 b hc
theorem iA {p : Int → Bool} {s : ByteArray} {j : Nat} {b : UInt8} (h : s[j]? = some b) (hp : p b.toNat = false) : fZ p s = false := by
 have hm := List.mem_of_getElem? (jB h)
 cases ha : fZ p s with
 | false => rfl
 | true => have := List.all_eq_true.1 ha b hm; rw [hp] at this; cases this
theorem Cv {s e : ByteArray} (he : e.size = 0) (h : (!(s.toList == e.toList)) = true) : 1 ≤ s.size := by
 obtain ⟨c, hc⟩ := Ol he h
 exact (getElem?_eq_some_iff.1 hc).1
theorem yy {s e : ByteArray} (he : e.size = 0) (h : (!(s.toList == e.toList)) = false) : s.size = 0 := by
 have e1 : s.toList = e.toList := by simpa using h
 rw [ByteArray.toList_eq, ByteArray.toList_eq] at e1
 have := congrArg List.length e1
 simp only [Array.length_toList] at this
 exact Eq.trans this he
theorem sN (c : Int) : ∃ r_, (fun w => w = bl (tW c)) r_ ∧ aQ Tryz.prog 127 [.sc (.int .u8 c)] r_ := by
 refine dZ tt_ok [] 9 [.tmp 2] (fn := Tryz.f127) Tryz.func127 rfl Tryz.call127 ⟨rfl, rfl, by simp⟩ fun K hK => ?_
 simp only [go_sem,reduceIte,zA,zB,zC,zD,zE,zF,reduceCtorEq]
 refine aN (fun dW => ?_) (fun dW => ?_)
 ·simp only [go_sem,reduceIte,zA,zB,zC,zD,zE,zF,reduceCtorEq]
  exact hK _ (congrArg bl (by simp_all [tW] <;> (intros; omega)))
 ·simp only [go_sem,reduceIte,zA,zB,zC,zD,zE,zF,reduceCtorEq]
  exact hK _ (congrArg bl (by simp_all [tW] <;> (intros; omega)))
theorem AQ (c : Int) : ∃ r_, (fun w => w = bl (AP c)) r_ ∧ aQ Tryz.prog 176 [.sc (.int .u8 c)] r_ := by
 refine dZ tt_ok [] 9 [.tmp 2] (fn := Tryz.f176) Tryz.func176 rfl Tryz.call176 ⟨rfl, rfl, by simp⟩ fun K hK => ?_
 simp only [go_sem,reduceIte,zA,zB,zC,zD,zE,zF,reduceCtorEq]
 refine aN (fun dW => ?_) (fun dW => ?_)
 ·simp only [go_sem,reduceIte,zA,zB,zC,zD,zE,zF,reduceCtorEq]
  exact hK _ (congrArg bl (by simp_all [AP] <;> (intros; omega)))
 ·simp only [go_sem,reduceIte,zA,zB,zC,zD,zE,zF,reduceCtorEq]
  exact hK _ (congrArg bl (by simp_all [AP] <;> (intros; omega)))
theorem oO (c : Int) : ∃ r_, (fun w => w = bl (eC c)) r_ ∧ aQ Tryz.prog 128 [.sc (.int .u8 c)] r_ := by
 refine dZ tt_ok [] 9 [.tmp 2] (fn := Tryz.f128) Tryz.func128 rfl Tryz.call128 ⟨rfl, rfl, by simp⟩ fun K hK => ?_
 simp only [go_sem,reduceIte,zA,zB,zC,zD,zE,zF,reduceCtorEq]
 refine aN (fun dW => ?_) (fun dW => ?_)
 ·simp only [go_sem,reduceIte,zA,zB,zC,zD,zE,zF,reduceCtorEq]
  exact hK _ (congrArg bl (by simp_all [eC] <;> (intros; omega)))
 ·simp only [go_sem,reduceIte,zA,zB,zC,zD,zE,zF,reduceCtorEq]
  exact hK _ (congrArg bl (by simp_all [eC] <;> (intros; omega)))
theorem pG (c : Int) : ∃ r_, (fun w => w = bl (tW c)) r_ ∧ aQ Tryz.prog 178 [.sc (.int .u8 c)] r_ := by
 refine dZ tt_ok [] 9 [.tmp 2] (fn := Tryz.f178) Tryz.func178 rfl Tryz.call178 ⟨rfl, rfl, by simp⟩ fun K hK => ?_
 simp only [go_sem,reduceIte,zA,zB,zC,zD,zE,zF,reduceCtorEq]
 refine aN (fun dW => ?_) (fun dW => ?_)
 ·simp only [go_sem,reduceIte,zA,zB,zC,zD,zE,zF,reduceCtorEq]
  exact hK _ (congrArg bl (by simp_all [tW] <;> (intros; omega)))
 ·simp only [go_sem,reduceIte,zA,zB,zC,zD,zE,zF,reduceCtorEq]
  exact hK _ (congrArg bl (by simp_all [tW] <;> (intros; omega)))
theorem yz (c : Int) : ∃ r_, (fun w => w = bl (AP c)) r_ ∧ aQ Tryz.prog 202 [.sc (.int .u8 c)] r_ := by
 refine dZ tt_ok [] 9 [.tmp 2] (fn := Tryz.f202) Tryz.func202 rfl Tryz.call202 ⟨rfl, rfl, by simp⟩ fun K hK => ?_
 simp only [go_sem,reduceIte,zA,zB,zC,zD,zE,zF,reduceCtorEq]
 refine aN (fun dW => ?_) (fun dW => ?_)
 ·simp only [go_sem,reduceIte,zA,zB,zC,zD,zE,zF,reduceCtorEq]
  exact hK _ (congrArg bl (by simp_all [AP] <;> (intros; omega)))
 ·simp only [go_sem,reduceIte,zA,zB,zC,zD,zE,zF,reduceCtorEq]
  exact hK _ (congrArg bl (by simp_all [AP] <;> (intros; omega)))
theorem mf (c : Int) : ∃ r_, (fun w => w = bl (eC c)) r_ ∧ aQ Tryz.prog 179 [.sc (.int .u8 c)] r_ := by
 refine dZ tt_ok [] 9 [.tmp 2] (fn := Tryz.f179) Tryz.func179 rfl Tryz.call179 ⟨rfl, rfl, by simp⟩ fun K hK => ?_
 simp only [go_sem,reduceIte,zA,zB,zC,zD,zE,zF,reduceCtorEq]
 refine aN (fun dW => ?_) (fun dW => ?_)
 ·simp only [go_sem,reduceIte,zA,zB,zC,zD,zE,zF,reduceCtorEq]
  exact hK _ (congrArg bl (by simp_all [eC] <;> (intros; omega)))
 ·simp only [go_sem,reduceIte,zA,zB,zC,zD,zE,zF,reduceCtorEq]
  exact hK _ (congrArg bl (by simp_all [eC] <;> (intros; omega)))
theorem J1 (c : Int) : ∃ r_, (fun w => w = bl (ki c)) r_ ∧ aQ Tryz.prog 151 [.sc (.int .u8 c)] r_ := by
 refine dZ tt_ok [] 17 [.tmp 2] (fn := Tryz.f151) Tryz.func151 rfl Tryz.call151 ⟨rfl, rfl, by simp⟩ fun K hK => ?_
 simp only [go_sem,reduceIte,zA,zB,zC,zD,zE,zF,reduceCtorEq]
 refine cF (sN _) ?_
 rintro _ rfl
 simp only [go_sem,reduceIte,zA,zB,zC,zD,zE,zF,reduceCtorEq]
 refine aN (fun dW => ?_) (fun dW => ?_)
 ·simp only [go_sem,reduceIte,zA,zB,zC,zD,zE,zF,reduceCtorEq]
  exact hK _ (congrArg bl (by simp_all [ki]))
 ·simp only [go_sem,reduceIte,zA,zB,zC,zD,zE,zF,reduceCtorEq]
  refine cF (AQ _) ?_
  rintro _ rfl
  simp only [go_sem,reduceIte,zA,zB,zC,zD,zE,zF,reduceCtorEq]
  refine aN (fun yA => ?_) (fun yA => ?_)
  ·simp only [go_sem,reduceIte,zA,zB,zC,zD,zE,zF,reduceCtorEq]
   exact hK _ (congrArg bl (by simp_all [ki]))
  ·simp only [go_sem,reduceIte,zA,zB,zC,zD,zE,zF,reduceCtorEq]
   refine cF (oO _) ?_
   rintro _ rfl
   simp only [go_sem,reduceIte,zA,zB,zC,zD,zE,zF,reduceCtorEq]
   refine aN (fun AR => ?_) (fun AR => ?_)
   ·simp only [go_sem,reduceIte,zA,zB,zC,zD,zE,zF,reduceCtorEq]
    exact hK _ (congrArg bl (by simp_all [ki]))
   ·simp only [go_sem,reduceIte,zA,zB,zC,zD,zE,zF,reduceCtorEq]
    exact hK _ (congrArg bl (by simp_all [ki]))
theorem GK (c : Int) : ∃ r_, (fun w => w = bl (ki c)) r_ ∧ aQ Tryz.prog 199 [.sc (.int .u8 c)] r_ := by
 refine dZ tt_ok [] 17 [.tmp 2] (fn := Tryz.f199) Tryz.func199 rfl Tryz.call199 ⟨rfl, rfl, by simp⟩ fun K hK => ?_
 simp only [go_sem,reduceIte,zA,zB,zC,zD,zE,zF,reduceCtorEq]
 refine cF (pG _) ?_
 rintro _ rfl
 simp only [go_sem,reduceIte,zA,zB,zC,zD,zE,zF,reduceCtorEq]
 refine aN (fun dW => ?_) (fun dW => ?_)
 ·simp only [go_sem,reduceIte,zA,zB,zC,zD,zE,zF,reduceCtorEq]
  exact hK _ (congrArg bl (by simp_all [ki]))
 ·simp only [go_sem,reduceIte,zA,zB,zC,zD,zE,zF,reduceCtorEq]
  refine cF (yz _) ?_
  rintro _ rfl
  simp only [go_sem,reduceIte,zA,zB,zC,zD,zE,zF,reduceCtorEq]
  refine aN (fun yA => ?_) (fun yA => ?_)
  ·simp only [go_sem,reduceIte,zA,zB,zC,zD,zE,zF,reduceCtorEq]
   exact hK _ (congrArg bl (by simp_all [ki]))
  ·simp only [go_sem,reduceIte,zA,zB,zC,zD,zE,zF,reduceCtorEq]
   refine cF (mf _) ?_
   rintro _ rfl
   simp only [go_sem,reduceIte,zA,zB,zC,zD,zE,zF,reduceCtorEq]
   refine aN (fun AR => ?_) (fun AR => ?_)
   ·simp only [go_sem,reduceIte,zA,zB,zC,zD,zE,zF,reduceCtorEq]
    exact hK _ (congrArg bl (by simp_all [ki]))
   ·simp only [go_sem,reduceIte,zA,zB,zC,zD,zE,zF,reduceCtorEq]
    exact hK _ (congrArg bl (by simp_all [ki]))
theorem Sj (c : Int) : ∃ r_, (fun w => w = bl (sM c)) r_ ∧ aQ Tryz.prog 126 [.sc (.int .u8 c)] r_ := by
 refine dZ tt_ok [] 9 [.tmp 2] (fn := Tryz.f126) Tryz.func126 rfl Tryz.call126 ⟨rfl, rfl, by simp⟩ fun K hK => ?_
 simp only [go_sem,reduceIte,zA,zB,zC,zD,zE,zF,reduceCtorEq]
 refine cF (sN _) ?_
 rintro _ rfl
 simp only [go_sem,reduceIte,zA,zB,zC,zD,zE,zF,reduceCtorEq]
 refine aN (fun dW => ?_) (fun dW => ?_)
 ·simp only [go_sem,reduceIte,zA,zB,zC,zD,zE,zF,reduceCtorEq]
  exact hK _ (congrArg bl (by simp_all [sM]))
 ·simp only [go_sem,reduceIte,zA,zB,zC,zD,zE,zF,reduceCtorEq]
  refine cF (oO _) ?_
  rintro _ rfl
  simp only [go_sem,reduceIte,zA,zB,zC,zD,zE,zF,reduceCtorEq]
  exact hK _ (congrArg bl (by simp_all [sM]))
theorem wm (g : FuncId) (p : Int → Bool) (hg : ∀ c : Int, ∃ r, (fun v => v = bl (p c)) r ∧ aQ Tryz.prog g [.sc (.int .u8 c)] r) (s : ByteArray) (hs : s.size ≤ 1048576) : ∃ r_, (fun w => w = bl (fZ p s)) r_ ∧ aQ Tryz.prog 125 [str s, .sc (.func (.func g) #[] #[])] r_ := by
 refine dZ tt_ok [] 18 [.tmp 4] (fn := Tryz.f125) Tryz.func125 rfl Tryz.call125 ⟨rfl, rfl, by simp⟩ fun K hK => ?_
 have fL : Tryz.prog.underlying 9 = some .string := by kernel_rfl
 have sl : ∀ (a : ByteArray) (ty : TypeId), cI Tryz.prog (Builtin.len_ #[9] ty) [.sc (.string a)] = some (num a.size) := fun a ty => ct (P := Tryz.prog) (tt := tt) (T := 9) a fL ty
 simp only [sl,go_sem,reduceIte,zA,zB,zC,zD,zE,zF,reduceCtorEq]
 refine bx tt_ok [] [8] 0 [0,1,7] (fun vs => ((s.size : Int) - Go.Eng.intOf (vs.headD .undef)).toNat) (fun vs => ∃ i : Nat, vs = [num i] ∧ i ≤ s.size ∧ ∀ j < i, ∀ b, s[j]? = some b → p b.toNat = true) (by omega) (by simp only [sl,go_sem,reduceIte,zA,zB,zC,zD,zE,zF,reduceCtorEq]) (⟨0, rfl, Nat.zero_le _, fun j hj => absurd hj (Nat.not_lt_zero j)⟩) fun vs hI Z1 cd => ?_
 obtain ⟨i, rfl, hi, dV⟩ := hI
 simp only [sl,go_sem,reduceIte,zA,zB,zC,zD,zE,zF,reduceCtorEq]
 refine aN (fun ga => ?_) (fun ga => ?_)
 ·have az : i < s.size := by simpa using ga
  have hw := ay i (by omega)
  obtain ⟨c, kj⟩ := bW (s := s) (i := i) az
  have cV := cL (P := Tryz.prog) s fL .i64 (i : Int) (by omega) (c := c) (show s[((i : Nat) : Int).toNat]? = some c from kj)
  simp only [hw,cV,sl,go_sem,reduceIte,zA,zB,zC,zD,zE,zF,reduceCtorEq]
  refine cF (hg _) ?_
  rintro _ rfl
  simp only [hw,cV,sl,go_sem,reduceIte,zA,zB,zC,zD,zE,zF,reduceCtorEq]
  refine aN (fun kl => ?_) (fun kl => ?_)
  ·have au : false = fZ p s := (iA kj (by simpa using kl)).symm
   simp only [hw,cV,sl,go_sem,reduceIte,zA,zB,zC,zD,zE,zF,reduceCtorEq]
   exact hK _ (congrArg bl au)
  ·simp only [hw,cV,sl,go_sem,reduceIte,zA,zB,zC,zD,zE,zF,reduceCtorEq]
   refine cd _ (cC (by omega) (by simp only [hw,cV,sl,go_sem,reduceIte,zA,zB,zC,zD,zE,zF,reduceCtorEq]) ?_ ?_) <;> simp only [fh,lk,reduceIte,zE]
   ·refine ⟨i + 1, rfl, az, fun j hj b hb => ?_⟩
    rcases Nat.lt_or_ge j i with h | h
    ·exact dV j h b hb
    ·obtain rfl : j = i := by omega
     rw [kj] at hb; cases hb; simpa using kl
   ·simp only [Go.Eng.intOf,List.headD_cons]; omega
 ·have cH : ¬ i < s.size := by simpa using ga
  have au : true = fZ p s := (jC fun j hj b hb => dV j (by omega) b hb).symm
  simp only [sl,go_sem,reduceIte,zA,zB,zC,zD,zE,zF,reduceCtorEq]
  exact hK _ (congrArg bl au)
theorem GL (s : ByteArray) (hs : s.size ≤ 1048576) : ∃ r_, (fun w => w = bl (fZ ki s)) r_ ∧ aQ Tryz.prog 190 [str s] r_ := by
 refine dZ tt_ok [] 15 [.tmp 2] (fn := Tryz.f190) Tryz.func190 rfl Tryz.call190 ⟨rfl, rfl, by simp⟩ fun K hK => ?_
 have fL : Tryz.prog.underlying 9 = some .string := by kernel_rfl
 have sl : ∀ (a : ByteArray) (ty : TypeId), cI Tryz.prog (Builtin.len_ #[9] ty) [.sc (.string a)] = some (num a.size) := fun a ty => ct (P := Tryz.prog) (tt := tt) (T := 9) a fL ty
 simp only [sl,go_sem,reduceIte,zA,zB,zC,zD,zE,zF,reduceCtorEq]
 refine bx tt_ok [] [3] 0 [0] (fun vs => ((s.size : Int) - Go.Eng.intOf (vs.headD .undef)).toNat) (fun vs => ∃ i : Nat, vs = [num i] ∧ i ≤ s.size ∧ ∀ j < i, ∀ b, s[j]? = some b → ki b.toNat = true) (by omega) (by simp only [sl,go_sem,reduceIte,zA,zB,zC,zD,zE,zF,reduceCtorEq]) (⟨0, rfl, Nat.zero_le _, fun j hj => absurd hj (Nat.not_lt_zero j)⟩) fun vs hI Z1 cd => ?_
 obtain ⟨i, rfl, hi, dV⟩ := hI
 simp only [sl,go_sem,reduceIte,zA,zB,zC,zD,zE,zF,reduceCtorEq]
 refine aN (fun AS => ?_) (fun AS => ?_)
 ·have az : i < s.size := by simpa using AS
  have hw := ay i (by omega)
  obtain ⟨c, kj⟩ := bW (s := s) (i := i) az
  have cV := cL (P := Tryz.prog) s fL .i64 (i : Int) (by omega) (c := c) (show s[((i : Nat) : Int).toNat]? = some c from kj)
  simp only [hw,cV,sl,go_sem,reduceIte,zA,zB,zC,zD,zE,zF,reduceCtorEq]
  refine cF (GK _) ?_
  rintro _ rfl
  simp only [hw,cV,sl,go_sem,reduceIte,zA,zB,zC,zD,zE,zF,reduceCtorEq]
  refine aN (fun cX => ?_) (fun cX => ?_)
  ·have au : false = fZ ki s := (iA kj (by simpa using cX)).symm
   simp only [hw,cV,sl,go_sem,reduceIte,zA,zB,zC,zD,zE,zF,reduceCtorEq]
   exact hK _ (congrArg bl au)
  ·simp only [hw,cV,sl,go_sem,reduceIte,zA,zB,zC,zD,zE,zF,reduceCtorEq]
   refine cd _ (cC (by omega) (by simp only [hw,cV,sl,go_sem,reduceIte,zA,zB,zC,zD,zE,zF,reduceCtorEq]) ?_ ?_) <;> simp only [fh,lk,reduceIte,zE]
   ·refine ⟨i + 1, rfl, az, fun j hj b hb => ?_⟩
    rcases Nat.lt_or_ge j i with h | h
    ·exact dV j h b hb
    ·obtain rfl : j = i := by omega
     rw [kj] at hb; cases hb; simpa using cX
   ·simp only [Go.Eng.intOf,List.headD_cons]; omega
 ·have cH : ¬ i < s.size := by simpa using AS
  have au : true = fZ ki s := (jC fun j hj b hb => dV j (by omega) b hb).symm
  simp only [sl,go_sem,reduceIte,zA,zB,zC,zD,zE,zF,reduceCtorEq]
  exact hK _ (congrArg bl au)
end Go.Proofs.YtnfeacnbgbggfaaGreatDoor
end

section
namespace Go.Proofs.YtnfeacnbgbggfaaGreatDoor
open Go.Eng
open Nat renaming reduceAdd → zA, reduceLT → zB, reduceLeDiff → zC, reduceMul → zD, reduceEqDiff → zE, reduceSub → zF
variable [aE]
set_option maxHeartbeats 4000000
set_option maxRecDepth 100000
def er.part (v : er) (i : Nat) : Int := if i = 0 then v.mj else if i = 1 then v.mn else v.pt
theorem VU (a b c : Int) : zT Tryz.prog 151 [(0, .int .i64 a), (1, .int .i64 b), (2, .int .i64 c)] = some (.agg [num a, num b, num c]) := by kernel_rfl
theorem Om (a b c : Int) : aS Tryz.prog (Instr.index 151) (.agg [num a, num b, num c]) (num 0) = some (num a) := by kernel_rfl
theorem On (a b c : Int) : aS Tryz.prog (Instr.index 151) (.agg [num a, num b, num c]) (num 1) = some (num b) := by kernel_rfl
theorem Oo (a b c : Int) : aS Tryz.prog (Instr.index 151) (.agg [num a, num b, num c]) (num 2) = some (num c) := by kernel_rfl
theorem Sk (v : er) (i : Nat) (h : i < 3) : aS Tryz.prog (Instr.index 151) (.agg [num v.mj, num v.mn, num v.pt]) (num i) = some (num (v.part i)) := by
 obtain ⟨a, b, c⟩ := v
 match i, h with
 | 0, _ => exact Om a b c
 | 1, _ => exact On a b c
 | 2, _ => exact Oo a b c
theorem er.Sl (v : er) (i : Nat) (h : i < 3) : [num v.mj, num v.mn, num v.pt][i]? = some (num (v.part i)) := by
 obtain ⟨a, b, c⟩ := v
 match i, h with
 | 0, _ => rfl
 | 1, _ => rfl
 | 2, _ => rfl
def gf (n : Int) : Bool := decide (0 ≤ n) && decide (n ≤ 999)
def er.ok (v : er) : Bool := gf v.mj && gf v.mn && gf v.pt
theorem er.AT (v : er) : v.ok = true ↔ ∀ i < 3, gf (v.part i) = true := by
 unfold er.ok
 simp only [Bool.and_eq_true]
 constructor
 ·rintro ⟨⟨h0, h1⟩, h2⟩ i hi
  match i, hi with
  | 0, _ => exact h0
  | 1, _ => exact h1
  | 2, _ => exact h2
 ·exact fun h => ⟨⟨h 0 (by omega), h 1 (by omega)⟩, h 2 (by omega)⟩
def fk (a b : Int) : Int := if a < b then -1 else if b < a then 1 else 0
def er.cmp (a b : er) : Int := if fk a.mj b.mj ≠ 0 then fk a.mj b.mj else if fk a.mn b.mn ≠ 0 then fk a.mn b.mn else fk a.pt b.pt
theorem er.AU {a b : er} {i : Nat} (hi : i < 3) (h : ∀ j < i, fk (a.part j) (b.part j) = 0) (bL : fk (a.part i) (b.part i) ≠ 0) : a.cmp b = fk (a.part i) (b.part i) := by
 unfold er.cmp
 match i, hi with
 | 0, _ => exact if_pos bL
 | 1, _ =>
  have h0 := h 0 (by omega)
  simp only [er.part,if_true] at h0
  rw [if_neg (by rw [h0]; simp)]
  exact if_pos bL
 | 2, _ =>
  have h0 := h 0 (by omega)
  have h1 := h 1 (by omega)
  simp only [er.part,if_true] at h0 h1
  rw [if_neg (by rw [h0]; simp), if_neg (by rw [show fk a.mn b.mn = 0 from h1]; simp)]
  rfl
theorem er.cmp_eq {a b : er} (h : ∀ j < 3, fk (a.part j) (b.part j) = 0) : a.cmp b = 0 := by
 unfold er.cmp
 have h0 := h 0 (by omega)
 have h1 := h 1 (by omega)
 have h2 := h 2 (by omega)
 rw [if_neg (by rw [show fk a.mj b.mj = 0 from h0]; simp), if_neg (by rw [show fk a.mn b.mn = 0 from h1]; simp)]
 exact h2
def jO (a b : ByteArray) : Bool := Op.bytesLess a.toList b.toList
theorem aJ (a b : ByteArray) : (a.toList == b.toList) = decide (a = b) := by
 rw [Bool.eq_iff_iff, beq_iff_eq, decide_eq_true_eq]
 refine ⟨fun h => ?_, fun h => by rw [h]⟩
 rw [ByteArray.toList_eq, ByteArray.toList_eq] at h
 cases a; cases b; congr 1; exact Array.toList_inj.1 h
theorem nr (a b : ByteArray) : jO a b = decide (a.data.toList < b.data.toList) := by
 unfold jO
 rw [Proofs.bytesLess_eq, ByteArray.toList_eq, ByteArray.toList_eq]
def km (a b : ByteArray) : Int := if jO a b = true then -1 else if a = b then 0 else 1
theorem kn {v : er} (h : v.ok = true) : IntKind.i64.wrap (1000 * v.mn) = 1000 * v.mn ∧ IntKind.i64.wrap (1000 * v.mn + v.pt) = v.place ∧ 0 ≤ v.place ∧ v.place < 1000000 := by
 unfold er.ok gf at h
 simp only [Bool.and_eq_true,decide_eq_true_eq] at h
 unfold er.place
 refine ⟨IntWalk.i64_in _ (by omega), IntWalk.i64_in _ (by omega), by omega, by omega⟩
theorem sO (v : er) : ∃ r_, (fun w => w = .agg [num v.mj, num v.mn, num v.pt]) r_ ∧ aQ Tryz.prog 114 [bM v] r_ := by
 refine dZ tt_ok [] 10 [.cell 2 151] (fn := Tryz.f114) Tryz.func114 rfl Tryz.call114 ⟨rfl, rfl, by simp⟩ fun K hK => ?_
 simp only [bM]
 simp only [VU,go_sem,reduceIte,zA,zB,zC,zD,zE,zF,reduceCtorEq]
 exact hK _ rfl
theorem yB (v : er) : ∃ r_, (fun w => w = bl (v.ok)) r_ ∧ aQ Tryz.prog 78 [bM v] r_ := by
 refine dZ tt_ok [] 17 [.tmp 2] (fn := Tryz.f78) Tryz.func78 rfl Tryz.call78 ⟨rfl, rfl, by simp⟩ fun K hK => ?_
 simp only [bM]
 simp only [go_sem,reduceIte,zA,zB,zC,zD,zE,zF,reduceCtorEq]
 refine cF (by have h := sO v; simp only [bM] at h; exact h) ?_
 rintro _ rfl
 simp only [go_sem,reduceIte,zA,zB,zC,zD,zE,zF,reduceCtorEq]
 refine bx tt_ok [] [7] 1 [6] (fun vs => ((3 : Int) - Go.Eng.intOf (vs.headD .undef)).toNat) (fun vs => ∃ i : Nat, vs = [num i] ∧ i ≤ 3 ∧ ∀ j < i, gf (v.part j) = true) (by omega) (by simp only [go_sem,reduceIte,zA,zB,zC,zD,zE,zF,reduceCtorEq]) (⟨0, rfl, Nat.zero_le _, fun j hj => absurd hj (Nat.not_lt_zero j)⟩) fun vs hI Z1 cd => ?_
 obtain ⟨i, rfl, hi, aV⟩ := hI
 simp only [go_sem,reduceIte,zA,zB,zC,zD,zE,zF,reduceCtorEq]
 refine aN (fun Mh => ?_) (fun Mh => ?_)
 ·have az : i < 3 := by have := of_decide_eq_true Mh; omega
  have cV := Sk v i az
  have hw := ay i (by omega)
  simp only [cV,hw,go_sem,reduceIte,zA,zB,zC,zD,zE,zF,reduceCtorEq]
  refine aN (fun Sm => ?_) (fun Sm => ?_)
  ·have au : false = v.ok := by
    cases ho : v.ok with
    | false => rfl
    | true =>
     have h1 := v.AT.1 ho i az
     unfold gf at h1
     simp only [Bool.and_eq_true,decide_eq_true_eq] at h1
     exfalso; simp_all <;> omega
   simp only [cV,hw,go_sem,reduceIte,zA,zB,zC,zD,zE,zF,reduceCtorEq]
   exact hK _ (congrArg bl au)
  ·simp only [cV,hw,go_sem,reduceIte,zA,zB,zC,zD,zE,zF,reduceCtorEq]
   refine aN (fun ly => ?_) (fun ly => ?_)
   ·have au : false = v.ok := by
     cases ho : v.ok with
     | false => rfl
     | true =>
      have h1 := v.AT.1 ho i az
      unfold gf at h1
      simp only [Bool.and_eq_true,decide_eq_true_eq] at h1
      exfalso; simp_all <;> omega
    simp only [cV,hw,go_sem,reduceIte,zA,zB,zC,zD,zE,zF,reduceCtorEq]
    exact hK _ (congrArg bl au)
   ·simp only [cV,hw,go_sem,reduceIte,zA,zB,zC,zD,zE,zF,reduceCtorEq]
    refine cd _ (cC (by omega) (by simp only [cV,hw,go_sem,reduceIte,zA,zB,zC,zD,zE,zF,reduceCtorEq]) ?_ ?_) <;> simp only [fh,lk,reduceIte,zE]
    ·refine ⟨i + 1, rfl, az, fun j hj => ?_⟩
     rcases Nat.lt_or_ge j i with h | h
     ·exact aV j h
     ·obtain rfl : j = i := by omega
      unfold gf; simp_all <;> omega
    ·simp only [Go.Eng.intOf,List.headD_cons]; omega
 ·have cH : i = 3 := by have := of_decide_eq_false Mh; omega
  subst cH
  have au : true = v.ok := (v.AT.2 aV).symm
  simp only [go_sem,reduceIte,zA,zB,zC,zD,zE,zF,reduceCtorEq]
  exact hK _ (congrArg bl au)
end Go.Proofs.YtnfeacnbgbggfaaGreatDoor
end

section
namespace Go.Proofs.YtnfeacnbgbggfaaGreatDoor
open Go.Eng
open Nat renaming reduceAdd → zA, reduceLT → zB, reduceLeDiff → zC, reduceMul → zD, reduceEqDiff → zE, reduceSub → zF
variable [aE]
set_option maxHeartbeats 4000000
set_option maxRecDepth 100000
def J2 (l : List Int) : Int := (l.find? fun n => decide (n ≠ 0)).getD 0
theorem Oq {l : List Int} {i : Nat} {n : Int} (h : l[i]? = some n) (hn : n ≠ 0) (aV : ∀ j < i, ∀ m, l[j]? = some m → m = 0) : J2 l = n := by
 unfold J2
 have : l.find? (fun n => decide (n ≠ 0)) = some n := by
  rw [List.find?_eq_some_iff_getElem]
  refine ⟨by simpa using hn, i, (List.getElem?_eq_some_iff.1 h).1, (List.getElem?_eq_some_iff.1 h).2, fun j hj => ?_⟩
  have := aV j hj _ (List.getElem?_eq_getElem (by have := (List.getElem?_eq_some_iff.1 h).1; omega))
  simpa using this
 rw [this]; rfl
theorem GM {l : List Int} (aV : ∀ j < l.length, ∀ m, l[j]? = some m → m = 0) : J2 l = 0 := by
 unfold J2
 have : l.find? (fun n => decide (n ≠ 0)) = none := by
  rw [List.find?_eq_none]
  intro n hn
  obtain ⟨j, hj⟩ := List.mem_iff_getElem?.1 hn
  have := aV j (List.getElem?_eq_some_iff.1 hj).1 n hj
  simpa using this
 rw [this]; rfl
def Rl.cmp (a b : Rl) : Int := if km a.path b.path ≠ 0 then km a.path b.path else a.aA.cmp b.aA
theorem J3 (a b : Int) : J2 [a, b] = if a ≠ 0 then a else b := by
 unfold J2
 by_cases h : a = 0 <;> by_cases h2 : b = 0 <;> simp [h, h2]
theorem Cw (n : Int) : ∃ r_, (fun w => w = bl (false)) r_ ∧ aQ Tryz.prog 158 [num n] r_ := by
 refine dZ tt_ok [] 6 [.tmp 2] (fn := Tryz.f158) Tryz.func158 rfl Tryz.call158 ⟨rfl, rfl, by simp⟩ fun K hK => ?_
 simp only [go_sem,reduceIte,zA,zB,zC,zD,zE,zF,reduceCtorEq]
 exact hK _ (congrArg bl (by simp))
theorem Cx (s : ByteArray) : ∃ r_, (fun w => w = bl (false)) r_ ∧ aQ Tryz.prog 135 [str s] r_ := by
 refine dZ tt_ok [] 6 [.tmp 2] (fn := Tryz.f135) Tryz.func135 rfl Tryz.call135 ⟨rfl, rfl, by simp⟩ fun K hK => ?_
 simp only [go_sem,reduceIte,zA,zB,zC,zD,zE,zF,reduceCtorEq]
 exact hK _ (congrArg bl (by simp))
theorem J4 (a b : Int) : ∃ r_, (fun w => w = num (fk a b)) r_ ∧ aQ Tryz.prog 136 [num a, num b] r_ := by
 refine dZ tt_ok [] 20 [.tmp 4] (fn := Tryz.f136) Tryz.func136 rfl Tryz.call136 ⟨rfl, rfl, by simp⟩ fun K hK => ?_
 simp only [go_sem,reduceIte,zA,zB,zC,zD,zE,zF,reduceCtorEq]
 refine cF (Cw _) ?_
 rintro _ rfl
 simp only [go_sem,reduceIte,zA,zB,zC,zD,zE,zF,reduceCtorEq]
 refine cF (Cw _) ?_
 rintro _ rfl
 simp only [go_sem,reduceIte,zA,zB,zC,zD,zE,zF,reduceCtorEq]
 refine aN (fun kl => ?_) (fun kl => ?_)
 ·simp only [go_sem,reduceIte,zA,zB,zC,zD,zE,zF,reduceCtorEq]
  exact hK _ (congrArg num (by unfold fk; simp_all <;> omega))
 ·simp only [go_sem,reduceIte,zA,zB,zC,zD,zE,zF,reduceCtorEq]
  refine aN (fun nt => ?_) (fun nt => ?_)
  ·simp only [go_sem,reduceIte,zA,zB,zC,zD,zE,zF,reduceCtorEq]
   exact hK _ (congrArg num (by unfold fk; simp_all <;> omega))
  ·simp only [go_sem,reduceIte,zA,zB,zC,zD,zE,zF,reduceCtorEq]
   exact hK _ (congrArg num (by unfold fk; simp_all <;> omega))
theorem J5 (a b : ByteArray) : ∃ r_, (fun w => w = num (km a b)) r_ ∧ aQ Tryz.prog 111 [str a, str b] r_ := by
 refine dZ tt_ok [] 20 [.tmp 4] (fn := Tryz.f111) Tryz.func111 rfl Tryz.call111 ⟨rfl, rfl, by simp⟩ fun K hK => ?_
 simp only [go_sem,reduceIte,zA,zB,zC,zD,zE,zF,reduceCtorEq]
 refine cF (Cx _) ?_
 rintro _ rfl
 simp only [go_sem,reduceIte,zA,zB,zC,zD,zE,zF,reduceCtorEq]
 refine cF (Cx _) ?_
 rintro _ rfl
 simp only [go_sem,reduceIte,zA,zB,zC,zD,zE,zF,reduceCtorEq]
 refine aN (fun kl => ?_) (fun kl => ?_)
 ·simp only [go_sem,reduceIte,zA,zB,zC,zD,zE,zF,reduceCtorEq]
  exact hK _ (congrArg num (by unfold km jO; simp_all [aJ]))
 ·simp only [go_sem,reduceIte,zA,zB,zC,zD,zE,zF,reduceCtorEq]
  refine aN (fun nt => ?_) (fun nt => ?_)
  ·simp only [go_sem,reduceIte,zA,zB,zC,zD,zE,zF,reduceCtorEq]
   exact hK _ (congrArg num (by unfold km jO; simp_all [aJ]))
  ·simp only [go_sem,reduceIte,zA,zB,zC,zD,zE,zF,reduceCtorEq]
   exact hK _ (congrArg num (by unfold km jO; simp_all [aJ]))
theorem Sn (l : List Int) (hl : l.length ≤ 1048576) : ∃ r_, (fun w => w = num (J2 l)) r_ ∧ aQ Tryz.prog 110 [.slice (l.map num)] r_ := by
 refine dZ tt_ok [] 18 [.tmp 2] (fn := Tryz.f110) Tryz.func110 rfl Tryz.call110 ⟨rfl, rfl, by simp⟩ fun K hK => ?_
 simp only [List.length_map,go_sem,reduceIte,zA,zB,zC,zD,zE,zF,reduceCtorEq]
 refine bx tt_ok [] [8] 0 [3,6,7] (fun vs => ((l.length : Int) - Go.Eng.intOf (vs.headD .undef)).toNat) (fun vs => ∃ i : Nat, vs = [num i] ∧ i ≤ l.length ∧ ∀ j < i, ∀ m, l[j]? = some m → m = 0) (by omega) (by simp only [List.length_map,go_sem,reduceIte,zA,zB,zC,zD,zE,zF,reduceCtorEq]) (⟨0, rfl, Nat.zero_le _, fun j hj => absurd hj (Nat.not_lt_zero j)⟩) fun vs hI Z1 cd => ?_
 obtain ⟨i, rfl, hi, aV⟩ := hI
 simp only [List.length_map,go_sem,reduceIte,zA,zB,zC,zD,zE,zF,reduceCtorEq]
 refine aN (fun ga => ?_) (fun ga => ?_)
 ·have az : i < l.length := by simpa using ga
  have hw := ay i (by omega)
  obtain ⟨x, hx⟩ : ∃ x, l[i]? = some x := ⟨_, List.getElem?_eq_getElem az⟩
  simp only [hw,List.getElem?_map,hx,List.length_map,go_sem,reduceIte,zA,zB,zC,zD,zE,zF,reduceCtorEq]
  refine aN (fun cX => ?_) (fun cX => ?_)
  ·have au : x = J2 l := (Oq hx (by simpa using cX) aV).symm
   simp only [hw,List.getElem?_map,hx,List.length_map,go_sem,reduceIte,zA,zB,zC,zD,zE,zF,reduceCtorEq]
   exact hK _ (congrArg num au)
  ·simp only [hw,List.getElem?_map,hx,List.length_map,go_sem,reduceIte,zA,zB,zC,zD,zE,zF,reduceCtorEq]
   refine cd _ (cC (by omega) (by simp only [hw,List.getElem?_map,hx,List.length_map,go_sem,reduceIte,zA,zB,zC,zD,zE,zF,reduceCtorEq]) ?_ ?_) <;> simp only [fh,lk,reduceIte,zE]
   ·refine ⟨i + 1, rfl, az, fun j hj => ?_⟩
    rcases Nat.lt_or_ge j i with h | h
    ·exact aV j h
    ·obtain rfl : j = i := by omega
     intro m hm
     rw [hx] at hm; cases hm; simpa using cX
   ·simp only [Go.Eng.intOf,List.headD_cons]; omega
 ·have cH : ¬ i < l.length := by simpa using ga
  have au : 0 = J2 l := (GM fun j hj => aV j (by omega)).symm
  simp only [List.length_map,go_sem,reduceIte,zA,zB,zC,zD,zE,zF,reduceCtorEq]
  exact hK _ (congrArg num au)
end Go.Proofs.YtnfeacnbgbggfaaGreatDoor
end

section
namespace Go.Proofs.YtnfeacnbgbggfaaGreatDoor
open Go.Eng
variable [aE]
theorem VV {P : Program} {T : TypeId} (hT : P.underlying T = some .string) (d : Nat) (a b : ByteArray) : aF P (Op.equalIn (d + 1) T (.string a) (.string b)) = some (a == b) := by
 rw [Op.equalIn, aM, cr hT]
 rfl
theorem GN {P : Program} {T : TypeId} (hT : P.underlying T = some (.int .i64)) (d : Nat) (a b : Int) : aF P (Op.equalIn (d + 1) T (.int .i64 a) (.int .i64 b)) = some (a == b) := by
 rw [Op.equalIn, aM, cr hT]
 rfl
theorem Ot (d : Nat) (a b c e : Int) : aF Tryz.prog (Op.equalIn (d + 1 + 1) 78 (.agg #[.int .i64 a, .int .i64 b]) (.agg #[.int .i64 c, .int .i64 e])) = some (a == c && b == e) := by
 have q1 := GN Tryz.underlying3 d a c
 have q2 := GN Tryz.underlying3 d b e
 have hs : Tryz.prog.stoodInHeld 78 = false := by kernel_rfl
 have jc : ∀ x y, aF Tryz.prog (part 3 #[x, y] 0) = some x := fun x y => by kernel_rfl
 have pc : ∀ x y, aF Tryz.prog (part 3 #[x, y] 1) = some y := fun x y => by kernel_rfl
 rw [Op.equalIn, aM, cr Tryz.underlying78]
 dsimp only [Option.bind_some]
 rw [aM]
 show ((some Tryz.prog).bind _) = _
 rw [Option.bind_some, if_neg (by rw [hs]; simp)]
 rw [← Array.forIn_toList]
 have n1 : ("From" ≠ "_") := by decide
 have n2 : ("To" ≠ "_") := by decide
 have pr : ∀ {α : Type} (x : α), aF Tryz.prog (pure x : Sem α) = some x := fun x => rfl
 simp only [List.forIn_cons,List.forIn_nil,aM,if_pos n1,if_pos n2,jc,pc,Option.bind_some,q1,pr]
 cases YX : (a == c)
 ·simp [pr, Option.bind_some]
 ·simp only [Bool.not_true,Bool.false_eq_true,if_false,pr,Option.bind_some,aM,if_pos n2,pc,q2,Bool.true_and]
  cases eO : (b == e) <;> simp [pr, aM]
theorem GO (n : Nat) (a b c x y z : Int) : aF Tryz.prog (Op.equalIn (n + 1 + 1) 38 (.agg #[.int .i64 a, .int .i64 b, .int .i64 c]) (.agg #[.int .i64 x, .int .i64 y, .int .i64 z])) = some (a == x && (b == y && c == z)) := by
 have q1 := GN Tryz.underlying3 n a x
 have q2 := GN Tryz.underlying3 n b y
 have q3 := GN Tryz.underlying3 n c z
 have hs : Tryz.prog.stoodInHeld 38 = false := by kernel_rfl
 have jc : ∀ x y z, aF Tryz.prog (part 3 #[x, y, z] 0) = some x := fun x y z => by kernel_rfl
 have pc : ∀ x y z, aF Tryz.prog (part 3 #[x, y, z] 1) = some y := fun x y z => by kernel_rfl
 have VW : ∀ x y z, aF Tryz.prog (part 3 #[x, y, z] 2) = some z := fun x y z => by kernel_rfl
 rw [Op.equalIn, aM, cr Tryz.underlying38]
 dsimp only [Option.bind_some]
 rw [aM]
 show ((some Tryz.prog).bind _) = _
 rw [Option.bind_some, if_neg (by rw [hs]; simp)]
 rw [← Array.forIn_toList]
 have n1 : ("Major" ≠ "_") := by decide
 have n2 : ("Minor" ≠ "_") := by decide
 have n3 : ("Patch" ≠ "_") := by decide
 have pr : ∀ {α : Type} (x : α), aF Tryz.prog (pure x : Sem α) = some x := fun x => rfl
 simp only [List.forIn_cons,List.forIn_nil,aM,if_pos n1,if_pos n2,if_pos n3,jc,pc,VW,Option.bind_some,q1,pr]
 cases h1 : (a == x)
 ·simp [pr, Option.bind_some]
 ·simp only [Bool.not_true,Bool.false_eq_true,if_false,pr,Option.bind_some,aM,if_pos n2,if_pos n3,pc,VW,q2,q3,Bool.true_and]
  cases h2 : (b == y)
  ·simp [pr, aM]
  ·simp only [Bool.not_true,Bool.false_eq_true,if_false,pr,Option.bind_some,aM,if_pos n3,VW,q3,Bool.true_and]
   cases h3 : (c == z) <;> simp [pr, aM]
theorem Ou (n : Nat) (s t : ByteArray) (a b c x y z : Int) : aF Tryz.prog (Op.equalIn (n + 1 + 1 + 1) 54 (.agg #[.string s, .int .i64 a, .int .i64 b, .int .i64 c]) (.agg #[.string t, .int .i64 x, .int .i64 y, .int .i64 z])) = some (s == t && (a == x && (b == y && c == z))) := by
 have q1 := VV Tryz.underlying9 (n + 1) s t
 have q2 := GO n a b c x y z
 have hs : Tryz.prog.stoodInHeld 54 = false := by kernel_rfl
 have jc : ∀ x y z u, aF Tryz.prog (part 9 #[x, y, z, u] 0) = some x := fun x y z u => by kernel_rfl
 have pc : ∀ x y z u, aF Tryz.prog (part 38 #[x, y, z, u] 1) = some (.agg #[y, z, u]) := fun x y z u => by kernel_rfl
 rw [Op.equalIn, aM, cr Tryz.underlying54]
 dsimp only [Option.bind_some]
 rw [aM]
 show ((some Tryz.prog).bind _) = _
 rw [Option.bind_some, if_neg (by rw [hs]; simp)]
 rw [← Array.forIn_toList]
 have n1 : ("Path" ≠ "_") := by decide
 have n2 : ("Version" ≠ "_") := by decide
 have pr : ∀ {α : Type} (x : α), aF Tryz.prog (pure x : Sem α) = some x := fun x => rfl
 simp only [List.forIn_cons,List.forIn_nil,aM,if_pos n1,if_pos n2,jc,pc,Option.bind_some,q1,pr]
 cases YX : (s == t)
 ·simp [pr, Option.bind_some]
 ·simp only [Bool.not_true,Bool.false_eq_true,if_false,pr,Option.bind_some,aM,if_pos n2,pc,q2,Bool.true_and]
  cases eO : (a == x && (b == y && c == z)) <;> simp [pr, aM]
theorem VX (u v : bF) : aF Tryz.prog (Op.equal 78 (.agg #[.int .i64 u.lo, .int .i64 u.hi]) (.agg #[.int .i64 v.lo, .int .i64 v.hi])) = some (decide (u = v)) := by
 rw [show Op.equal 78 = Op.equalIn (9998 + 1 + 1) 78 from rfl, Ot]
 congr 1
 rw [Bool.eq_iff_iff]
 simp only [Bool.and_eq_true,beq_iff_eq,decide_eq_true_eq]
 exact ⟨fun h => bF.ext' h.1 h.2, fun h => by subst h; exact ⟨rfl, rfl⟩⟩
theorem VY (u v : er) : aF Tryz.prog (Op.equal 38 (.agg #[.int .i64 u.mj, .int .i64 u.mn, .int .i64 u.pt]) (.agg #[.int .i64 v.mj, .int .i64 v.mn, .int .i64 v.pt])) = some (decide (u = v)) := by
 rw [show Op.equal 38 = Op.equalIn (9998 + 1 + 1) 38 from rfl, GO]
 congr 1
 rw [Bool.eq_iff_iff]
 simp only [Bool.and_eq_true,beq_iff_eq,decide_eq_true_eq]
 exact ⟨fun h => er.ext' h.1 h.2.1 h.2.2, fun h => by subst h; exact ⟨rfl, rfl, rfl⟩⟩
def aL (s : dA) : Value := .agg #[.string s.path, .int .i64 s.aA.mj, .int .i64 s.aA.mn, .int .i64 s.aA.pt]
theorem Ov (u v : dA) : aF Tryz.prog (Op.equal 54 (aL u) (aL v)) = some (decide (u = v)) := by
 unfold aL
 rw [show Op.equal 54 = Op.equalIn (9997 + 1 + 1 + 1) 54 from rfl, Ou]
 congr 1
 rw [Bool.eq_iff_iff]
 simp only [Bool.and_eq_true,beq_iff_eq,decide_eq_true_eq,hD]
 exact ⟨fun h => dA.ext' h.1 (er.ext' h.2.1 h.2.2.1 h.2.2.2), fun h => by subst h; exact ⟨rfl, rfl, rfl, rfl⟩⟩
theorem bH (x y : Operand) (u v : bF) : aS Tryz.prog (fI .neq 78 x y) (.agg [num u.lo, num u.hi]) (.agg [num v.lo, num v.hi]) = some (bl (!decide (u = v))) := by
 have : aF Tryz.prog (do eqGuard .neq 78 x y (.agg #[.int .i64 u.lo, .int .i64 u.hi]) (.agg #[.int .i64 v.lo, .int .i64 v.hi]); binOp .neq 78 (.agg #[.int .i64 u.lo, .int .i64 u.hi]) (.agg #[.int .i64 v.lo, .int .i64 v.hi])) = some (.bool (!decide (u = v))) := by
  have hg : aF Tryz.prog (eqGuard .neq 78 x y (.agg #[.int .i64 u.lo, .int .i64 u.hi]) (.agg #[.int .i64 v.lo, .int .i64 v.hi])) = some () := by kernel_rfl
  rw [aM, hg, Option.bind_some]
  have hb : ∀ u v : Array Value, binOp .neq 78 (.agg u) (.agg v) = (Op.equal 78 (.agg u) (.agg v) >>= fun r => Pure.pure (Value.bool !r)) := fun u v => rfl
  rw [hb, aM, VX]; rfl
 simp only [aS,bw,mH,fI]
 rw [this]; rfl
theorem cO (x y : Operand) (u v : er) : aS Tryz.prog (fI .eql 38 x y) (.agg [num u.mj, num u.mn, num u.pt]) (.agg [num v.mj, num v.mn, num v.pt]) = some (bl (decide (u = v))) := by
 have : aF Tryz.prog (do eqGuard .eql 38 x y (.agg #[.int .i64 u.mj, .int .i64 u.mn, .int .i64 u.pt]) (.agg #[.int .i64 v.mj, .int .i64 v.mn, .int .i64 v.pt]); binOp .eql 38 (.agg #[.int .i64 u.mj, .int .i64 u.mn, .int .i64 u.pt]) (.agg #[.int .i64 v.mj, .int .i64 v.mn, .int .i64 v.pt])) = some (.bool (decide (u = v))) := by
  have hg : aF Tryz.prog (eqGuard .eql 38 x y (.agg #[.int .i64 u.mj, .int .i64 u.mn, .int .i64 u.pt]) (.agg #[.int .i64 v.mj, .int .i64 v.mn, .int .i64 v.pt])) = some () := by kernel_rfl
  rw [aM, hg, Option.bind_some]
  have hb : ∀ u v : Array Value, binOp .eql 38 (.agg u) (.agg v) = (Op.equal 38 (.agg u) (.agg v) >>= fun r => Pure.pure (Value.bool r)) := fun u v => rfl
  rw [hb, aM, VY]; rfl
 simp only [aS,bw,mH,fI]
 rw [this]; rfl
theorem GQ (x y : Operand) (u v : dA) : aS Tryz.prog (fI .eql 54 x y) (.agg [str u.path, num u.aA.mj, num u.aA.mn, num u.aA.pt]) (.agg [str v.path, num v.aA.mj, num v.aA.mn, num v.aA.pt]) = some (bl (decide (u = v))) := by
 have : aF Tryz.prog (do eqGuard .eql 54 x y (aL u) (aL v); binOp .eql 54 (aL u) (aL v)) = some (.bool (decide (u = v))) := by
  have hg : aF Tryz.prog (eqGuard .eql 54 x y (aL u) (aL v)) = some () := by unfold aL; kernel_rfl
  rw [aM, hg, Option.bind_some]
  have hb : ∀ u v : Array Value, binOp .eql 54 (.agg u) (.agg v) = (Op.equal 54 (.agg u) (.agg v) >>= fun r => Pure.pure (Value.bool r)) := fun u v => rfl
  unfold aL
  rw [hb, aM]
  have := Ov u v
  unfold aL at this
  rw [this]; rfl
 unfold aL at this
 simp only [aS,bw,mH,fI]
 rw [this]; rfl
theorem eD (x y : Operand) (u v : dA) : aS Tryz.prog (fI .neq 54 x y) (.agg [str u.path, num u.aA.mj, num u.aA.mn, num u.aA.pt]) (.agg [str v.path, num v.aA.mj, num v.aA.mn, num v.aA.pt]) = some (bl (!decide (u = v))) := by
 have : aF Tryz.prog (do eqGuard .neq 54 x y (aL u) (aL v); binOp .neq 54 (aL u) (aL v)) = some (.bool (!decide (u = v))) := by
  have hg : aF Tryz.prog (eqGuard .neq 54 x y (aL u) (aL v)) = some () := by unfold aL; kernel_rfl
  rw [aM, hg, Option.bind_some]
  have hb : ∀ u v : Array Value, binOp .neq 54 (.agg u) (.agg v) = (Op.equal 54 (.agg u) (.agg v) >>= fun r => Pure.pure (Value.bool !r)) := fun u v => rfl
  unfold aL
  rw [hb, aM]
  have := Ov u v
  unfold aL at this
  rw [this]; rfl
 unfold aL at this
 simp only [aS,bw,mH,fI]
 rw [this]; rfl
end Go.Proofs.YtnfeacnbgbggfaaGreatDoor
end

section
namespace Go.Proofs.YtnfeacnbgbggfaaGreatDoor
open Go.Eng
open Nat renaming reduceAdd → zA, reduceLT → zB, reduceLeDiff → zC, reduceMul → zD, reduceEqDiff → zE, reduceSub → zF
variable [aE]
set_option maxHeartbeats 4000000
set_option maxRecDepth 100000
def er.pl (v : er) : Int := if v.ok = true then v.place else 0
def mR (p : Int) (x : bF) : Bool := decide (x.lo ≤ p) && decide (p < x.hi)
theorem wo {α : Type} {q : α → Bool} {l : List α} {i : Nat} {x : α} (h : l[i]? = some x) (hq : q x = true) : l.any q = true := List.any_eq_true.2 ⟨x, List.mem_of_getElem? h, hq⟩
theorem any_none {α : Type} {q : α → Bool} {l : List α} (h : ∀ j < l.length, ∀ x, l[j]? = some x → q x = false) : l.any q = false := by
 rw [List.any_eq_false]
 intro x hx
 obtain ⟨j, hj⟩ := List.mem_iff_getElem?.1 hx
 rw [h j (List.getElem?_eq_some_iff.1 hj).1 x hj]; simp
theorem has_eq (s : List bF) (p : Int) : has s p = (decide (0 ≤ p) && decide (p < 1000000) && s.any (mR p)) := rfl
theorem Cy (s : List bF) (p : Int) : (s.any fun x => decide (max 0 x.lo ≤ p) && decide (p < min 1000000 x.hi)) = has s p := by
 rw [has_eq, Bool.eq_iff_iff]
 simp only [List.any_eq_true,Bool.and_eq_true,decide_eq_true_eq,mR]
 constructor
 ·rintro ⟨x, hx, h1, h2⟩; exact ⟨⟨by omega, by omega⟩, x, hx, by omega, by omega⟩
 ·rintro ⟨⟨h1, h2⟩, x, hx, h3, h4⟩; exact ⟨x, hx, by omega, by omega⟩
theorem ko {α : Type} {xs ys : List α} (hl : xs.length = ys.length) (h : ∀ j < xs.length, xs[j]? = ys[j]?) : xs = ys := by
 apply List.ext_getElem?
 intro j
 rcases Nat.lt_or_ge j xs.length with hj | hj
 ·exact h j hj
 ·rw [List.getElem?_eq_none hj, List.getElem?_eq_none (by omega)]
theorem kp (r : Rl) : ∃ r_, (fun w => w = aH r.key) r_ ∧ aQ Tryz.prog 47 [ag r] r_ := by
 refine dZ tt_ok [] 8 [.cell 2 54] (fn := Tryz.f47) Tryz.func47 rfl Tryz.call47 ⟨rfl, rfl, by simp⟩ fun K hK => ?_
 simp only [ag,ab]
 simp only [go_sem,reduceIte,zA,zB,zC,zD,zE,zF,reduceCtorEq]
 exact hK _ rfl
theorem D3 (v : er) : ∃ r_, (fun w => w = .bP [num v.pl, num (if v.ok = true then 0 else 2)]) r_ ∧ aQ Tryz.prog 25 [bM v] r_ := by
 refine dZ tt_ok [] 13 [.tmp 2, .tmp 3] (fn := Tryz.f25) Tryz.func25 rfl Tryz.call25 ⟨rfl, rfl, by simp⟩ fun K hK => ?_
 simp only [bM]
 simp only [go_sem,reduceIte,zA,zB,zC,zD,zE,zF,reduceCtorEq]
 refine cF (by have h := yB v; simp only [bM] at h; exact h) ?_
 rintro _ rfl
 simp only [go_sem,reduceIte,zA,zB,zC,zD,zE,zF,reduceCtorEq]
 refine aN (fun GR => ?_) (fun GR => ?_)
 ·have ho : v.ok = false := by simpa using GR
  have hp : v.pl = 0 := by unfold er.pl; rw [ho]; rfl
  simp only [go_sem,reduceIte,zA,zB,zC,zD,zE,zF,reduceCtorEq]
  refine hK _ ?_
  rw [hp, ho]
  rfl
 ·have ho : v.ok = true := by simpa using GR
  have hp : v.pl = v.place := if_pos ho
  obtain ⟨w1, w2, -, -⟩ := kn ho
  simp only [w1,w2,go_sem,reduceIte,zA,zB,zC,zD,zE,zF,reduceCtorEq]
  refine hK _ ?_
  rw [hp, ho]
  rfl
theorem iB (r : Rl) : ∃ r_, (fun w => w = num (r.aA.pl)) r_ ∧ aQ Tryz.prog 48 [ag r] r_ := by
 refine dZ tt_ok [] 12 [.tmp 2] (fn := Tryz.f48) Tryz.func48 rfl Tryz.call48 ⟨rfl, rfl, by simp⟩ fun K hK => ?_
 simp only [ag,ab]
 simp only [go_sem,reduceIte,zA,zB,zC,zD,zE,zF,reduceCtorEq]
 refine cF (by have h := D3 r.aA; simp only [bM] at h; exact h) ?_
 rintro _ rfl
 simp only [go_sem,reduceIte,zA,zB,zC,zD,zE,zF,reduceCtorEq]
 exact hK _ rfl
theorem J6 (p : Int) (x : bF) : ∃ r_, (fun w => w = bl (mR p x)) r_ ∧ aT Tryz.prog 81 [ak x, .ptr 0 0] ([.box [num p]]) r_ ([.box [num p]]) := by
 refine E9 tt_ok [] 14 [.tmp 3] (fn := Tryz.f81) Tryz.func81 rfl Tryz.call81 ⟨rfl, rfl, by simp⟩ fun K hK => ?_
 simp only [ak]
 simp only [go_sem,reduceIte,zA,zB,zC,zD,zE,zF,reduceCtorEq]
 refine aN (fun Sp => ?_) (fun Sp => ?_)
 ·simp only [go_sem,reduceIte,zA,zB,zC,zD,zE,zF,reduceCtorEq]
  refine hK _ _ ⟨congrArg bl ?_, rfl⟩
  unfold mR; simp_all <;> (intros; omega)
 ·simp only [go_sem,reduceIte,zA,zB,zC,zD,zE,zF,reduceCtorEq]
  refine hK _ _ ⟨congrArg bl ?_, rfl⟩
  unfold mR; simp_all <;> (intros; omega)
theorem D4 (p : Int) (s : List bF) (hl : s.length ≤ 1048576) : ∃ r_, (fun w => ∃ k : Int, w = num k ∧ decide (0 ≤ k) = s.any (mR p)) r_ ∧ aT Tryz.prog 115 [al s, .fM (.func 81) [] [.ptr 0 0]] ([.box [num p]]) r_ ([.box [num p]]) := by
 refine E9 tt_ok [] 19 [.tmp 4] (fn := Tryz.f115) Tryz.func115 rfl Tryz.call115 ⟨rfl, rfl, by simp⟩ fun K hK => ?_
 simp only [al]
 simp only [List.length_map,go_sem,reduceIte,zA,zB,zC,zD,zE,zF,reduceCtorEq]
 refine bx tt_ok [] [8] 1 [0,1,7] (fun vs => ((s.length : Int) - Go.Eng.intOf (vs.headD .undef)).toNat) (fun vs => ∃ i : Nat, vs = [num i] ∧ i ≤ s.length ∧ ∀ j < i, ∀ x, s[j]? = some x → mR p x = false) (by omega) (by simp only [List.length_map,go_sem,reduceIte,zA,zB,zC,zD,zE,zF,reduceCtorEq]) (⟨0, rfl, Nat.zero_le _, fun j hj => absurd hj (Nat.not_lt_zero j)⟩) fun vs hI Z1 cd => ?_
 obtain ⟨i, rfl, hi, aV⟩ := hI
 simp only [List.length_map,go_sem,reduceIte,zA,zB,zC,zD,zE,zF,reduceCtorEq]
 refine aN (fun ga => ?_) (fun ga => ?_)
 ·have az : i < s.length := by simpa using ga
  have hw := ay i (by omega)
  obtain ⟨x, hx⟩ : ∃ x, s[i]? = some x := ⟨_, List.getElem?_eq_getElem az⟩
  simp only [hw,List.getElem?_map,hx,ak,List.length_map,go_sem,reduceIte,zA,zB,zC,zD,zE,zF,reduceCtorEq]
  refine cS (by have h := J6 p x; simp only [ak] at h; exact h) ?_
  rintro _ rfl
  simp only [hw,List.getElem?_map,hx,ak,List.length_map,go_sem,reduceIte,zA,zB,zC,zD,zE,zF,reduceCtorEq]
  refine aN (fun kl => ?_) (fun kl => ?_)
  ·have au : decide (0 ≤ (i : Int)) = s.any (mR p) := by rw [wo hx kl]; exact decide_eq_true (Int.natCast_nonneg i)
   simp only [hw,List.getElem?_map,hx,ak,List.length_map,go_sem,reduceIte,zA,zB,zC,zD,zE,zF,reduceCtorEq]
   exact hK _ _ ⟨⟨_, rfl, au⟩, rfl⟩
  ·simp only [hw,List.getElem?_map,hx,ak,List.length_map,go_sem,reduceIte,zA,zB,zC,zD,zE,zF,reduceCtorEq]
   refine cd _ (cC (by omega) (by simp only [hw,List.getElem?_map,hx,ak,List.length_map,go_sem,reduceIte,zA,zB,zC,zD,zE,zF,reduceCtorEq]) ?_ ?_) <;> simp only [fh,lk,reduceIte,zE]
   ·refine ⟨i + 1, rfl, az, fun j hj => ?_⟩
    rcases Nat.lt_or_ge j i with h | h
    ·exact aV j h
    ·obtain rfl : j = i := by omega
     intro y hy
     rw [hx] at hy; cases hy; exact kl
   ·simp only [Go.Eng.intOf,List.headD_cons]; omega
 ·have cH : ¬ i < s.length := by simpa using ga
  have au : decide (0 ≤ (-1 : Int)) = s.any (mR p) := (any_none fun j hj => aV j (by omega)).symm ▸ rfl
  simp only [List.length_map,go_sem,reduceIte,zA,zB,zC,zD,zE,zF,reduceCtorEq]
  exact hK _ _ ⟨⟨_, rfl, au⟩, rfl⟩
theorem D5 (p : Int) (s : List bF) (hl : s.length ≤ 1048576) : ∃ r_, (fun w => w = bl (s.any (mR p))) r_ ∧ aT Tryz.prog 80 [al s, .fM (.func 81) [] [.ptr 0 0]] ([.box [num p]]) r_ ([.box [num p]]) := by
 refine E9 tt_ok [] 9 [.tmp 4] (fn := Tryz.f80) Tryz.func80 rfl Tryz.call80 ⟨rfl, rfl, by simp⟩ fun K hK => ?_
 simp only [al]
 simp only [go_sem,reduceIte,zA,zB,zC,zD,zE,zF,reduceCtorEq]
 refine cS (by have h := D4 p s hl; simp only [al] at h; exact h) ?_
 rintro _ ⟨k, rfl, hk⟩
 simp only [go_sem,reduceIte,zA,zB,zC,zD,zE,zF,reduceCtorEq]
 exact hK _ _ ⟨congrArg bl hk, rfl⟩
theorem AV (s : List bF) (p : Int) (hl : s.length ≤ 1048576) : ∃ r_, (fun w => w = bl (has s p)) r_ ∧ aQ Tryz.prog 28 [al s, num p] r_ := by
 refine dZ tt_ok [] 16 [.tmp 4] (fn := Tryz.f28) Tryz.func28 rfl Tryz.call28 ⟨rfl, rfl, by simp⟩ fun K hK => ?_
 simp only [al]
 simp only [go_sem,reduceIte,zA,zB,zC,zD,zE,zF,reduceCtorEq]
 refine aN (fun dW => ?_) (fun dW => ?_)
 ·simp only [go_sem,reduceIte,zA,zB,zC,zD,zE,zF,reduceCtorEq]
  refine aN (fun yA => ?_) (fun yA => ?_)
  ·simp only [go_sem,reduceIte,zA,zB,zC,zD,zE,zF,reduceCtorEq]
   refine cS (by have h := D5 p s hl; simp only [al] at h; exact h) ?_
   rintro _ rfl
   simp only [go_sem,reduceIte,zA,zB,zC,zD,zE,zF,reduceCtorEq]
   refine hK _ (congrArg bl ?_)
   rw [has_eq]; simp_all <;> (intros; omega)
  ·simp only [go_sem,reduceIte,zA,zB,zC,zD,zE,zF,reduceCtorEq]
   refine hK _ (congrArg bl ?_)
   rw [has_eq]; simp_all <;> (intros; omega)
 ·simp only [go_sem,reduceIte,zA,zB,zC,zD,zE,zF,reduceCtorEq]
  refine hK _ (congrArg bl ?_)
  rw [has_eq]; simp_all <;> (intros; omega)
theorem sP (n : Int) : ∃ r_, (fun w => w = bl (gf n)) r_ ∧ aQ Tryz.prog 121 [num n] r_ := by
 refine dZ tt_ok [] 9 [.tmp 2] (fn := Tryz.f121) Tryz.func121 rfl Tryz.call121 ⟨rfl, rfl, by simp⟩ fun K hK => ?_
 simp only [go_sem,reduceIte,zA,zB,zC,zD,zE,zF,reduceCtorEq]
 refine aN (fun dW => ?_) (fun dW => ?_)
 ·simp only [go_sem,reduceIte,zA,zB,zC,zD,zE,zF,reduceCtorEq]
  exact hK _ (congrArg bl (by unfold gf; simp_all <;> (intros; omega)))
 ·simp only [go_sem,reduceIte,zA,zB,zC,zD,zE,zF,reduceCtorEq]
  exact hK _ (congrArg bl (by unfold gf; simp_all <;> (intros; omega)))
theorem D6 (v : er) : ∃ r_, (fun w => w = bl (v.ok)) r_ ∧ aQ Tryz.prog 94 [bM v] r_ := by
 refine dZ tt_ok [] 16 [.tmp 2] (fn := Tryz.f94) Tryz.func94 rfl Tryz.call94 ⟨rfl, rfl, by simp⟩ fun K hK => ?_
 simp only [bM]
 simp only [go_sem,reduceIte,zA,zB,zC,zD,zE,zF,reduceCtorEq]
 refine cF (sP _) ?_
 rintro _ rfl
 simp only [go_sem,reduceIte,zA,zB,zC,zD,zE,zF,reduceCtorEq]
 refine aN (fun kM => ?_) (fun kM => ?_)
 ·simp only [go_sem,reduceIte,zA,zB,zC,zD,zE,zF,reduceCtorEq]
  refine cF (sP _) ?_
  rintro _ rfl
  simp only [go_sem,reduceIte,zA,zB,zC,zD,zE,zF,reduceCtorEq]
  refine aN (fun uO => ?_) (fun uO => ?_)
  ·simp only [go_sem,reduceIte,zA,zB,zC,zD,zE,zF,reduceCtorEq]
   refine cF (sP _) ?_
   rintro _ rfl
   simp only [go_sem,reduceIte,zA,zB,zC,zD,zE,zF,reduceCtorEq]
   exact hK _ (congrArg bl (by unfold er.ok; simp_all))
  ·simp only [go_sem,reduceIte,zA,zB,zC,zD,zE,zF,reduceCtorEq]
   exact hK _ (congrArg bl (by unfold er.ok; simp_all))
 ·simp only [go_sem,reduceIte,zA,zB,zC,zD,zE,zF,reduceCtorEq]
  exact hK _ (congrArg bl (by unfold er.ok; simp_all))
theorem Cz (s : List bF) (p : Int) (hl : s.length ≤ 1048576) : ∃ r_, (fun w => w = bl (has s p)) r_ ∧ aQ Tryz.prog 92 [al s, num p] r_ := by
 refine dZ tt_ok [] 30 [.tmp 4] (fn := Tryz.f92) Tryz.func92 rfl Tryz.call92 ⟨rfl, rfl, by simp⟩ fun K hK => ?_
 simp only [al]
 simp only [List.length_map,go_sem,reduceIte,zA,zB,zC,zD,zE,zF,reduceCtorEq]
 refine bx tt_ok [] [5] 0 [0,1] (fun vs => ((s.length : Int) - Go.Eng.intOf (vs.headD .undef)).toNat) (fun vs => ∃ i : Nat, vs = [num i] ∧ i ≤ s.length ∧ ∀ j < i, ∀ x, s[j]? = some x → (decide (max 0 x.lo ≤ p) && decide (p < min 1000000 x.hi)) = false) (by omega) (by simp only [List.length_map,go_sem,reduceIte,zA,zB,zC,zD,zE,zF,reduceCtorEq]) (⟨0, rfl, Nat.zero_le _, fun j hj => absurd hj (Nat.not_lt_zero j)⟩) fun vs hI Z1 cd => ?_
 obtain ⟨i, rfl, hi, aV⟩ := hI
 simp only [List.length_map,go_sem,reduceIte,zA,zB,zC,zD,zE,zF,reduceCtorEq]
 refine aN (fun ga => ?_) (fun ga => ?_)
 ·have az : i < s.length := by simpa using ga
  have hw := ay i (by omega)
  obtain ⟨x, hx⟩ : ∃ x, s[i]? = some x := ⟨_, List.getElem?_eq_getElem az⟩
  simp only [hw,List.getElem?_map,hx,ak,List.length_map,go_sem,reduceIte,zA,zB,zC,zD,zE,zF,reduceCtorEq]
  refine aN (fun GU => ?_) (fun GU => ?_)
  ·simp only [hw,List.getElem?_map,hx,ak,List.length_map,go_sem,reduceIte,zA,zB,zC,zD,zE,zF,reduceCtorEq]
   refine aN (fun tX => ?_) (fun tX => ?_)
   ·have au : true = has s p := by rw [← Cy]; exact (wo hx (by simp_all <;> omega)).symm
    simp only [hw,List.getElem?_map,hx,ak,List.length_map,go_sem,reduceIte,zA,zB,zC,zD,zE,zF,reduceCtorEq]
    exact hK _ (congrArg bl au)
   ·simp only [hw,List.getElem?_map,hx,ak,List.length_map,go_sem,reduceIte,zA,zB,zC,zD,zE,zF,reduceCtorEq]
    refine cd _ (cC (by omega) (by simp only [hw,List.getElem?_map,hx,ak,List.length_map,go_sem,reduceIte,zA,zB,zC,zD,zE,zF,reduceCtorEq]) ?_ ?_) <;> simp only [fh,lk,reduceIte,zE]
    ·refine ⟨i + 1, rfl, az, fun j hj => ?_⟩
     rcases Nat.lt_or_ge j i with h | h
     ·exact aV j h
     ·obtain rfl : j = i := by omega
      intro y hy
      rw [hx] at hy; cases hy; simp_all <;> omega
    ·simp only [Go.Eng.intOf,List.headD_cons]; omega
  ·simp only [hw,List.getElem?_map,hx,ak,List.length_map,go_sem,reduceIte,zA,zB,zC,zD,zE,zF,reduceCtorEq]
   refine cd _ (cC (by omega) (by simp only [hw,List.getElem?_map,hx,ak,List.length_map,go_sem,reduceIte,zA,zB,zC,zD,zE,zF,reduceCtorEq]) ?_ ?_) <;> simp only [fh,lk,reduceIte,zE]
   ·refine ⟨i + 1, rfl, az, fun j hj => ?_⟩
    rcases Nat.lt_or_ge j i with h | h
    ·exact aV j h
    ·obtain rfl : j = i := by omega
     intro y hy
     rw [hx] at hy; cases hy; simp_all <;> omega
   ·simp only [Go.Eng.intOf,List.headD_cons]; omega
 ·have cH : ¬ i < s.length := by simpa using ga
  have au : false = has s p := by rw [← Cy]; exact (any_none fun j hj => aV j (by omega)).symm
  simp only [List.length_map,go_sem,reduceIte,zA,zB,zC,zD,zE,zF,reduceCtorEq]
  exact hK _ (congrArg bl au)
theorem wq (s t : List bF) (hl : s.length ≤ 1048576) : ∃ r_, (fun w => w = bl (decide (s = t))) r_ ∧ aQ Tryz.prog 42 [al s, al t] r_ := by
 refine dZ tt_ok [] 26 [.tmp 4] (fn := Tryz.f42) Tryz.func42 rfl Tryz.call42 ⟨rfl, rfl, by simp⟩ fun K hK => ?_
 simp only [al]
 simp only [List.length_map,bH,go_sem,reduceIte,zA,zB,zC,zD,zE,zF,reduceCtorEq]
 refine aN (fun dp => ?_) (fun dp => ?_)
 ·have au : false = decide (s = t) := by
   refine (decide_eq_false fun e => ?_).symm
   subst e; simp at dp
  simp only [List.length_map,bH,go_sem,reduceIte,zA,zB,zC,zD,zE,zF,reduceCtorEq]
  exact hK _ (congrArg bl au)
 ·have gR : s.length = t.length := by have := dp; simp at this; omega
  simp only [List.length_map,bH,go_sem,reduceIte,zA,zB,zC,zD,zE,zF,reduceCtorEq]
  refine bx tt_ok [] [5] 0 [0,1,10] (fun vs => ((s.length : Int) - Go.Eng.intOf (vs.headD .undef)).toNat) (fun vs => ∃ i : Nat, vs = [num i] ∧ i ≤ s.length ∧ ∀ j < i, s[j]? = t[j]?) (by omega) (by simp only [List.length_map,bH,go_sem,reduceIte,zA,zB,zC,zD,zE,zF,reduceCtorEq]) (⟨0, rfl, Nat.zero_le _, fun j hj => absurd hj (Nat.not_lt_zero j)⟩) fun vs hI Z1 cd => ?_
  obtain ⟨i, rfl, hi, aV⟩ := hI
  simp only [List.length_map,bH,go_sem,reduceIte,zA,zB,zC,zD,zE,zF,reduceCtorEq]
  refine aN (fun cX => ?_) (fun cX => ?_)
  ·have az : i < s.length := by simpa using cX
   have hw := ay i (by omega)
   obtain ⟨x, hx⟩ : ∃ x, s[i]? = some x := ⟨_, List.getElem?_eq_getElem az⟩
   obtain ⟨y, hy⟩ : ∃ y, t[i]? = some y := ⟨_, List.getElem?_eq_getElem (by omega)⟩
   simp only [hw,List.getElem?_map,hx,hy,ak,List.length_map,bH,go_sem,reduceIte,zA,zB,zC,zD,zE,zF,reduceCtorEq]
   refine bu tt_ok aG [⟨.n, 0, [], [], []⟩, ⟨.n, 0, [], [], []⟩, ⟨.r, 0, [], [], []⟩, ⟨.r, 0, [], [], []⟩, ⟨.n, 0, [], [], []⟩, ⟨.n, 0, [], [], []⟩, ⟨.r, 0, [], [], []⟩, ⟨.r, 0, [], [], []⟩, ⟨.n, 0, [], [], []⟩] 0 (by kernel_rfl) ?_
   simp only [hw,List.getElem?_map,hx,hy,ak,List.length_map,bH,go_sem,reduceIte,zA,zB,zC,zD,zE,zF,reduceCtorEq]
   refine aN (fun fm => ?_) (fun fm => ?_)
   ·have au : false = decide (s = t) := by
     refine (decide_eq_false fun e => ?_).symm
     subst e; rw [hx] at hy; cases hy; simp at fm
    simp only [hw,List.getElem?_map,hx,hy,ak,List.length_map,bH,go_sem,reduceIte,zA,zB,zC,zD,zE,zF,reduceCtorEq]
    exact hK _ (congrArg bl au)
   ·simp only [hw,List.getElem?_map,hx,hy,ak,List.length_map,bH,go_sem,reduceIte,zA,zB,zC,zD,zE,zF,reduceCtorEq]
    refine cd _ (cC (by omega) (by simp only [hw,List.getElem?_map,hx,hy,ak,List.length_map,bH,go_sem,reduceIte,zA,zB,zC,zD,zE,zF,reduceCtorEq]) ?_ ?_) <;> simp only [fh,lk,reduceIte,zE]
    ·refine ⟨i + 1, rfl, az, fun j hj => ?_⟩
     rcases Nat.lt_or_ge j i with h | h
     ·exact aV j h
     ·obtain rfl : j = i := by omega
      rw [hx, hy]
      have := fm
      simp_all
    ·simp only [Go.Eng.intOf,List.headD_cons]; omega
  ·have cH : ¬ i < s.length := by simpa using cX
   have au : true = decide (s = t) := (decide_eq_true (ko gR fun j hj => aV j (by omega))).symm
   simp only [List.length_map,bH,go_sem,reduceIte,zA,zB,zC,zD,zE,zF,reduceCtorEq]
   exact hK _ (congrArg bl au)
theorem yC (s t : List bF) (hl : s.length ≤ 1048576) : ∃ r_, (fun w => w = bl (decide (s = t))) r_ ∧ aQ Tryz.prog 157 [al s, al t] r_ := by
 refine dZ tt_ok [] 26 [.tmp 4] (fn := Tryz.f157) Tryz.func157 rfl Tryz.call157 ⟨rfl, rfl, by simp⟩ fun K hK => ?_
 simp only [al]
 simp only [List.length_map,bH,go_sem,reduceIte,zA,zB,zC,zD,zE,zF,reduceCtorEq]
 refine aN (fun dp => ?_) (fun dp => ?_)
 ·have au : false = decide (s = t) := by
   refine (decide_eq_false fun e => ?_).symm
   subst e; simp at dp
  simp only [List.length_map,bH,go_sem,reduceIte,zA,zB,zC,zD,zE,zF,reduceCtorEq]
  exact hK _ (congrArg bl au)
 ·have gR : s.length = t.length := by have := dp; simp at this; omega
  simp only [List.length_map,bH,go_sem,reduceIte,zA,zB,zC,zD,zE,zF,reduceCtorEq]
  refine bx tt_ok [] [13] 0 [0,1,10,12] (fun vs => ((s.length : Int) - Go.Eng.intOf (vs.headD .undef)).toNat) (fun vs => ∃ i : Nat, vs = [num i] ∧ i ≤ s.length ∧ ∀ j < i, s[j]? = t[j]?) (by omega) (by simp only [List.length_map,bH,go_sem,reduceIte,zA,zB,zC,zD,zE,zF,reduceCtorEq]) (⟨0, rfl, Nat.zero_le _, fun j hj => absurd hj (Nat.not_lt_zero j)⟩) fun vs hI Z1 cd => ?_
  obtain ⟨i, rfl, hi, aV⟩ := hI
  simp only [List.length_map,bH,go_sem,reduceIte,zA,zB,zC,zD,zE,zF,reduceCtorEq]
  refine aN (fun cX => ?_) (fun cX => ?_)
  ·have az : i < s.length := by simpa using cX
   have hw := ay i (by omega)
   obtain ⟨x, hx⟩ : ∃ x, s[i]? = some x := ⟨_, List.getElem?_eq_getElem az⟩
   obtain ⟨y, hy⟩ : ∃ y, t[i]? = some y := ⟨_, List.getElem?_eq_getElem (by omega)⟩
   simp only [hw,List.getElem?_map,hx,hy,ak,List.length_map,bH,go_sem,reduceIte,zA,zB,zC,zD,zE,zF,reduceCtorEq]
   refine bu tt_ok aG [⟨.n, 0, [], [], []⟩, ⟨.n, 0, [], [], []⟩, ⟨.r, 0, [], [], []⟩, ⟨.r, 0, [], [], []⟩, ⟨.n, 0, [], [], []⟩, ⟨.n, 0, [], [], []⟩, ⟨.r, 0, [], [], []⟩, ⟨.r, 0, [], [], []⟩, ⟨.n, 0, [], [], []⟩] 0 (by kernel_rfl) ?_
   simp only [hw,List.getElem?_map,hx,hy,ak,List.length_map,bH,go_sem,reduceIte,zA,zB,zC,zD,zE,zF,reduceCtorEq]
   refine aN (fun oP => ?_) (fun oP => ?_)
   ·have au : false = decide (s = t) := by
     refine (decide_eq_false fun e => ?_).symm
     subst e; rw [hx] at hy; cases hy; simp at oP
    simp only [hw,List.getElem?_map,hx,hy,ak,List.length_map,bH,go_sem,reduceIte,zA,zB,zC,zD,zE,zF,reduceCtorEq]
    exact hK _ (congrArg bl au)
   ·simp only [hw,List.getElem?_map,hx,hy,ak,List.length_map,bH,go_sem,reduceIte,zA,zB,zC,zD,zE,zF,reduceCtorEq]
    refine cd _ (cC (by omega) (by simp only [hw,List.getElem?_map,hx,hy,ak,List.length_map,bH,go_sem,reduceIte,zA,zB,zC,zD,zE,zF,reduceCtorEq]) ?_ ?_) <;> simp only [fh,lk,reduceIte,zE]
    ·refine ⟨i + 1, rfl, az, fun j hj => ?_⟩
     rcases Nat.lt_or_ge j i with h | h
     ·exact aV j h
     ·obtain rfl : j = i := by omega
      rw [hx, hy]
      have := oP
      simp_all
    ·simp only [Go.Eng.intOf,List.headD_cons]; omega
  ·have cH : ¬ i < s.length := by simpa using cX
   have au : true = decide (s = t) := (decide_eq_true (ko gR fun j hj => aV j (by omega))).symm
   simp only [List.length_map,bH,go_sem,reduceIte,zA,zB,zC,zD,zE,zF,reduceCtorEq]
   exact hK _ (congrArg bl au)
end Go.Proofs.YtnfeacnbgbggfaaGreatDoor
end
