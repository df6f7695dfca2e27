/-
  READINGS: what the reading of an argument (DataW.trod) says of its cells, for types made of truth values, integers, strings, slices, structures.
  READINGS, B: the abstract values that a reading gives.
  PLAIN LAWS of chapter 32: sets of places, releases, what roots reach, canonical bytes. No program in sight.
  ENCODINGS of chapter 32's data.
  CONTRACTS: bytes of names, exactly.
  CONTRACTS: versions, places.
  CONTRACTS: comparing.
  EQUALITY of structs of chapter 32: spans, numbers, what is selected.
  CONTRACTS: releases: keys, places; sets of places.
-/
import Derived.Test.YtnfeacnbgbggfaaGreatDoorY1
import Derived.Test.YtnfeacnbgbggfaaGreatDoorRows
import Derived.Sort.Walk0
set_option linter.all false
section
namespace Go.Proofs.YtnfeacnbgbggfaaGreatDoor
open Go.Eng
variable [aG]
section
variable {H : Type} {enc : TypeId × Value → H} {P : Program} {w : World} {sp : Nat → Bool} {held : Bool} {f : Nat} {T : TypeId} {cs : List Value} {d : DataW H} {p : List MemPlace}
theorem trod_bool (hT : P.underlying T = some .bool) (h : DataW.trod enc P w 0 sp held (f + 1) T cs = some (d, p)) : ∃ b, cs = [.bool b] ∧ d = .lit (.bool b) := by
 unfold DataW.trod at h
 rw [hT] at h
 split at h <;> simp_all
theorem trod_int {k : IntKind} (hT : P.underlying T = some (.int k)) (h : DataW.trod enc P w 0 sp held (f + 1) T cs = some (d, p)) : ∃ n, cs = [.int k n] ∧ d = .lit (.int k n) := by
 unfold DataW.trod at h
 rw [hT] at h
 split at h <;> simp_all
theorem trod_string (hT : P.underlying T = some .string) (h : DataW.trod enc P w 0 sp held (f + 1) T cs = some (d, p)) : ∃ s, cs = [.string s] ∧ d = .lit (.string s.data.toList) := by
 unfold DataW.trod at h
 rw [hT] at h
 split at h <;> simp_all
theorem oX {α β : Type} {g : α → Option β} : ∀ {l : List α} {r : List β}, l.mapM g = some r → r.length = l.length ∧ ∀ (i : Nat) (b : β), r[i]? = some b → ∃ a : α, l[i]? = some a ∧ g a = some b
 | [], r, h => by simp at h; subst h; simp
 | a :: l, r, h => by
  rw [List.mapM_cons] at h
  cases h1 : g a with
  | none => rw [h1] at h; simp at h
  | some b =>
   rw [h1] at h
   cases h2 : l.mapM g with
   | none => rw [h2] at h; simp at h
   | some r' =>
    rw [h2] at h
    simp at h
    subst h
    obtain ⟨e1, e2⟩ := oX h2
    refine ⟨by simp [e1], fun i b' hb => ?_⟩
    cases i with
    | zero => simp at hb; subst hb; exact ⟨a, rfl, h1⟩
    | succ i => simpa using e2 i b' (by simpa using hb)
theorem trod_slice {T' : TypeId} (hT : P.underlying T = some (.slice T')) (h : DataW.trod enc P w 0 sp held (f + 1) T cs = some (d, p)) :
  (cs = [.slice none 0 0] ∧ d = .nil) ∨ ∃ (a : Addr) (cap : Nat) (elems spare : List (DataW H)), cs = [.slice (some a) elems.length cap] ∧ d = .slice elems spare ∧ elems.length ≤ cap ∧
   ∀ (i : Nat) (e : DataW H), elems[i]? = some e → ∃ mZ p', w.cells? 0 (a.add (i * P.cellsOf T')) (P.cellsOf T') = some mZ ∧ DataW.trod enc P w 0 sp held f T' mZ = some (e, p') := by
 unfold DataW.trod at h
 rw [hT] at h
 split at h <;> try (simp at *; done)
 ·rename_i e' h1 h2
  simp at h
  exact .inl ⟨rfl, h.1.symm⟩
 ·rename_i e' a len cap h1
  obtain rfl : T' = e' := by simpa using h1
  refine .inr ?_
  dsimp only at h
  split at h
  ·rename_i hb
   cases h3 : (List.range len).mapM (fun i => (w.cells? 0 (a.add (i * P.cellsOf T')) (P.cellsOf T')).bind (DataW.trod enc P w 0 sp held f T')) with
   | none => rw [h3] at h; simp at h
   | some elems =>
    rw [h3] at h
    obtain ⟨e1, e2⟩ := oX h3
    simp only [Option.bind_some,Option.map_eq_some_iff] at h
    obtain ⟨rest, -, h5⟩ := h
    simp only [Prod.mk.injEq] at h5
    have hl : elems.length = len := by simpa using e1
    refine ⟨a, cap, elems.map (·.1), rest.map (·.1), by rw [List.length_map, hl], h5.1.symm, by rw [List.length_map, hl]; exact hb.2.1, fun i e he => ?_⟩
    rw [List.getElem?_map, Option.map_eq_some_iff] at he
    obtain ⟨x, hx, rfl⟩ := he
    obtain ⟨j, hj, hg⟩ := e2 i x hx
    have sb : j = i := by
     obtain ⟨aB, hv⟩ := List.getElem?_eq_some_iff.1 hj
     simpa using hv.symm
    subst sb
    rw [Option.bind_eq_some_iff] at hg
    obtain ⟨mZ, hc, ht⟩ := hg
    exact ⟨mZ, x.2, hc, ht⟩
  ·simp at h
theorem trod_struct {fs : Array Field} (hT : P.underlying T = some (.struct fs)) (h : DataW.trod enc P w 0 sp held (f + 1) T cs = some (d, p)) :
  cs.length = P.cellsOf T ∧ ∃ parts : List (DataW H), d = .agg parts ∧ parts.length = fs.size ∧
   ∀ (i : Nat) (e : DataW H), parts[i]? = some e → ∃ (fd : Field) (p' : List MemPlace), fs[i]? = some fd ∧ DataW.trod enc P w 0 sp held f fd.type ((cs.drop fd.offset).take (P.cellsOf fd.type)) = some (e, p') := by
 unfold DataW.trod at h
 rw [hT] at h
 split at h <;> try (simp at *; done)
 ·rename_i XC h1
  obtain rfl : fs = XC := by simpa using h1
  split at h
  ·rename_i hl
   refine ⟨hl, ?_⟩
   rw [Option.map_eq_some_iff] at h
   obtain ⟨xs, h3, h4⟩ := h
   simp only [Prod.mk.injEq] at h4
   obtain ⟨e1, e2⟩ := oX h3
   refine ⟨xs.map (·.1), h4.1.symm, by rw [List.length_map, e1]; simp, fun i e he => ?_⟩
   rw [List.getElem?_map, Option.map_eq_some_iff] at he
   obtain ⟨x, hx, rfl⟩ := he
   obtain ⟨fd, hj, hg⟩ := e2 i x hx
   exact ⟨fd, x.2, by simpa using hj, hg⟩
  ·simp at h
end
end Go.Proofs.YtnfeacnbgbggfaaGreatDoor
end

section
namespace Go.Proofs.YtnfeacnbgbggfaaGreatDoor
open Go.Eng
variable [aG]
def Rd (F : Addr → Option Value) (hg : Gl F) (vs : List V) (cs : List Value) : Prop := aQ ⟨F, fun _ _ => none, hg⟩ vs cs ∧ ∀ c ∈ cs, c.oneCell' = true
section
variable {F : Addr → Option Value} {hg : Gl F}
theorem A8 {v : Value} (h : v.oneCell' = true) : Rd F hg [.sc v] [v] := ⟨.cons (.sc _ _) (.nil _), by simpa using h⟩
theorem dw {a b : List V} {cs : List Value} {off n : Nat} (h1 : Rd F hg a ((cs.drop off).take n)) (h2 : Rd F hg b (cs.drop (off + n))) : Rd F hg (a ++ b) (cs.drop off) := by
 have e : cs.drop off = (cs.drop off).take n ++ cs.drop (off + n) := by rw [← List.drop_drop, List.take_append_drop]
 rw [e]
 refine ⟨.append h1.1 h2.1, fun c hc => ?_⟩
 rcases List.mem_append.1 hc with hc | hc
 ·exact h1.2 c hc
 ·exact h2.2 c hc
theorem wI (a : Addr) (x y : Nat) : (a.add x).add y = a.add (x + y) := by
 unfold Addr.add
 by_cases hx : x = 0
 ·subst hx; simp
 ·by_cases hy : y = 0
  ·subst hy; simp
  ·simp [hx, hy, Nat.add_assoc]
theorem yO {α β : Type} {R : Nat → β → α → Prop} : ∀ {es : List β}, (∀ (i : Nat) (e : β), es[i]? = some e → ∃ a : α, R i e a) → ∃ l : List α, l.length = es.length ∧ ∀ (i : Nat) (e : β) (a : α), es[i]? = some e → l[i]? = some a → R i e a := by
 intro es
 induction es generalizing R with
 | nil => intro _; exact ⟨[], rfl, by simp⟩
 | cons e r ih =>
  intro h
  obtain ⟨a, ha⟩ := h 0 e rfl
  obtain ⟨l, hl, hr⟩ := ih (R := fun i => R (i + 1)) fun i e he => h (i + 1) e (by simpa using he)
  refine ⟨a :: l, by simp [hl], fun i e' a' he RT => ?_⟩
  cases i with
  | zero => simp at he RT; subst he; subst RT; exact ha
  | succ i => exact hr i e' a' (by simpa using he) (by simpa using RT)
theorem qP {H α : Type} {g : α → Nat} : ∀ {l : List α} {es : List (DataW H)}, l.length = es.length → (∀ (i : Nat) (e : DataW H) (a : α), es[i]? = some e → l[i]? = some a → g a ≤ Rows.uptoBulk e) → c7 g l ≤ Rows.uptoBulkAll es
 | [], [], _, _ => by simp [c7]
 | a :: l, e :: es, hl, h => by
  have h1 := h 0 e a rfl rfl
  have h2 := qP (l := l) (es := es) (g := g) (by simpa using hl) fun i e a he ha => h (i + 1) e a (by simpa using he) (by simpa using ha)
  simp only [c7,Rows.uptoBulkAll]; omega
 | [], _ :: _, hl, _ => by simp at hl
 | _ :: _, [], hl, _ => by simp at hl
theorem Hf {H : Type} {enc : TypeId × Value → H} {P : Program} {w : World} {sp : Nat → Bool} {held : Bool} {f : Nat} {T T' : TypeId} {α : Type} {row : α → V} {g : α → Nat} {n : Nat}
  (hF : F = w.cell?) (hT : P.underlying T = some (.slice T')) (hn : P.cellsOf T' = n)
  (hr : ∀ {cs : List Value} {d : DataW H} {p : List MemPlace}, DataW.trod enc P w 0 sp held f T' cs = some (d, p) → ∃ a : α, Rd F hg (row a).cells cs ∧ g a ≤ Rows.uptoBulk d)
  {cs : List Value} {d : DataW H} {p : List MemPlace} (h : DataW.trod enc P w 0 sp held (f + 1) T cs = some (d, p)) :
  ∃ l : List α, Rd F hg [.slice (l.map row)] cs ∧ c7 g l + 1 ≤ Rows.uptoBulk d := by
 rcases trod_slice hT h with ⟨rfl, rfl⟩ | ⟨a, cap, elems, spare, rfl, rfl, hc, he⟩
 ·exact ⟨[], ⟨.cons (.slice _ [] none 0 0 default (fun _ _ => default) (by simp) (by simp) (by simp) (by simp) (by simp) (by simp)) (.nil _), by simp [Value.oneCell']⟩, by simp [c7, Rows.uptoBulk]⟩
 ·obtain ⟨l, hl, hR⟩ := yO (es := elems) (R := fun i e (x : α) => ∃ mZ : List Value, w.cells? 0 (a.add (i * P.cellsOf T')) (P.cellsOf T') = some mZ ∧ Rd F hg (row x).cells mZ ∧ g x ≤ Rows.uptoBulk e) fun i e hi => by
   obtain ⟨mZ, p', h1, h2⟩ := he i e hi
   obtain ⟨x, h3, h4⟩ := hr h2
   exact ⟨x, mZ, h1, h3, h4⟩
  rw [hn] at hR
  have key : ∀ (i : Nat) (x : α), l[i]? = some x → ∃ mZ : List Value, Rd F hg (row x).cells mZ ∧ (row x).cells.length = n ∧ ∀ (j : Nat) (c : Value), mZ[j]? = some c → F (a.add (i * n + j)) = some c := fun i x hx => by
   obtain ⟨e, Zn⟩ : ∃ e, elems[i]? = some e := ⟨_, List.getElem?_eq_getElem (by rw [← hl]; exact (List.getElem?_eq_some_iff.1 hx).1)⟩
   obtain ⟨mZ, h1, h2, -⟩ := hR i e x Zn hx
   unfold World.cells? at h1
   rw [if_pos (Nat.zero_le _)] at h1
   obtain ⟨e1, e2⟩ := oX h1
   refine ⟨mZ, h2, by rw [h2.1.1, e1]; simp, fun j c hj => ?_⟩
   obtain ⟨k, hk, L9⟩ := e2 j c hj
   have Zo : k = j := by
    obtain ⟨aB, hv⟩ := List.getElem?_eq_some_iff.1 hk
    simpa using hv.symm
   subst Zo
   rw [wI] at L9
   rw [hF]; exact L9
  have cell : ∀ (i : Nat) (r : V) (j : Nat) (c : V), (l.map row)[i]? = some r → r.cells[j]? = some c → ∃ x, F (a.add (i * n + j)) = some x ∧ x.oneCell' = true ∧ aX ⟨F, fun _ _ => none, hg⟩ c x := fun i r j c hi hj => by
   rw [List.getElem?_map, Option.map_eq_some_iff] at hi
   obtain ⟨x, hx, rfl⟩ := hi
   obtain ⟨mZ, h2, -, h3⟩ := key i x hx
   obtain ⟨y, hy, ow⟩ := h2.1.get hj
   exact ⟨y, h3 j y hy, h2.2 y (List.mem_of_getElem? hy), ow⟩
  refine ⟨l, ⟨.cons ?_ (.nil _), by simp [Value.oneCell']⟩, ?_⟩
  ·have := aX.slice ⟨F, fun _ _ => none, hg⟩ (l.map row) (some a) cap n a (fun i j => (F (a.add (i * n + j))).getD default) (fun _ => rfl) (by rw [List.length_map, hl]; exact hc)
    (fun i r hi => by
     rw [List.getElem?_map, Option.map_eq_some_iff] at hi
     obtain ⟨x, hx, rfl⟩ := hi
     obtain ⟨_, -, h, -⟩ := key i x hx
     exact h)
    (fun i r j c hi hj => by obtain ⟨x, h, -, -⟩ := cell i r j c hi hj; show F _ = some ((F _).getD _); rw [h]; rfl)
    (fun i r j c hi hj => by obtain ⟨x, h, h', -⟩ := cell i r j c hi hj; show Value.oneCell' ((F _).getD _) = true; rw [h]; exact h')
    (fun i r j c hi hj => by obtain ⟨x, h, -, h'⟩ := cell i r j c hi hj; show aX _ c ((F _).getD _); rw [h]; exact h')
   rwa [List.length_map, hl] at this
  ·have := qP (g := g) hl fun i e x he hx => by obtain ⟨_, -, -, h⟩ := hR i e x he hx; exact h
   simp only [Rows.uptoBulk]; omega
end
def A9 {H : Type} (enc : TypeId × Value → H) (P : Program) (w : World) (sp : Nat → Bool) (held : Bool) (f : Nat) (cs : List Value) : List Field → (List (DataW H) → Prop) → Prop
 | [], K => K []
 | fd :: r, K => ∃ (e : DataW H) (p : List MemPlace), DataW.trod enc P w 0 sp held f fd.type ((cs.drop fd.offset).take (P.cellsOf fd.type)) = some (e, p) ∧ A9 enc P w sp held f cs r fun es => K (e :: es)
theorem u9 {H : Type} {enc : TypeId × Value → H} {P : Program} {w : World} {sp : Nat → Bool} {held : Bool} {f : Nat} {cs : List Value} : ∀ {fs : List Field} {K : List (DataW H) → Prop} {es : List (DataW H)}, es.length = fs.length →
  (∀ (i : Nat) (e : DataW H), es[i]? = some e → ∃ (fd : Field) (p' : List MemPlace), fs[i]? = some fd ∧ DataW.trod enc P w 0 sp held f fd.type ((cs.drop fd.offset).take (P.cellsOf fd.type)) = some (e, p')) → K es → A9 enc P w sp held f cs fs K
 | [], K, [], _, _, hK => hK
 | fd :: r, K, e :: es, hl, h, hK => by
  obtain ⟨Zp, p', h1, h2⟩ := h 0 e rfl
  obtain rfl : fd = Zp := by simpa using h1
  exact ⟨e, p', h2, u9 (es := es) (by simpa using hl) (fun i e he => by simpa using h (i + 1) e (by simpa using he)) hK⟩
 | [], _, _ :: _, hl, _, _ => by simp at hl
 | _ :: _, _, [], hl, _, _ => by simp at hl
theorem fj {H : Type} {enc : TypeId × Value → H} {P : Program} {w : World} {sp : Nat → Bool} {held : Bool} {f : Nat} {T : TypeId} {cs : List Value} {d : DataW H} {p : List MemPlace} {fs : Array Field}
  (hT : P.underlying T = some (.struct fs)) (h : DataW.trod enc P w 0 sp held (f + 1) T cs = some (d, p)) : cs.length = P.cellsOf T ∧ A9 enc P w sp held f cs fs.toList fun es => d = .agg es := by
 obtain ⟨h1, parts, h2, h3, h4⟩ := trod_struct hT h
 exact ⟨h1, u9 (by simpa using h3) (fun i e he => by simpa using h4 i e he) h2⟩
end Go.Proofs.YtnfeacnbgbggfaaGreatDoor
end

section
namespace Go.Proofs.YtnfeacnbgbggfaaGreatDoor
structure bG where
 lo : Int
 hi : Int
def mu (x : bG) : Option bG := if max x.lo 0 < min x.hi 1000000 then some ⟨max x.lo 0, min x.hi 1000000⟩ else none
def clip (s : List bG) : List bG := s.filterMap mu
def wJ : List bG → bG → List bG
 | [], x => [x]
 | y :: r, x => if y.lo ≤ x.lo then y :: wJ r x else x :: y :: r
def dn (out : List bG) (x : bG) : List bG := match out.getLast? with
 | some y => if x.lo ≤ y.hi then out.dropLast ++ [⟨y.lo, max y.hi x.hi⟩] else out ++ [x]
 | none => [x]
def merge (l : List bG) : List bG := l.foldl dn []
def canon (s : List bG) : List bG := merge ((clip s).foldl wJ [])
def fU (l : List bG) : Prop := l.Pairwise fun a b => a.lo ≤ b.lo
theorem Ba (out : List bG) (x y : bG) (h : x.lo = y.lo) (hx : x.lo ≤ x.hi) (hy : y.lo ≤ y.hi) : dn (dn out x) y = dn (dn out y) x := by
 unfold dn
 cases hl : out.getLast? with
 | none =>
  simp only [List.getLast?_singleton,List.dropLast_singleton,List.nil_append]
  rw [if_pos (by omega), if_pos (by omega)]
  simp only [h,Int.max_comm]
 | some z =>
  dsimp only
  by_cases hz : x.lo ≤ z.hi
  ·rw [if_pos hz, if_pos (by omega)]
   simp only [List.getLast?_append,List.getLast?_singleton,Option.some_or,List.dropLast_concat]
   rw [if_pos (by omega), if_pos (by omega)]
   simp only [Int.max_assoc,Int.max_comm x.hi]
  ·rw [if_neg hz, if_neg (by omega)]
   simp only [List.getLast?_append,List.getLast?_singleton,Option.some_or,List.dropLast_concat]
   rw [if_pos (by omega), if_pos (by omega)]
   simp only [h,Int.max_comm]
theorem qQ (x : bG) : ∀ (p : List bG) (out : List bG), (∀ y ∈ p, y.lo = x.lo ∧ y.lo ≤ y.hi) → x.lo ≤ x.hi → (p ++ [x]).foldl dn out = (x :: p).foldl dn out
 | [], out, _, _ => rfl
 | y :: r, out, h, hx => by
  have h1 := h y (by simp)
  rw [List.cons_append, List.foldl_cons, qQ x r _ (fun z hz => h z (by simp [hz])) hx]
  simp only [List.foldl_cons]
  rw [Ba out y x h1.1 h1.2 hx]
theorem sZ : ∀ (l m : List bG) (out : List bG), l.Perm m → fU l → fU m → (∀ x ∈ l, x.lo ≤ x.hi) → l.foldl dn out = m.foldl dn out
 | [], m, out, hp, _, _, _ => by rw [hp.nil_eq]
 | x :: t, m, out, hp, hl, hm, hw => by
  have rI : x ∈ m := hp.subset (by simp)
  obtain ⟨p, q, rfl⟩ := List.append_of_mem rI
  have Zq : ∀ y ∈ p, y.lo = x.lo ∧ y.lo ≤ y.hi := fun y hy => by
   have Nq : y ∈ x :: t := hp.symm.subset (by simp [hy])
   have h1 : y.lo ≤ x.lo := (List.pairwise_append.1 hm).2.2 y hy x (by simp)
   have h2 : x.lo ≤ y.lo := by
    rcases List.mem_cons.1 Nq with rfl | h
    ·omega
    ·exact (List.pairwise_cons.1 hl).1 y h
   exact ⟨by omega, hw y Nq⟩
  have hx := hw x (by simp)
  have e : (p ++ x :: q).foldl dn out = (x :: (p ++ q)).foldl dn out := by
   rw [show p ++ x :: q = (p ++ [x]) ++ q by simp, List.foldl_append, qQ x p out Zq hx, ← List.foldl_append]; rfl
  rw [e, List.foldl_cons, List.foldl_cons]
  refine sZ t (p ++ q) _ ?_ (List.pairwise_cons.1 hl).2 ?_ fun y hy => hw y (by simp [hy])
  ·exact (List.perm_cons x).1 (hp.trans (by simpa using List.perm_middle))
  ·rw [fU, List.pairwise_append] at hm ⊢
   exact ⟨hm.1, (List.pairwise_cons.1 hm.2.1).2, fun a ha b hb => hm.2.2 a ha b (by simp [hb])⟩
theorem pT : ∀ (l : List bG) (x : bG), (wJ l x).Perm (x :: l)
 | [], x => List.Perm.refl _
 | y :: r, x => by
  unfold wJ
  split
  ·exact ((pT r x).cons y).trans (List.Perm.swap x y r)
  ·exact List.Perm.refl _
theorem yP : ∀ (l : List bG) (x : bG), fU l → fU (wJ l x)
 | [], x, _ => List.pairwise_singleton _ _
 | y :: r, x, h => by
  have h1 := List.pairwise_cons.1 h
  unfold wJ
  split
  ·rename_i hy
   refine List.pairwise_cons.2 ⟨fun z hz => ?_, yP r x h1.2⟩
   rcases List.mem_cons.1 ((pT r x).subset hz) with rfl | hz
   ·exact hy
   ·exact h1.1 z hz
  ·rename_i hy
   refine List.pairwise_cons.2 ⟨fun z hz => ?_, h⟩
   rcases List.mem_cons.1 hz with rfl | hz
   ·omega
   ·have := h1.1 z hz; omega
theorem nF : ∀ (m l : List bG), fU l → fU (m.foldl wJ l) ∧ (m.foldl wJ l).Perm (l ++ m)
 | [], l, h => ⟨h, by simp⟩
 | x :: t, l, h => by
  obtain ⟨h1, h2⟩ := nF t (wJ l x) (yP l x h)
  refine ⟨h1, h2.trans ?_⟩
  exact ((pT l x).append_right t).trans (by simp [List.perm_middle.symm])
theorem wK {s : List bG} : ∀ x ∈ clip s, 0 ≤ x.lo ∧ x.lo < x.hi ∧ x.hi ≤ 1000000 := fun x hx => by
 obtain ⟨y, -, hy⟩ := List.mem_filterMap.1 hx
 unfold mu at hy
 split at hy
 ·cases hy; dsimp only; omega
 ·cases hy
theorem yQ {s l : List bG} (hp : l.Perm (clip s)) (ha : fU l) : merge l = canon s := by
 obtain ⟨h1, h2⟩ := nF (clip s) [] List.Pairwise.nil
 exact sZ l _ [] (hp.trans (by simpa using h2.symm)) ha h1 fun x hx => by have := wK x (hp.subset hx); omega
structure dr where
 mj : Int
 mn : Int
 pt : Int
structure Rq where
 path : ByteArray
 set : List bG
structure Rl where
 path : ByteArray
 aC : dr
 reqs : List Rq
 ar : ByteArray
 gg : ByteArray
 ce : ByteArray
 yk : Bool
structure dD where
 path : ByteArray
 aC : dr
theorem dr.ext' {a b : dr} (h1 : a.mj = b.mj) (h2 : a.mn = b.mn) (h3 : a.pt = b.pt) : a = b := by cases a; cases b; simp_all
theorem bG.ext' {a b : bG} (h1 : a.lo = b.lo) (h2 : a.hi = b.hi) : a = b := by cases a; cases b; simp_all
instance : DecidableEq bG := fun a b => if h : a.lo = b.lo ∧ a.hi = b.hi then .isTrue (bG.ext' h.1 h.2) else .isFalse fun e => h (by subst e; exact ⟨rfl, rfl⟩)
theorem dD.ext' {a b : dD} (h1 : a.path = b.path) (h2 : a.aC = b.aC) : a = b := by cases a; cases b; simp_all
instance : DecidableEq dr := fun a b => if h : a.mj = b.mj ∧ a.mn = b.mn ∧ a.pt = b.pt then .isTrue (dr.ext' h.1 h.2.1 h.2.2) else .isFalse fun e => h (by subst e; exact ⟨rfl, rfl, rfl⟩)
instance : DecidableEq dD := fun a b => if h : a.path = b.path ∧ a.aC = b.aC then .isTrue (dD.ext' h.1 h.2) else .isFalse fun e => h (by subst e; exact ⟨rfl, rfl⟩)
def Rl.key (r : Rl) : dD := ⟨r.path, r.aC⟩
def dr.place (v : dr) : Int := 1000 * v.mn + v.pt
def has (s : List bG) (p : Int) : Bool := decide (0 ≤ p) && decide (p < 1000000) && s.any fun x => decide (x.lo ≤ p) && decide (p < x.hi)
def ek (q : Rq) (r : Rl) : Bool := decide (q.path = r.path) && has q.set r.aC.place
inductive oY (l : List Rl) (roots : List Rq) : Rl → Prop
 | root (q : Rq) (r : Rl) (hq : q ∈ roots) (hr : r ∈ l) (h : ek q r = true) : oY l roots r
 | step (a : Rl) (q : Rq) (r : Rl) (ha : oY l roots a) (hq : q ∈ a.reqs) (hr : r ∈ l) (h : ek q r = true) : oY l roots r
theorem oY.mem {l : List Rl} {roots : List Rq} {r : Rl} (h : oY l roots r) : r ∈ l := by cases h <;> assumption
theorem oY.mono {l : List Rl} {roots more : List Rq} (hm : ∀ q ∈ roots, q ∈ more) {r : Rl} (h : oY l roots r) : oY l more r := by
 induction h with
 | root q r hq hr h => exact .root q r (hm q hq) hr h
 | step a q r _ hq hr h ih => exact .step a q r ih hq hr h
noncomputable def bX (l : List Rl) (roots : List Rq) : List Rl := l.filter fun r => @decide _ (Classical.propDecidable (oY l roots r))
theorem yR {l : List Rl} {roots : List Rq} {r : Rl} : r ∈ bX l roots ↔ oY l roots r := by
 unfold bX
 rw [List.mem_filter, @decide_eq_true_iff _ (Classical.propDecidable _)]
 exact ⟨fun h => h.2, fun h => ⟨h.mem, h⟩⟩
theorem Kr {l : List Rl} {roots : List Rq} (S : Rl → Prop) (h1 : ∀ r, S r → oY l roots r) (h2 : ∀ q ∈ roots, ∀ r ∈ l, ek q r = true → S r) (h3 : ∀ a, S a → ∀ q ∈ a.reqs, ∀ r ∈ l, ek q r = true → S r) (r : Rl) : S r ↔ oY l roots r := by
 refine ⟨h1 r, fun h => ?_⟩
 induction h with
 | root q r hq hr h => exact h2 q hq r hr h
 | step a q r _ hq hr h ih => exact h3 a ih q hq r hr h
inductive OO (l : List Rl) (roots : List Rq) : ByteArray → Prop
 | root (q : Rq) (hq : q ∈ roots) : OO l roots q.path
 | step (a : Rl) (q : Rq) (ha : a ∈ l) (hn : OO l roots a.path) (hq : q ∈ a.reqs) : OO l roots q.path
theorem mv {q : Rq} {r : Rl} (h : ek q r = true) : q.path = r.path := by
 unfold ek at h
 rw [Bool.and_eq_true] at h
 exact of_decide_eq_true h.1
theorem oY.sub {l m : List Rl} {roots : List Rq} (XT : ∀ r ∈ l, r ∈ m) {r : Rl} (h : oY l roots r) : oY m roots r := by
 induction h with
 | root q r hq hr h => exact .root q r hq (XT r hr) h
 | step a q r _ hq hr h ih => exact .step a q r ih hq (XT r hr) h
def uv (n : Nat) : List UInt8 := if n < 128 then [UInt8.ofNat n] else UInt8.ofNat (n % 128 + 128) :: uv (n / 128)
termination_by n
decreasing_by omega
def dN : List UInt8 → Nat → Nat → Option (Nat × Nat)
 | [], _, _ => none
 | b :: r, i, n => if 9 < i ∨ i = 9 ∧ 1 < b.toNat then none else
   if b.toNat < 128 then (if i = 0 ∨ 0 < b.toNat then some (n + b.toNat * 2 ^ (7 * i), i + 1) else none)
   else dN r (i + 1) (n + (b.toNat - 128) * 2 ^ (7 * i))
theorem lL {n : Nat} (h : n < 128) : uv n = [UInt8.ofNat n] := by rw [uv, if_pos h]
theorem wL {n : Nat} (h : ¬ n < 128) : uv n = UInt8.ofNat (n % 128 + 128) :: uv (n / 128) := by rw [uv, if_neg h]
theorem jg {n : Nat} (h : n < 256) : (UInt8.ofNat n).toNat = n := by simp; omega
theorem Ks : ∀ (i n m : Nat) (rest : List UInt8), i ≤ 9 → n < 2 ^ (64 - 7 * i) → (i = 0 ∨ 0 < n) → dN (uv n ++ rest) i m = some (m + n * 2 ^ (7 * i), i + (uv n).length) := by
 intro i n
 induction n using Nat.strongRecOn generalizing i with
 | _ n ih =>
  intro m rest hi hn h0
  have hb : i = 9 → n < 2 := fun h => by subst h; simpa using hn
  by_cases h : n < 128
  ·rw [lL h]
   show dN (UInt8.ofNat n :: rest) i m = _
   rw [dN, jg (by omega), if_neg (by omega), if_pos h, if_pos h0]
   rfl
  ·rw [wL h]
   have QQ : i ≠ 9 := fun e => by have := hb e; omega
   show dN (UInt8.ofNat (n % 128 + 128) :: (uv (n / 128) ++ rest)) i m = _
   rw [dN, jg (by omega), if_neg (by omega), if_neg (by omega)]
   have hp : 2 ^ (64 - 7 * i) = 128 * 2 ^ (64 - 7 * (i + 1)) := by
    rw [show (128 : Nat) = 2 ^ 7 from rfl, ← Nat.pow_add]
    congr 1; omega
   rw [ih (n / 128) (by omega) (i + 1) _ rest (by omega) (by rw [hp] at hn; exact Nat.div_lt_of_lt_mul hn) (.inr (by omega))]
   have e1 : 2 ^ (7 * (i + 1)) = 128 * 2 ^ (7 * i) := by rw [show (128 : Nat) = 2 ^ 7 from rfl, ← Nat.pow_add]; congr 1; omega
   have e2 : m + (n % 128 + 128 - 128) * 2 ^ (7 * i) + n / 128 * 2 ^ (7 * (i + 1)) = m + n * 2 ^ (7 * i) := by
    rw [e1, Nat.add_sub_cancel, Nat.add_assoc, ← Nat.mul_assoc, ← Nat.add_mul]
    congr 2; omega
   rw [e2, List.length_cons]
   congr 2; omega
theorem CV : ∀ (l : List UInt8) (i m n k : Nat), dN l i m = some (n, k) → ∃ v, n = m + v * 2 ^ (7 * i) ∧ (i = 0 ∨ 0 < v) ∧ i + (uv v).length = k ∧ ∃ rest, l = uv v ++ rest ∧ v < 2 ^ (64 - 7 * i) ∧ k ≤ 10
 | [], i, m, n, k, h => by simp [dN] at h
 | b :: r, i, m, n, k, h => by
  rw [dN] at h
  split at h
  ·cases h
  rename_i h9
  split at h
  ·rename_i hb
   split at h
   ·rename_i h0
    simp only [Option.some.injEq,Prod.mk.injEq] at h
    obtain ⟨rfl, rfl⟩ := h
    have hu : uv b.toNat = [b] := by rw [lL hb]; simp
    refine ⟨b.toNat, rfl, h0, by rw [hu]; rfl, r, by rw [hu]; rfl, ?_, by omega⟩
    by_cases Zr : i = 9
    ·subst Zr; simp; omega
    ·have : 2 ^ 7 ≤ 2 ^ (64 - 7 * i) := Nat.pow_le_pow_right (by omega) (by omega)
     omega
   ·cases h
  ·rename_i hb
   obtain ⟨v, hv, h0, hk, rest, hr, aB, Wq⟩ := CV r (i + 1) _ n k h
   have Fy : 0 < v := by omega
   have NW : b.toNat < 256 := b.toNat_lt
   have Zs : (b.toNat - 128 + 128 * v) % 128 = b.toNat - 128 := by omega
   have Mx : (b.toNat - 128 + 128 * v) / 128 = v := by omega
   have hu : uv (b.toNat - 128 + 128 * v) = b :: uv v := by
    rw [wL (by omega), Zs, Mx, Nat.sub_add_cancel (by omega)]; simp
   have e1 : 2 ^ (7 * (i + 1)) = 128 * 2 ^ (7 * i) := by rw [show (128 : Nat) = 2 ^ 7 from rfl, ← Nat.pow_add]; congr 1; omega
   have iB : 0 < (uv v).length := by rw [uv]; split <;> simp
   refine ⟨b.toNat - 128 + 128 * v, ?_, .inr (by omega), by rw [hu, List.length_cons]; omega, rest, by rw [hu, hr]; rfl, ?_, Wq⟩
   ·rw [hv, e1, Nat.add_mul, Nat.add_assoc, Nat.mul_comm 128 v, Nat.mul_assoc]
   ·have h8 : i ≤ 8 := by omega
    have hp : 2 ^ (64 - 7 * i) = 128 * 2 ^ (64 - 7 * (i + 1)) := by
     rw [show (128 : Nat) = 2 ^ 7 from rfl, ← Nat.pow_add]
     congr 1; omega
    rw [hp]; omega
def from_ (s : ByteArray) (at_ : Nat) : List UInt8 := s.data.toList.drop at_
theorem jh (s : ByteArray) (a : Nat) : (from_ s a).length = s.size - a := by unfold from_; rw [List.length_drop, Array.length_toList]; rfl
theorem va (s : ByteArray) (a k : Nat) : (from_ s a).drop k = from_ s (a + k) := by unfold from_; rw [List.drop_drop]
def oZ (s : ByteArray) (at_ : Nat) : Option (Nat × Nat) := match dN (from_ s at_) 0 0 with
 | some (n, k) => if n < 9223372036854775808 then some (n, at_ + k) else none
 | none => none
def Bb (s : ByteArray) (at_ : Nat) : Option (ByteArray × Nat) := match oZ s at_ with
 | some (n, j) => if n ≤ s.size - j then some (s.extract j (j + n), j + n) else none
 | none => none
theorem s4 {s : ByteArray} {a : Nat} {x rest : List UInt8} (h : from_ s a = x ++ rest) : from_ s (a + x.length) = rest := by
 rw [← va, h, List.drop_left]
theorem Bc {s : ByteArray} {a n : Nat} {rest : List UInt8} (hn : n < 9223372036854775808) (h : from_ s a = uv n ++ rest) : oZ s a = some (n, a + (uv n).length) ∧ from_ s (a + (uv n).length) = rest := by
 refine ⟨?_, s4 h⟩
 unfold oZ
 rw [h, Ks 0 n 0 rest (by omega) (by show n < 2 ^ 64; omega) (.inl rfl)]
 simp only [Nat.mul_zero,Nat.pow_zero,Nat.mul_one,Nat.zero_add]
 rw [if_pos hn]
theorem Bd {s : ByteArray} {a n j : Nat} (h : oZ s a = some (n, j)) : from_ s a = uv n ++ from_ s j ∧ n < 9223372036854775808 ∧ j = a + (uv n).length ∧ j ≤ s.size ∧ a < j := by
 unfold oZ at h
 split at h
 ·rename_i n' k hs
  split at h
  ·rename_i hn
   simp only [Option.some.injEq,Prod.mk.injEq] at h
   obtain ⟨rfl, rfl⟩ := h
   obtain ⟨v, hv, -, hk, rest, hr, -, -⟩ := CV _ _ _ _ _ hs
   have Zt : v = n' := by rw [hv]; simp
   subst Zt
   rw [Nat.zero_add] at hk
   have iB : 0 < (uv v).length := by rw [uv]; split <;> simp
   have hl := congrArg List.length hr
   rw [jh, List.length_append] at hl
   refine ⟨?_, hn, by rw [hk], by omega, by omega⟩
   rw [← hk, s4 hr]; exact hr
  ·cases h
 ·cases h
def bp (s : ByteArray) : List UInt8 := s.data.toList
theorem eV (s : ByteArray) : (bp s).length = s.size := Array.length_toList
theorem o3 (s : ByteArray) (j n : Nat) : bp (s.extract j (j + n)) = (from_ s j).take n := by
 unfold bp from_
 rw [ByteArray.data_extract, Array.toList_extract, List.extract_eq_take_drop, Nat.add_sub_cancel_left]
theorem nG {a b : ByteArray} (h : bp a = bp b) : a = b := by
 cases a; cases b; unfold bp at h; dsimp only at h; rw [Array.toList_inj.1 h]
def eT (t : ByteArray) : List UInt8 := uv t.size ++ bp t
theorem OP {s t : ByteArray} {a : Nat} {rest : List UInt8} (hn : t.size < 9223372036854775808) (h : from_ s a = eT t ++ rest) : Bb s a = some (t, a + (eT t).length) ∧ from_ s (a + (eT t).length) = rest := by
 refine ⟨?_, s4 h⟩
 unfold eT at h
 rw [List.append_assoc] at h
 obtain ⟨h1, h2⟩ := Bc hn h
 unfold Bb
 rw [h1]
 dsimp only
 have hl := congrArg List.length h2
 rw [jh, List.length_append, eV] at hl
 have e : s.extract (a + (uv t.size).length) (a + (uv t.size).length + t.size) = t := nG (by rw [o3, h2, ← eV t, List.take_left])
 rw [e, show (eT t).length = (uv t.size).length + t.size by unfold eT; rw [List.length_append, eV], Nat.add_assoc]
 rw [if_pos]
 by_cases ht : t.size = 0
 ·omega
 ·omega
theorem OQ {s t : ByteArray} {a j : Nat} (h : Bb s a = some (t, j)) : from_ s a = eT t ++ from_ s j ∧ t.size < 9223372036854775808 ∧ j ≤ s.size ∧ a < j ∧ t.size ≤ s.size := by
 unfold Bb at h
 split at h
 ·rename_i n k hi
  obtain ⟨h1, h2, h3, h4, h5⟩ := Bd hi
  split at h
  ·rename_i hn
   simp only [Option.some.injEq,Prod.mk.injEq] at h
   obtain ⟨rfl, rfl⟩ := h
   have hs : (s.extract k (k + n)).size = n := by rw [ByteArray.size_extract]; omega
   refine ⟨?_, by omega, by omega, by omega, by omega⟩
   unfold eT
   rw [hs, o3, List.append_assoc, ← va, List.take_append_drop]; exact h1
  ·cases h
 ·cases h
end Go.Proofs.YtnfeacnbgbggfaaGreatDoor
end

section
namespace Go.Proofs.YtnfeacnbgbggfaaGreatDoor
open Go.Eng
variable [aG]
def aj (s : bG) : V := .agg [num s.lo, num s.hi]
def ak (l : List bG) : V := .slice (l.map aj)
def al (q : Rq) : V := .agg [str q.path, ak q.set]
def ah (l : List Rq) : V := .slice (l.map al)
def bh (v : dr) : V := .agg [num v.mj, num v.mn, num v.pt]
def aI (s : dD) : V := .agg [str s.path, num s.aC.mj, num s.aC.mn, num s.aC.pt]
def aZ (l : List dD) : V := .slice (l.map aI)
def ab (r : Rl) : List V := [str r.path, num r.aC.mj, num r.aC.mn, num r.aC.pt, ah r.reqs, str r.ar, str r.gg, str r.ce, bl r.yk]
def ag (r : Rl) : V := .agg (ab r)
def aY (l : List Rl) : V := .slice (l.map ag)
def bm (l : List Rl) (I : List V) : V := .agg [aY l, .slice I]
attribute [go_sem] ak ah aZ aY
end Go.Proofs.YtnfeacnbgbggfaaGreatDoor
end

section
namespace Go.Proofs.YtnfeacnbgbggfaaGreatDoor
open Go.Eng
open Nat renaming reduceAdd → zA, reduceLT → zB, reduceLeDiff → zC, reduceMul → zD, reduceEqDiff → zE, reduceSub → zF
variable [aG]
set_option maxHeartbeats 4000000
set_option maxRecDepth 100000
theorem OR {s e : ByteArray} (he : e.size = 0) (h : (!(s.toList == e.toList)) = true) : ∃ c, s[0]? = some c := by
 refine bZ (s := s) (i := 0) ?_
 rcases Nat.eq_zero_or_pos s.size with hz | hz
 ·exfalso
  have e1 : s.toList = e.toList := by
   rw [ByteArray.toList_eq, ByteArray.toList_eq]
   have a1 : s.data.toList = [] := by simpa [← List.length_eq_zero_iff, Array.length_toList] using hz
   have a2 : e.data.toList = [] := by simpa [← List.length_eq_zero_iff, Array.length_toList] using he
   rw [a1, a2]
  rw [e1] at h; simp at h
 ·exact hz
def uu (c : Int) : Bool := decide (97 ≤ c) && decide (c ≤ 122)
def Be (c : Int) : Bool := decide (65 ≤ c) && decide (c ≤ 90)
def eE (c : Int) : Bool := decide (48 ≤ c) && decide (c ≤ 57)
def kD (c : Int) : Bool := uu c || Be c || eE c || decide (c = 95)
def s5 (c : Int) : Bool := uu c || eE c
def gh (p : Int → Bool) (s : ByteArray) : Bool := s.data.toList.all fun b => p b.toNat
def cK (s : ByteArray) (i : Nat) : Int := match s[i]? with | some c => c.toNat | none => 0
theorem jP {s : ByteArray} {i : Nat} {c : UInt8} (h : s[i]? = some c) : s.data.toList[i]? = some c := by
 obtain ⟨h1, h2⟩ := getElem?_eq_some_iff.1 h
 have h3 : i < s.data.toList.length := by simpa using h1
 rw [List.getElem?_eq_getElem h3]
 exact congrArg some (by rw [Array.getElem_toList]; exact h2)
theorem dd {s : ByteArray} {i : Nat} {c : UInt8} (h : s[i]? = some c) : cK s i = c.toNat := by unfold cK; rw [h]
theorem jQ {p : Int → Bool} {s : ByteArray} (h : ∀ j < s.size, ∀ b, s[j]? = some b → p b.toNat = true) : gh p s = true := by
 refine List.all_eq_true.2 fun b hb => ?_
 obtain ⟨j, hj⟩ := List.mem_iff_getElem?.1 hb
 have h1 : j < s.size := by have := (List.getElem?_eq_some_iff.1 hj).1; simpa using this
 obtain ⟨c, hc⟩ := bZ h1
 have := jP hc
 rw [hj] at this; cases this
 exact h j h1 b hc
theorem iH {p : Int → Bool} {s : ByteArray} {j : Nat} {b : UInt8} (h : s[j]? = some b) (hp : p b.toNat = false) : gh p s = false := by
 have hm := List.mem_of_getElem? (jP h)
 cases ha : gh p s with
 | false => rfl
 | true => have := List.all_eq_true.1 ha b hm; rw [hp] at this; cases this
theorem CW {s e : ByteArray} (he : e.size = 0) (h : (!(s.toList == e.toList)) = true) : 1 ≤ s.size := by
 obtain ⟨c, hc⟩ := OR he h
 exact (getElem?_eq_some_iff.1 hc).1
theorem yS {s e : ByteArray} (he : e.size = 0) (h : (!(s.toList == e.toList)) = false) : s.size = 0 := by
 have e1 : s.toList = e.toList := by simpa using h
 rw [ByteArray.toList_eq, ByteArray.toList_eq] at e1
 have := congrArg List.length e1
 simp only [Array.length_toList] at this
 exact Eq.trans this he
theorem s6 (c : Int) : ∃ r_, (fun w => w = bl (uu c)) r_ ∧ aP Tryz.prog 127 [.sc (.int .u8 c)] r_ := by
 refine dI tt_ok [] 9 [.tmp 2] (fn := Tryz.f127) Tryz.func127 rfl Tryz.call127 ⟨rfl, rfl, by simp⟩ fun K hK => ?_
 simp only [go_sem,reduceIte,zA,zB,zC,zD,zE,zF,reduceCtorEq]
 refine aL (fun ed => ?_) (fun ed => ?_)
 ·simp only [go_sem,reduceIte,zA,zB,zC,zD,zE,zF,reduceCtorEq]
  exact hK _ (congrArg bl (by simp_all [uu] <;> (intros; omega)))
 ·simp only [go_sem,reduceIte,zA,zB,zC,zD,zE,zF,reduceCtorEq]
  exact hK _ (congrArg bl (by simp_all [uu] <;> (intros; omega)))
theorem Bf (c : Int) : ∃ r_, (fun w => w = bl (Be c)) r_ ∧ aP Tryz.prog 176 [.sc (.int .u8 c)] r_ := by
 refine dI tt_ok [] 9 [.tmp 2] (fn := Tryz.f176) Tryz.func176 rfl Tryz.call176 ⟨rfl, rfl, by simp⟩ fun K hK => ?_
 simp only [go_sem,reduceIte,zA,zB,zC,zD,zE,zF,reduceCtorEq]
 refine aL (fun ed => ?_) (fun ed => ?_)
 ·simp only [go_sem,reduceIte,zA,zB,zC,zD,zE,zF,reduceCtorEq]
  exact hK _ (congrArg bl (by simp_all [Be] <;> (intros; omega)))
 ·simp only [go_sem,reduceIte,zA,zB,zC,zD,zE,zF,reduceCtorEq]
  exact hK _ (congrArg bl (by simp_all [Be] <;> (intros; omega)))
theorem o4 (c : Int) : ∃ r_, (fun w => w = bl (eE c)) r_ ∧ aP Tryz.prog 128 [.sc (.int .u8 c)] r_ := by
 refine dI tt_ok [] 9 [.tmp 2] (fn := Tryz.f128) Tryz.func128 rfl Tryz.call128 ⟨rfl, rfl, by simp⟩ fun K hK => ?_
 simp only [go_sem,reduceIte,zA,zB,zC,zD,zE,zF,reduceCtorEq]
 refine aL (fun ed => ?_) (fun ed => ?_)
 ·simp only [go_sem,reduceIte,zA,zB,zC,zD,zE,zF,reduceCtorEq]
  exact hK _ (congrArg bl (by simp_all [eE] <;> (intros; omega)))
 ·simp only [go_sem,reduceIte,zA,zB,zC,zD,zE,zF,reduceCtorEq]
  exact hK _ (congrArg bl (by simp_all [eE] <;> (intros; omega)))
theorem pU (c : Int) : ∃ r_, (fun w => w = bl (uu c)) r_ ∧ aP Tryz.prog 178 [.sc (.int .u8 c)] r_ := by
 refine dI tt_ok [] 9 [.tmp 2] (fn := Tryz.f178) Tryz.func178 rfl Tryz.call178 ⟨rfl, rfl, by simp⟩ fun K hK => ?_
 simp only [go_sem,reduceIte,zA,zB,zC,zD,zE,zF,reduceCtorEq]
 refine aL (fun ed => ?_) (fun ed => ?_)
 ·simp only [go_sem,reduceIte,zA,zB,zC,zD,zE,zF,reduceCtorEq]
  exact hK _ (congrArg bl (by simp_all [uu] <;> (intros; omega)))
 ·simp only [go_sem,reduceIte,zA,zB,zC,zD,zE,zF,reduceCtorEq]
  exact hK _ (congrArg bl (by simp_all [uu] <;> (intros; omega)))
theorem yU (c : Int) : ∃ r_, (fun w => w = bl (Be c)) r_ ∧ aP Tryz.prog 202 [.sc (.int .u8 c)] r_ := by
 refine dI tt_ok [] 9 [.tmp 2] (fn := Tryz.f202) Tryz.func202 rfl Tryz.call202 ⟨rfl, rfl, by simp⟩ fun K hK => ?_
 simp only [go_sem,reduceIte,zA,zB,zC,zD,zE,zF,reduceCtorEq]
 refine aL (fun ed => ?_) (fun ed => ?_)
 ·simp only [go_sem,reduceIte,zA,zB,zC,zD,zE,zF,reduceCtorEq]
  exact hK _ (congrArg bl (by simp_all [Be] <;> (intros; omega)))
 ·simp only [go_sem,reduceIte,zA,zB,zC,zD,zE,zF,reduceCtorEq]
  exact hK _ (congrArg bl (by simp_all [Be] <;> (intros; omega)))
theorem mw (c : Int) : ∃ r_, (fun w => w = bl (eE c)) r_ ∧ aP Tryz.prog 179 [.sc (.int .u8 c)] r_ := by
 refine dI tt_ok [] 9 [.tmp 2] (fn := Tryz.f179) Tryz.func179 rfl Tryz.call179 ⟨rfl, rfl, by simp⟩ fun K hK => ?_
 simp only [go_sem,reduceIte,zA,zB,zC,zD,zE,zF,reduceCtorEq]
 refine aL (fun ed => ?_) (fun ed => ?_)
 ·simp only [go_sem,reduceIte,zA,zB,zC,zD,zE,zF,reduceCtorEq]
  exact hK _ (congrArg bl (by simp_all [eE] <;> (intros; omega)))
 ·simp only [go_sem,reduceIte,zA,zB,zC,zD,zE,zF,reduceCtorEq]
  exact hK _ (congrArg bl (by simp_all [eE] <;> (intros; omega)))
theorem Kt (c : Int) : ∃ r_, (fun w => w = bl (kD c)) r_ ∧ aP Tryz.prog 151 [.sc (.int .u8 c)] r_ := by
 refine dI tt_ok [] 17 [.tmp 2] (fn := Tryz.f151) Tryz.func151 rfl Tryz.call151 ⟨rfl, rfl, by simp⟩ fun K hK => ?_
 simp only [go_sem,reduceIte,zA,zB,zC,zD,zE,zF,reduceCtorEq]
 refine cF (s6 _) ?_
 rintro _ rfl
 simp only [go_sem,reduceIte,zA,zB,zC,zD,zE,zF,reduceCtorEq]
 refine aL (fun ed => ?_) (fun ed => ?_)
 ·simp only [go_sem,reduceIte,zA,zB,zC,zD,zE,zF,reduceCtorEq]
  exact hK _ (congrArg bl (by simp_all [kD]))
 ·simp only [go_sem,reduceIte,zA,zB,zC,zD,zE,zF,reduceCtorEq]
  refine cF (Bf _) ?_
  rintro _ rfl
  simp only [go_sem,reduceIte,zA,zB,zC,zD,zE,zF,reduceCtorEq]
  refine aL (fun yV => ?_) (fun yV => ?_)
  ·simp only [go_sem,reduceIte,zA,zB,zC,zD,zE,zF,reduceCtorEq]
   exact hK _ (congrArg bl (by simp_all [kD]))
  ·simp only [go_sem,reduceIte,zA,zB,zC,zD,zE,zF,reduceCtorEq]
   refine cF (o4 _) ?_
   rintro _ rfl
   simp only [go_sem,reduceIte,zA,zB,zC,zD,zE,zF,reduceCtorEq]
   refine aL (fun Bg => ?_) (fun Bg => ?_)
   ·simp only [go_sem,reduceIte,zA,zB,zC,zD,zE,zF,reduceCtorEq]
    exact hK _ (congrArg bl (by simp_all [kD]))
   ·simp only [go_sem,reduceIte,zA,zB,zC,zD,zE,zF,reduceCtorEq]
    exact hK _ (congrArg bl (by simp_all [kD]))
theorem Hg (c : Int) : ∃ r_, (fun w => w = bl (kD c)) r_ ∧ aP Tryz.prog 199 [.sc (.int .u8 c)] r_ := by
 refine dI tt_ok [] 17 [.tmp 2] (fn := Tryz.f199) Tryz.func199 rfl Tryz.call199 ⟨rfl, rfl, by simp⟩ fun K hK => ?_
 simp only [go_sem,reduceIte,zA,zB,zC,zD,zE,zF,reduceCtorEq]
 refine cF (pU _) ?_
 rintro _ rfl
 simp only [go_sem,reduceIte,zA,zB,zC,zD,zE,zF,reduceCtorEq]
 refine aL (fun ed => ?_) (fun ed => ?_)
 ·simp only [go_sem,reduceIte,zA,zB,zC,zD,zE,zF,reduceCtorEq]
  exact hK _ (congrArg bl (by simp_all [kD]))
 ·simp only [go_sem,reduceIte,zA,zB,zC,zD,zE,zF,reduceCtorEq]
  refine cF (yU _) ?_
  rintro _ rfl
  simp only [go_sem,reduceIte,zA,zB,zC,zD,zE,zF,reduceCtorEq]
  refine aL (fun yV => ?_) (fun yV => ?_)
  ·simp only [go_sem,reduceIte,zA,zB,zC,zD,zE,zF,reduceCtorEq]
   exact hK _ (congrArg bl (by simp_all [kD]))
  ·simp only [go_sem,reduceIte,zA,zB,zC,zD,zE,zF,reduceCtorEq]
   refine cF (mw _) ?_
   rintro _ rfl
   simp only [go_sem,reduceIte,zA,zB,zC,zD,zE,zF,reduceCtorEq]
   refine aL (fun Bg => ?_) (fun Bg => ?_)
   ·simp only [go_sem,reduceIte,zA,zB,zC,zD,zE,zF,reduceCtorEq]
    exact hK _ (congrArg bl (by simp_all [kD]))
   ·simp only [go_sem,reduceIte,zA,zB,zC,zD,zE,zF,reduceCtorEq]
    exact hK _ (congrArg bl (by simp_all [kD]))
theorem SQ (c : Int) : ∃ r_, (fun w => w = bl (s5 c)) r_ ∧ aP Tryz.prog 126 [.sc (.int .u8 c)] r_ := by
 refine dI tt_ok [] 9 [.tmp 2] (fn := Tryz.f126) Tryz.func126 rfl Tryz.call126 ⟨rfl, rfl, by simp⟩ fun K hK => ?_
 simp only [go_sem,reduceIte,zA,zB,zC,zD,zE,zF,reduceCtorEq]
 refine cF (s6 _) ?_
 rintro _ rfl
 simp only [go_sem,reduceIte,zA,zB,zC,zD,zE,zF,reduceCtorEq]
 refine aL (fun ed => ?_) (fun ed => ?_)
 ·simp only [go_sem,reduceIte,zA,zB,zC,zD,zE,zF,reduceCtorEq]
  exact hK _ (congrArg bl (by simp_all [s5]))
 ·simp only [go_sem,reduceIte,zA,zB,zC,zD,zE,zF,reduceCtorEq]
  refine cF (o4 _) ?_
  rintro _ rfl
  simp only [go_sem,reduceIte,zA,zB,zC,zD,zE,zF,reduceCtorEq]
  exact hK _ (congrArg bl (by simp_all [s5]))
theorem wM (g : FuncId) (p : Int → Bool) (hg : ∀ c : Int, ∃ r, (fun v => v = bl (p c)) r ∧ aP Tryz.prog g [.sc (.int .u8 c)] r) (s : ByteArray) (hs : s.size ≤ 1048576) : ∃ r_, (fun w => w = bl (gh p s)) r_ ∧ aP Tryz.prog 125 [str s, .sc (.func (.func g) #[] #[])] r_ := by
 refine dI tt_ok [] 18 [.tmp 4] (fn := Tryz.f125) Tryz.func125 rfl Tryz.call125 ⟨rfl, rfl, by simp⟩ fun K hK => ?_
 have fR : Tryz.prog.underlying 9 = some .string := by kernel_rfl
 have sl : ∀ (a : ByteArray) (ty : TypeId), cN Tryz.prog (Builtin.len_ #[9] ty) [.sc (.string a)] = some (num a.size) := fun a ty => cx (P := Tryz.prog) (tt := tt) (T := 9) a fR ty
 simp only [sl,go_sem,reduceIte,zA,zB,zC,zD,zE,zF,reduceCtorEq]
 refine bA tt_ok [] [8] 0 [0,1,7] (fun vs => ((s.size : Int) - Go.Eng.intOf (vs.headD .undef)).toNat) (fun vs => ∃ i : Nat, vs = [num i] ∧ i ≤ s.size ∧ ∀ j < i, ∀ b, s[j]? = some b → p b.toNat = true) (by omega) (by simp only [sl,go_sem,reduceIte,zA,zB,zC,zD,zE,zF,reduceCtorEq]) (⟨0, rfl, Nat.zero_le _, fun j hj => absurd hj (Nat.not_lt_zero j)⟩) fun vs hI Z1 bP => ?_
 obtain ⟨i, rfl, hi, ec⟩ := hI
 simp only [sl,go_sem,reduceIte,zA,zB,zC,zD,zE,zF,reduceCtorEq]
 refine aL (fun gi => ?_) (fun gi => ?_)
 ·have aB : i < s.size := by simpa using gi
  have hw := ax i (by omega)
  obtain ⟨c, kE⟩ := bZ (s := s) (i := i) aB
  have c6 := cQ (P := Tryz.prog) s fR .i64 (i : Int) (by omega) (c := c) (show s[((i : Nat) : Int).toNat]? = some c from kE)
  simp only [hw,c6,sl,go_sem,reduceIte,zA,zB,zC,zD,zE,zF,reduceCtorEq]
  refine cF (hg _) ?_
  rintro _ rfl
  simp only [hw,c6,sl,go_sem,reduceIte,zA,zB,zC,zD,zE,zF,reduceCtorEq]
  refine aL (fun kF => ?_) (fun kF => ?_)
  ·have aw : false = gh p s := (iH kE (by simpa using kF)).symm
   simp only [hw,c6,sl,go_sem,reduceIte,zA,zB,zC,zD,zE,zF,reduceCtorEq]
   exact hK _ (congrArg bl aw)
  ·simp only [hw,c6,sl,go_sem,reduceIte,zA,zB,zC,zD,zE,zF,reduceCtorEq]
   refine bP _ (cA (by omega) (by simp only [hw,c6,sl,go_sem,reduceIte,zA,zB,zC,zD,zE,zF,reduceCtorEq]) ?_ ?_) <;> simp only [fa,lk,reduceIte,zE]
   ·refine ⟨i + 1, rfl, aB, fun j hj b hb => ?_⟩
    rcases Nat.lt_or_ge j i with h | h
    ·exact ec j h b hb
    ·obtain rfl : j = i := by omega
     rw [kE] at hb; cases hb; simpa using kF
   ·simp only [Go.Eng.intOf,List.headD_cons]; omega
 ·have cB : ¬ i < s.size := by simpa using gi
  have aw : true = gh p s := (jQ fun j hj b hb => ec j (by omega) b hb).symm
  simp only [sl,go_sem,reduceIte,zA,zB,zC,zD,zE,zF,reduceCtorEq]
  exact hK _ (congrArg bl aw)
theorem Hh (s : ByteArray) (hs : s.size ≤ 1048576) : ∃ r_, (fun w => w = bl (gh kD s)) r_ ∧ aP Tryz.prog 190 [str s] r_ := by
 refine dI tt_ok [] 15 [.tmp 2] (fn := Tryz.f190) Tryz.func190 rfl Tryz.call190 ⟨rfl, rfl, by simp⟩ fun K hK => ?_
 have fR : Tryz.prog.underlying 9 = some .string := by kernel_rfl
 have sl : ∀ (a : ByteArray) (ty : TypeId), cN Tryz.prog (Builtin.len_ #[9] ty) [.sc (.string a)] = some (num a.size) := fun a ty => cx (P := Tryz.prog) (tt := tt) (T := 9) a fR ty
 simp only [sl,go_sem,reduceIte,zA,zB,zC,zD,zE,zF,reduceCtorEq]
 refine bA tt_ok [] [3] 0 [0] (fun vs => ((s.size : Int) - Go.Eng.intOf (vs.headD .undef)).toNat) (fun vs => ∃ i : Nat, vs = [num i] ∧ i ≤ s.size ∧ ∀ j < i, ∀ b, s[j]? = some b → kD b.toNat = true) (by omega) (by simp only [sl,go_sem,reduceIte,zA,zB,zC,zD,zE,zF,reduceCtorEq]) (⟨0, rfl, Nat.zero_le _, fun j hj => absurd hj (Nat.not_lt_zero j)⟩) fun vs hI Z1 bP => ?_
 obtain ⟨i, rfl, hi, ec⟩ := hI
 simp only [sl,go_sem,reduceIte,zA,zB,zC,zD,zE,zF,reduceCtorEq]
 refine aL (fun Bh => ?_) (fun Bh => ?_)
 ·have aB : i < s.size := by simpa using Bh
  have hw := ax i (by omega)
  obtain ⟨c, kE⟩ := bZ (s := s) (i := i) aB
  have c6 := cQ (P := Tryz.prog) s fR .i64 (i : Int) (by omega) (c := c) (show s[((i : Nat) : Int).toNat]? = some c from kE)
  simp only [hw,c6,sl,go_sem,reduceIte,zA,zB,zC,zD,zE,zF,reduceCtorEq]
  refine cF (Hg _) ?_
  rintro _ rfl
  simp only [hw,c6,sl,go_sem,reduceIte,zA,zB,zC,zD,zE,zF,reduceCtorEq]
  refine aL (fun cq => ?_) (fun cq => ?_)
  ·have aw : false = gh kD s := (iH kE (by simpa using cq)).symm
   simp only [hw,c6,sl,go_sem,reduceIte,zA,zB,zC,zD,zE,zF,reduceCtorEq]
   exact hK _ (congrArg bl aw)
  ·simp only [hw,c6,sl,go_sem,reduceIte,zA,zB,zC,zD,zE,zF,reduceCtorEq]
   refine bP _ (cA (by omega) (by simp only [hw,c6,sl,go_sem,reduceIte,zA,zB,zC,zD,zE,zF,reduceCtorEq]) ?_ ?_) <;> simp only [fa,lk,reduceIte,zE]
   ·refine ⟨i + 1, rfl, aB, fun j hj b hb => ?_⟩
    rcases Nat.lt_or_ge j i with h | h
    ·exact ec j h b hb
    ·obtain rfl : j = i := by omega
     rw [kE] at hb; cases hb; simpa using cq
   ·simp only [Go.Eng.intOf,List.headD_cons]; omega
 ·have cB : ¬ i < s.size := by simpa using Bh
  have aw : true = gh kD s := (jQ fun j hj b hb => ec j (by omega) b hb).symm
  simp only [sl,go_sem,reduceIte,zA,zB,zC,zD,zE,zF,reduceCtorEq]
  exact hK _ (congrArg bl aw)
end Go.Proofs.YtnfeacnbgbggfaaGreatDoor
end

section
namespace Go.Proofs.YtnfeacnbgbggfaaGreatDoor
open Go.Eng
open Nat renaming reduceAdd → zA, reduceLT → zB, reduceLeDiff → zC, reduceMul → zD, reduceEqDiff → zE, reduceSub → zF
variable [aG]
set_option maxHeartbeats 4000000
set_option maxRecDepth 100000
def dr.part (v : dr) (i : Nat) : Int := if i = 0 then v.mj else if i = 1 then v.mn else v.pt
theorem Wr (a b c : Int) : Ap Tryz.prog 151 [(0, .int .i64 a), (1, .int .i64 b), (2, .int .i64 c)] = some (.agg [num a, num b, num c]) := by kernel_rfl
theorem OS (a b c : Int) : aT Tryz.prog (Instr.index 151) (.agg [num a, num b, num c]) (num 0) = some (num a) := by kernel_rfl
theorem OT (a b c : Int) : aT Tryz.prog (Instr.index 151) (.agg [num a, num b, num c]) (num 1) = some (num b) := by kernel_rfl
theorem OU (a b c : Int) : aT Tryz.prog (Instr.index 151) (.agg [num a, num b, num c]) (num 2) = some (num c) := by kernel_rfl
theorem SR (v : dr) (i : Nat) (h : i < 3) : aT Tryz.prog (Instr.index 151) (.agg [num v.mj, num v.mn, num v.pt]) (num i) = some (num (v.part i)) := by
 obtain ⟨a, b, c⟩ := v
 match i, h with
 | 0, _ => exact OS a b c
 | 1, _ => exact OT a b c
 | 2, _ => exact OU a b c
theorem dr.SS (v : dr) (i : Nat) (h : i < 3) : [num v.mj, num v.mn, num v.pt][i]? = some (num (v.part i)) := by
 obtain ⟨a, b, c⟩ := v
 match i, h with
 | 0, _ => rfl
 | 1, _ => rfl
 | 2, _ => rfl
def gj (n : Int) : Bool := decide (0 ≤ n) && decide (n ≤ 999)
def dr.ok (v : dr) : Bool := gj v.mj && gj v.mn && gj v.pt
theorem dr.Bi (v : dr) : v.ok = true ↔ ∀ i < 3, gj (v.part i) = true := by
 unfold dr.ok
 simp only [Bool.and_eq_true]
 constructor
 ·rintro ⟨⟨h0, h1⟩, h2⟩ i hi
  match i, hi with
  | 0, _ => exact h0
  | 1, _ => exact h1
  | 2, _ => exact h2
 ·exact fun h => ⟨⟨h 0 (by omega), h 1 (by omega)⟩, h 2 (by omega)⟩
def ft (a b : Int) : Int := if a < b then -1 else if b < a then 1 else 0
def dr.cmp (a b : dr) : Int := if ft a.mj b.mj ≠ 0 then ft a.mj b.mj else if ft a.mn b.mn ≠ 0 then ft a.mn b.mn else ft a.pt b.pt
theorem dr.Bj {a b : dr} {i : Nat} (hi : i < 3) (h : ∀ j < i, ft (a.part j) (b.part j) = 0) (bO : ft (a.part i) (b.part i) ≠ 0) : a.cmp b = ft (a.part i) (b.part i) := by
 unfold dr.cmp
 match i, hi with
 | 0, _ => exact if_pos bO
 | 1, _ =>
  have h0 := h 0 (by omega)
  simp only [dr.part,if_true] at h0
  rw [if_neg (by rw [h0]; simp)]
  exact if_pos bO
 | 2, _ =>
  have h0 := h 0 (by omega)
  have h1 := h 1 (by omega)
  simp only [dr.part,if_true] at h0 h1
  rw [if_neg (by rw [h0]; simp), if_neg (by rw [show ft a.mn b.mn = 0 from h1]; simp)]
  rfl
theorem dr.cmp_eq {a b : dr} (h : ∀ j < 3, ft (a.part j) (b.part j) = 0) : a.cmp b = 0 := by
 unfold dr.cmp
 have h0 := h 0 (by omega)
 have h1 := h 1 (by omega)
 have h2 := h 2 (by omega)
 rw [if_neg (by rw [show ft a.mj b.mj = 0 from h0]; simp), if_neg (by rw [show ft a.mn b.mn = 0 from h1]; simp)]
 exact h2
def ke (a b : ByteArray) : Bool := Op.bytesLess a.toList b.toList
theorem ao (a b : ByteArray) : (a.toList == b.toList) = decide (a = b) := by
 rw [Bool.eq_iff_iff, beq_iff_eq, decide_eq_true_eq]
 refine ⟨fun h => ?_, fun h => by rw [h]⟩
 rw [ByteArray.toList_eq, ByteArray.toList_eq] at h
 cases a; cases b; congr 1; exact Array.toList_inj.1 h
theorem nH (a b : ByteArray) : ke a b = decide (a.data.toList < b.data.toList) := by
 unfold ke
 rw [Proofs.bytesLess_eq, ByteArray.toList_eq, ByteArray.toList_eq]
def kG (a b : ByteArray) : Int := if ke a b = true then -1 else if a = b then 0 else 1
theorem iI {v : dr} (h : v.ok = true) : IntKind.i64.wrap (1000 * v.mn) = 1000 * v.mn ∧ IntKind.i64.wrap (1000 * v.mn + v.pt) = v.place ∧ 0 ≤ v.place ∧ v.place < 1000000 := by
 unfold dr.ok gj at h
 simp only [Bool.and_eq_true,decide_eq_true_eq] at h
 unfold dr.place
 refine ⟨IntWalk.i64_in _ (by omega), IntWalk.i64_in _ (by omega), by omega, by omega⟩
theorem s7 (v : dr) : ∃ r_, (fun w => w = .agg [num v.mj, num v.mn, num v.pt]) r_ ∧ aP Tryz.prog 114 [bh v] r_ := by
 refine dI tt_ok [] 10 [.cell 2 151] (fn := Tryz.f114) Tryz.func114 rfl Tryz.call114 ⟨rfl, rfl, by simp⟩ fun K hK => ?_
 simp only [bh]
 simp only [Wr,go_sem,reduceIte,zA,zB,zC,zD,zE,zF,reduceCtorEq]
 exact hK _ rfl
theorem yW (v : dr) : ∃ r_, (fun w => w = bl (v.ok)) r_ ∧ aP Tryz.prog 78 [bh v] r_ := by
 refine dI tt_ok [] 17 [.tmp 2] (fn := Tryz.f78) Tryz.func78 rfl Tryz.call78 ⟨rfl, rfl, by simp⟩ fun K hK => ?_
 simp only [bh]
 simp only [go_sem,reduceIte,zA,zB,zC,zD,zE,zF,reduceCtorEq]
 refine cF (by have h := s7 v; simp only [bh] at h; exact h) ?_
 rintro _ rfl
 simp only [go_sem,reduceIte,zA,zB,zC,zD,zE,zF,reduceCtorEq]
 refine bA tt_ok [] [7] 1 [6] (fun vs => ((3 : Int) - Go.Eng.intOf (vs.headD .undef)).toNat) (fun vs => ∃ i : Nat, vs = [num i] ∧ i ≤ 3 ∧ ∀ j < i, gj (v.part j) = true) (by omega) (by simp only [go_sem,reduceIte,zA,zB,zC,zD,zE,zF,reduceCtorEq]) (⟨0, rfl, Nat.zero_le _, fun j hj => absurd hj (Nat.not_lt_zero j)⟩) fun vs hI Z1 bP => ?_
 obtain ⟨i, rfl, hi, aS⟩ := hI
 simp only [go_sem,reduceIte,zA,zB,zC,zD,zE,zF,reduceCtorEq]
 refine aL (fun MJ => ?_) (fun MJ => ?_)
 ·have aB : i < 3 := by have := of_decide_eq_true MJ; omega
  have c6 := SR v i aB
  have hw := ax i (by omega)
  simp only [c6,hw,go_sem,reduceIte,zA,zB,zC,zD,zE,zF,reduceCtorEq]
  refine aL (fun SU => ?_) (fun SU => ?_)
  ·have aw : false = v.ok := by
    cases ho : v.ok with
    | false => rfl
    | true =>
     have h1 := v.Bi.1 ho i aB
     unfold gj at h1
     simp only [Bool.and_eq_true,decide_eq_true_eq] at h1
     exfalso; simp_all <;> omega
   simp only [c6,hw,go_sem,reduceIte,zA,zB,zC,zD,zE,zF,reduceCtorEq]
   exact hK _ (congrArg bl aw)
  ·simp only [c6,hw,go_sem,reduceIte,zA,zB,zC,zD,zE,zF,reduceCtorEq]
   refine aL (fun gJ => ?_) (fun gJ => ?_)
   ·have aw : false = v.ok := by
     cases ho : v.ok with
     | false => rfl
     | true =>
      have h1 := v.Bi.1 ho i aB
      unfold gj at h1
      simp only [Bool.and_eq_true,decide_eq_true_eq] at h1
      exfalso; simp_all <;> omega
    simp only [c6,hw,go_sem,reduceIte,zA,zB,zC,zD,zE,zF,reduceCtorEq]
    exact hK _ (congrArg bl aw)
   ·simp only [c6,hw,go_sem,reduceIte,zA,zB,zC,zD,zE,zF,reduceCtorEq]
    refine bP _ (cA (by omega) (by simp only [c6,hw,go_sem,reduceIte,zA,zB,zC,zD,zE,zF,reduceCtorEq]) ?_ ?_) <;> simp only [fa,lk,reduceIte,zE]
    ·refine ⟨i + 1, rfl, aB, fun j hj => ?_⟩
     rcases Nat.lt_or_ge j i with h | h
     ·exact aS j h
     ·obtain rfl : j = i := by omega
      unfold gj; simp_all <;> omega
    ·simp only [Go.Eng.intOf,List.headD_cons]; omega
 ·have cB : i = 3 := by have := of_decide_eq_false MJ; omega
  subst cB
  have aw : true = v.ok := (v.Bi.2 aS).symm
  simp only [go_sem,reduceIte,zA,zB,zC,zD,zE,zF,reduceCtorEq]
  exact hK _ (congrArg bl aw)
end Go.Proofs.YtnfeacnbgbggfaaGreatDoor
end

section
namespace Go.Proofs.YtnfeacnbgbggfaaGreatDoor
open Go.Eng
open Nat renaming reduceAdd → zA, reduceLT → zB, reduceLeDiff → zC, reduceMul → zD, reduceEqDiff → zE, reduceSub → zF
variable [aG]
set_option maxHeartbeats 4000000
set_option maxRecDepth 100000
def Ku (l : List Int) : Int := (l.find? fun n => decide (n ≠ 0)).getD 0
theorem OV {l : List Int} {i : Nat} {n : Int} (h : l[i]? = some n) (hn : n ≠ 0) (aS : ∀ j < i, ∀ m, l[j]? = some m → m = 0) : Ku l = n := by
 unfold Ku
 have : l.find? (fun n => decide (n ≠ 0)) = some n := by
  rw [List.find?_eq_some_iff_getElem]
  refine ⟨by simpa using hn, i, (List.getElem?_eq_some_iff.1 h).1, (List.getElem?_eq_some_iff.1 h).2, fun j hj => ?_⟩
  have := aS j hj _ (List.getElem?_eq_getElem (by have := (List.getElem?_eq_some_iff.1 h).1; omega))
  simpa using this
 rw [this]; rfl
theorem Hi {l : List Int} (aS : ∀ j < l.length, ∀ m, l[j]? = some m → m = 0) : Ku l = 0 := by
 unfold Ku
 have : l.find? (fun n => decide (n ≠ 0)) = none := by
  rw [List.find?_eq_none]
  intro n hn
  obtain ⟨j, hj⟩ := List.mem_iff_getElem?.1 hn
  have := aS j (List.getElem?_eq_some_iff.1 hj).1 n hj
  simpa using this
 rw [this]; rfl
def Rl.cmp (a b : Rl) : Int := if kG a.path b.path ≠ 0 then kG a.path b.path else a.aC.cmp b.aC
theorem Kv (a b : Int) : Ku [a, b] = if a ≠ 0 then a else b := by
 unfold Ku
 by_cases h : a = 0 <;> by_cases h2 : b = 0 <;> simp [h, h2]
theorem CX (n : Int) : ∃ r_, (fun w => w = bl (false)) r_ ∧ aP Tryz.prog 158 [num n] r_ := by
 refine dI tt_ok [] 6 [.tmp 2] (fn := Tryz.f158) Tryz.func158 rfl Tryz.call158 ⟨rfl, rfl, by simp⟩ fun K hK => ?_
 simp only [go_sem,reduceIte,zA,zB,zC,zD,zE,zF,reduceCtorEq]
 exact hK _ (congrArg bl (by simp))
theorem CY (s : ByteArray) : ∃ r_, (fun w => w = bl (false)) r_ ∧ aP Tryz.prog 135 [str s] r_ := by
 refine dI tt_ok [] 6 [.tmp 2] (fn := Tryz.f135) Tryz.func135 rfl Tryz.call135 ⟨rfl, rfl, by simp⟩ fun K hK => ?_
 simp only [go_sem,reduceIte,zA,zB,zC,zD,zE,zF,reduceCtorEq]
 exact hK _ (congrArg bl (by simp))
theorem Kw (a b : Int) : ∃ r_, (fun w => w = num (ft a b)) r_ ∧ aP Tryz.prog 136 [num a, num b] r_ := by
 refine dI tt_ok [] 20 [.tmp 4] (fn := Tryz.f136) Tryz.func136 rfl Tryz.call136 ⟨rfl, rfl, by simp⟩ fun K hK => ?_
 simp only [go_sem,reduceIte,zA,zB,zC,zD,zE,zF,reduceCtorEq]
 refine cF (CX _) ?_
 rintro _ rfl
 simp only [go_sem,reduceIte,zA,zB,zC,zD,zE,zF,reduceCtorEq]
 refine cF (CX _) ?_
 rintro _ rfl
 simp only [go_sem,reduceIte,zA,zB,zC,zD,zE,zF,reduceCtorEq]
 refine aL (fun kF => ?_) (fun kF => ?_)
 ·simp only [go_sem,reduceIte,zA,zB,zC,zD,zE,zF,reduceCtorEq]
  exact hK _ (congrArg num (by unfold ft; simp_all <;> omega))
 ·simp only [go_sem,reduceIte,zA,zB,zC,zD,zE,zF,reduceCtorEq]
  refine aL (fun nI => ?_) (fun nI => ?_)
  ·simp only [go_sem,reduceIte,zA,zB,zC,zD,zE,zF,reduceCtorEq]
   exact hK _ (congrArg num (by unfold ft; simp_all <;> omega))
  ·simp only [go_sem,reduceIte,zA,zB,zC,zD,zE,zF,reduceCtorEq]
   exact hK _ (congrArg num (by unfold ft; simp_all <;> omega))
theorem Kx (a b : ByteArray) : ∃ r_, (fun w => w = num (kG a b)) r_ ∧ aP Tryz.prog 111 [str a, str b] r_ := by
 refine dI tt_ok [] 20 [.tmp 4] (fn := Tryz.f111) Tryz.func111 rfl Tryz.call111 ⟨rfl, rfl, by simp⟩ fun K hK => ?_
 simp only [go_sem,reduceIte,zA,zB,zC,zD,zE,zF,reduceCtorEq]
 refine cF (CY _) ?_
 rintro _ rfl
 simp only [go_sem,reduceIte,zA,zB,zC,zD,zE,zF,reduceCtorEq]
 refine cF (CY _) ?_
 rintro _ rfl
 simp only [go_sem,reduceIte,zA,zB,zC,zD,zE,zF,reduceCtorEq]
 refine aL (fun kF => ?_) (fun kF => ?_)
 ·simp only [go_sem,reduceIte,zA,zB,zC,zD,zE,zF,reduceCtorEq]
  exact hK _ (congrArg num (by unfold kG ke; simp_all [ao]))
 ·simp only [go_sem,reduceIte,zA,zB,zC,zD,zE,zF,reduceCtorEq]
  refine aL (fun nI => ?_) (fun nI => ?_)
  ·simp only [go_sem,reduceIte,zA,zB,zC,zD,zE,zF,reduceCtorEq]
   exact hK _ (congrArg num (by unfold kG ke; simp_all [ao]))
  ·simp only [go_sem,reduceIte,zA,zB,zC,zD,zE,zF,reduceCtorEq]
   exact hK _ (congrArg num (by unfold kG ke; simp_all [ao]))
theorem SV (l : List Int) (hl : l.length ≤ 1048576) : ∃ r_, (fun w => w = num (Ku l)) r_ ∧ aP Tryz.prog 110 [.slice (l.map num)] r_ := by
 refine dI tt_ok [] 18 [.tmp 2] (fn := Tryz.f110) Tryz.func110 rfl Tryz.call110 ⟨rfl, rfl, by simp⟩ fun K hK => ?_
 simp only [List.length_map,go_sem,reduceIte,zA,zB,zC,zD,zE,zF,reduceCtorEq]
 refine bA tt_ok [] [8] 0 [3,6,7] (fun vs => ((l.length : Int) - Go.Eng.intOf (vs.headD .undef)).toNat) (fun vs => ∃ i : Nat, vs = [num i] ∧ i ≤ l.length ∧ ∀ j < i, ∀ m, l[j]? = some m → m = 0) (by omega) (by simp only [List.length_map,go_sem,reduceIte,zA,zB,zC,zD,zE,zF,reduceCtorEq]) (⟨0, rfl, Nat.zero_le _, fun j hj => absurd hj (Nat.not_lt_zero j)⟩) fun vs hI Z1 bP => ?_
 obtain ⟨i, rfl, hi, aS⟩ := hI
 simp only [List.length_map,go_sem,reduceIte,zA,zB,zC,zD,zE,zF,reduceCtorEq]
 refine aL (fun gi => ?_) (fun gi => ?_)
 ·have aB : i < l.length := by simpa using gi
  have hw := ax i (by omega)
  obtain ⟨x, hx⟩ : ∃ x, l[i]? = some x := ⟨_, List.getElem?_eq_getElem aB⟩
  simp only [hw,List.getElem?_map,hx,List.length_map,go_sem,reduceIte,zA,zB,zC,zD,zE,zF,reduceCtorEq]
  refine aL (fun cq => ?_) (fun cq => ?_)
  ·have aw : x = Ku l := (OV hx (by simpa using cq) aS).symm
   simp only [hw,List.getElem?_map,hx,List.length_map,go_sem,reduceIte,zA,zB,zC,zD,zE,zF,reduceCtorEq]
   exact hK _ (congrArg num aw)
  ·simp only [hw,List.getElem?_map,hx,List.length_map,go_sem,reduceIte,zA,zB,zC,zD,zE,zF,reduceCtorEq]
   refine bP _ (cA (by omega) (by simp only [hw,List.getElem?_map,hx,List.length_map,go_sem,reduceIte,zA,zB,zC,zD,zE,zF,reduceCtorEq]) ?_ ?_) <;> simp only [fa,lk,reduceIte,zE]
   ·refine ⟨i + 1, rfl, aB, fun j hj => ?_⟩
    rcases Nat.lt_or_ge j i with h | h
    ·exact aS j h
    ·obtain rfl : j = i := by omega
     intro m hm
     rw [hx] at hm; cases hm; simpa using cq
   ·simp only [Go.Eng.intOf,List.headD_cons]; omega
 ·have cB : ¬ i < l.length := by simpa using gi
  have aw : 0 = Ku l := (Hi fun j hj => aS j (by omega)).symm
  simp only [List.length_map,go_sem,reduceIte,zA,zB,zC,zD,zE,zF,reduceCtorEq]
  exact hK _ (congrArg num aw)
end Go.Proofs.YtnfeacnbgbggfaaGreatDoor
end

section
namespace Go.Proofs.YtnfeacnbgbggfaaGreatDoor
open Go.Eng
variable [aG]
theorem Ws {P : Program} {T : TypeId} (hT : P.underlying T = some .string) (d : Nat) (a b : ByteArray) : aH P (Op.equalIn (d + 1) T (.string a) (.string b)) = some (a == b) := by
 rw [Op.equalIn, aN, cw hT]
 rfl
theorem Hj {P : Program} {T : TypeId} (hT : P.underlying T = some (.int .i64)) (d : Nat) (a b : Int) : aH P (Op.equalIn (d + 1) T (.int .i64 a) (.int .i64 b)) = some (a == b) := by
 rw [Op.equalIn, aN, cw hT]
 rfl
theorem OW (d : Nat) (a b c e : Int) : aH Tryz.prog (Op.equalIn (d + 1 + 1) 78 (.agg #[.int .i64 a, .int .i64 b]) (.agg #[.int .i64 c, .int .i64 e])) = some (a == c && b == e) := by
 have q1 := Hj Tryz.underlying3 d a c
 have q2 := Hj Tryz.underlying3 d b e
 have hs : Tryz.prog.stoodInHeld 78 = false := by kernel_rfl
 have jr : ∀ x y, aH Tryz.prog (part 3 #[x, y] 0) = some x := fun x y => by kernel_rfl
 have pE : ∀ x y, aH Tryz.prog (part 3 #[x, y] 1) = some y := fun x y => by kernel_rfl
 rw [Op.equalIn, aN, cw Tryz.underlying78]
 dsimp only [Option.bind_some]
 rw [aN]
 show ((some Tryz.prog).bind _) = _
 rw [Option.bind_some, if_neg (by rw [hs]; simp)]
 rw [← Array.forIn_toList]
 have n1 : ("From" ≠ "_") := by decide
 have n2 : ("To" ≠ "_") := by decide
 have pr : ∀ {α : Type} (x : α), aH Tryz.prog (pure x : Sem α) = some x := fun x => rfl
 simp only [List.forIn_cons,List.forIn_nil,aN,if_pos n1,if_pos n2,jr,pE,Option.bind_some,q1,pr]
 cases Zu : (a == c)
 ·simp [pr, Option.bind_some]
 ·simp only [Bool.not_true,Bool.false_eq_true,if_false,pr,Option.bind_some,aN,if_pos n2,pE,q2,Bool.true_and]
  cases dE : (b == e) <;> simp [pr, aN]
theorem Hk (n : Nat) (a b c x y z : Int) : aH Tryz.prog (Op.equalIn (n + 1 + 1) 38 (.agg #[.int .i64 a, .int .i64 b, .int .i64 c]) (.agg #[.int .i64 x, .int .i64 y, .int .i64 z])) = some (a == x && (b == y && c == z)) := by
 have q1 := Hj Tryz.underlying3 n a x
 have q2 := Hj Tryz.underlying3 n b y
 have q3 := Hj Tryz.underlying3 n c z
 have hs : Tryz.prog.stoodInHeld 38 = false := by kernel_rfl
 have jr : ∀ x y z, aH Tryz.prog (part 3 #[x, y, z] 0) = some x := fun x y z => by kernel_rfl
 have pE : ∀ x y z, aH Tryz.prog (part 3 #[x, y, z] 1) = some y := fun x y z => by kernel_rfl
 have Wt : ∀ x y z, aH Tryz.prog (part 3 #[x, y, z] 2) = some z := fun x y z => by kernel_rfl
 rw [Op.equalIn, aN, cw Tryz.underlying38]
 dsimp only [Option.bind_some]
 rw [aN]
 show ((some Tryz.prog).bind _) = _
 rw [Option.bind_some, if_neg (by rw [hs]; simp)]
 rw [← Array.forIn_toList]
 have n1 : ("Major" ≠ "_") := by decide
 have n2 : ("Minor" ≠ "_") := by decide
 have n3 : ("Patch" ≠ "_") := by decide
 have pr : ∀ {α : Type} (x : α), aH Tryz.prog (pure x : Sem α) = some x := fun x => rfl
 simp only [List.forIn_cons,List.forIn_nil,aN,if_pos n1,if_pos n2,if_pos n3,jr,pE,Wt,Option.bind_some,q1,pr]
 cases h1 : (a == x)
 ·simp [pr, Option.bind_some]
 ·simp only [Bool.not_true,Bool.false_eq_true,if_false,pr,Option.bind_some,aN,if_pos n2,if_pos n3,pE,Wt,q2,q3,Bool.true_and]
  cases h2 : (b == y)
  ·simp [pr, aN]
  ·simp only [Bool.not_true,Bool.false_eq_true,if_false,pr,Option.bind_some,aN,if_pos n3,Wt,q3,Bool.true_and]
   cases h3 : (c == z) <;> simp [pr, aN]
theorem OX (n : Nat) (s t : ByteArray) (a b c x y z : Int) : aH Tryz.prog (Op.equalIn (n + 1 + 1 + 1) 54 (.agg #[.string s, .int .i64 a, .int .i64 b, .int .i64 c]) (.agg #[.string t, .int .i64 x, .int .i64 y, .int .i64 z])) = some (s == t && (a == x && (b == y && c == z))) := by
 have q1 := Ws Tryz.underlying9 (n + 1) s t
 have q2 := Hk n a b c x y z
 have hs : Tryz.prog.stoodInHeld 54 = false := by kernel_rfl
 have jr : ∀ x y z u, aH Tryz.prog (part 9 #[x, y, z, u] 0) = some x := fun x y z u => by kernel_rfl
 have pE : ∀ x y z u, aH Tryz.prog (part 38 #[x, y, z, u] 1) = some (.agg #[y, z, u]) := fun x y z u => by kernel_rfl
 rw [Op.equalIn, aN, cw Tryz.underlying54]
 dsimp only [Option.bind_some]
 rw [aN]
 show ((some Tryz.prog).bind _) = _
 rw [Option.bind_some, if_neg (by rw [hs]; simp)]
 rw [← Array.forIn_toList]
 have n1 : ("Path" ≠ "_") := by decide
 have n2 : ("Version" ≠ "_") := by decide
 have pr : ∀ {α : Type} (x : α), aH Tryz.prog (pure x : Sem α) = some x := fun x => rfl
 simp only [List.forIn_cons,List.forIn_nil,aN,if_pos n1,if_pos n2,jr,pE,Option.bind_some,q1,pr]
 cases Zu : (s == t)
 ·simp [pr, Option.bind_some]
 ·simp only [Bool.not_true,Bool.false_eq_true,if_false,pr,Option.bind_some,aN,if_pos n2,pE,q2,Bool.true_and]
  cases dE : (a == x && (b == y && c == z)) <;> simp [pr, aN]
theorem Wu (u v : bG) : aH Tryz.prog (Op.equal 78 (.agg #[.int .i64 u.lo, .int .i64 u.hi]) (.agg #[.int .i64 v.lo, .int .i64 v.hi])) = some (decide (u = v)) := by
 rw [show Op.equal 78 = Op.equalIn (9998 + 1 + 1) 78 from rfl, OW]
 congr 1
 rw [Bool.eq_iff_iff]
 simp only [Bool.and_eq_true,beq_iff_eq,decide_eq_true_eq]
 exact ⟨fun h => bG.ext' h.1 h.2, fun h => by subst h; exact ⟨rfl, rfl⟩⟩
theorem Wv (u v : dr) : aH Tryz.prog (Op.equal 38 (.agg #[.int .i64 u.mj, .int .i64 u.mn, .int .i64 u.pt]) (.agg #[.int .i64 v.mj, .int .i64 v.mn, .int .i64 v.pt])) = some (decide (u = v)) := by
 rw [show Op.equal 38 = Op.equalIn (9998 + 1 + 1) 38 from rfl, Hk]
 congr 1
 rw [Bool.eq_iff_iff]
 simp only [Bool.and_eq_true,beq_iff_eq,decide_eq_true_eq]
 exact ⟨fun h => dr.ext' h.1 h.2.1 h.2.2, fun h => by subst h; exact ⟨rfl, rfl, rfl⟩⟩
def aM (s : dD) : Value := .agg #[.string s.path, .int .i64 s.aC.mj, .int .i64 s.aC.mn, .int .i64 s.aC.pt]
theorem OY (u v : dD) : aH Tryz.prog (Op.equal 54 (aM u) (aM v)) = some (decide (u = v)) := by
 unfold aM
 rw [show Op.equal 54 = Op.equalIn (9997 + 1 + 1 + 1) 54 from rfl, OX]
 congr 1
 rw [Bool.eq_iff_iff]
 simp only [Bool.and_eq_true,beq_iff_eq,decide_eq_true_eq,ic]
 exact ⟨fun h => dD.ext' h.1 (dr.ext' h.2.1 h.2.2.1 h.2.2.2), fun h => by subst h; exact ⟨rfl, rfl, rfl, rfl⟩⟩
theorem bK (x y : Operand) (u v : bG) : aT Tryz.prog (fO .neq 78 x y) (.agg [num u.lo, num u.hi]) (.agg [num v.lo, num v.hi]) = some (bl (!decide (u = v))) := by
 have : aH Tryz.prog (do eqGuard .neq 78 x y (.agg #[.int .i64 u.lo, .int .i64 u.hi]) (.agg #[.int .i64 v.lo, .int .i64 v.hi]); binOp .neq 78 (.agg #[.int .i64 u.lo, .int .i64 u.hi]) (.agg #[.int .i64 v.lo, .int .i64 v.hi])) = some (.bool (!decide (u = v))) := by
  have hg : aH Tryz.prog (eqGuard .neq 78 x y (.agg #[.int .i64 u.lo, .int .i64 u.hi]) (.agg #[.int .i64 v.lo, .int .i64 v.hi])) = some () := by kernel_rfl
  rw [aN, hg, Option.bind_some]
  have hb : ∀ u v : Array Value, binOp .neq 78 (.agg u) (.agg v) = (Op.equal 78 (.agg u) (.agg v) >>= fun r => Pure.pure (Value.bool !r)) := fun u v => rfl
  rw [hb, aN, Wu]; rfl
 simp only [aT,bC,mV,fO]
 rw [this]; rfl
theorem cV (x y : Operand) (u v : dr) : aT Tryz.prog (fO .eql 38 x y) (.agg [num u.mj, num u.mn, num u.pt]) (.agg [num v.mj, num v.mn, num v.pt]) = some (bl (decide (u = v))) := by
 have : aH Tryz.prog (do eqGuard .eql 38 x y (.agg #[.int .i64 u.mj, .int .i64 u.mn, .int .i64 u.pt]) (.agg #[.int .i64 v.mj, .int .i64 v.mn, .int .i64 v.pt]); binOp .eql 38 (.agg #[.int .i64 u.mj, .int .i64 u.mn, .int .i64 u.pt]) (.agg #[.int .i64 v.mj, .int .i64 v.mn, .int .i64 v.pt])) = some (.bool (decide (u = v))) := by
  have hg : aH Tryz.prog (eqGuard .eql 38 x y (.agg #[.int .i64 u.mj, .int .i64 u.mn, .int .i64 u.pt]) (.agg #[.int .i64 v.mj, .int .i64 v.mn, .int .i64 v.pt])) = some () := by kernel_rfl
  rw [aN, hg, Option.bind_some]
  have hb : ∀ u v : Array Value, binOp .eql 38 (.agg u) (.agg v) = (Op.equal 38 (.agg u) (.agg v) >>= fun r => Pure.pure (Value.bool r)) := fun u v => rfl
  rw [hb, aN, Wv]; rfl
 simp only [aT,bC,mV,fO]
 rw [this]; rfl
theorem Hl (x y : Operand) (u v : dD) : aT Tryz.prog (fO .eql 54 x y) (.agg [str u.path, num u.aC.mj, num u.aC.mn, num u.aC.pt]) (.agg [str v.path, num v.aC.mj, num v.aC.mn, num v.aC.pt]) = some (bl (decide (u = v))) := by
 have : aH Tryz.prog (do eqGuard .eql 54 x y (aM u) (aM v); binOp .eql 54 (aM u) (aM v)) = some (.bool (decide (u = v))) := by
  have hg : aH Tryz.prog (eqGuard .eql 54 x y (aM u) (aM v)) = some () := by unfold aM; kernel_rfl
  rw [aN, hg, Option.bind_some]
  have hb : ∀ u v : Array Value, binOp .eql 54 (.agg u) (.agg v) = (Op.equal 54 (.agg u) (.agg v) >>= fun r => Pure.pure (Value.bool r)) := fun u v => rfl
  unfold aM
  rw [hb, aN]
  have := OY u v
  unfold aM at this
  rw [this]; rfl
 unfold aM at this
 simp only [aT,bC,mV,fO]
 rw [this]; rfl
theorem eH (x y : Operand) (u v : dD) : aT Tryz.prog (fO .neq 54 x y) (.agg [str u.path, num u.aC.mj, num u.aC.mn, num u.aC.pt]) (.agg [str v.path, num v.aC.mj, num v.aC.mn, num v.aC.pt]) = some (bl (!decide (u = v))) := by
 have : aH Tryz.prog (do eqGuard .neq 54 x y (aM u) (aM v); binOp .neq 54 (aM u) (aM v)) = some (.bool (!decide (u = v))) := by
  have hg : aH Tryz.prog (eqGuard .neq 54 x y (aM u) (aM v)) = some () := by unfold aM; kernel_rfl
  rw [aN, hg, Option.bind_some]
  have hb : ∀ u v : Array Value, binOp .neq 54 (.agg u) (.agg v) = (Op.equal 54 (.agg u) (.agg v) >>= fun r => Pure.pure (Value.bool !r)) := fun u v => rfl
  unfold aM
  rw [hb, aN]
  have := OY u v
  unfold aM at this
  rw [this]; rfl
 unfold aM at this
 simp only [aT,bC,mV,fO]
 rw [this]; rfl
end Go.Proofs.YtnfeacnbgbggfaaGreatDoor
end

section
namespace Go.Proofs.YtnfeacnbgbggfaaGreatDoor
open Go.Eng
open Nat renaming reduceAdd → zA, reduceLT → zB, reduceLeDiff → zC, reduceMul → zD, reduceEqDiff → zE, reduceSub → zF
variable [aG]
set_option maxHeartbeats 4000000
set_option maxRecDepth 100000
def dr.pl (v : dr) : Int := if v.ok = true then v.place else 0
def ng (p : Int) (x : bG) : Bool := decide (x.lo ≤ p) && decide (p < x.hi)
theorem wN {α : Type} {q : α → Bool} {l : List α} {i : Nat} {x : α} (h : l[i]? = some x) (hq : q x = true) : l.any q = true := List.any_eq_true.2 ⟨x, List.mem_of_getElem? h, hq⟩
theorem any_none {α : Type} {q : α → Bool} {l : List α} (h : ∀ j < l.length, ∀ x, l[j]? = some x → q x = false) : l.any q = false := by
 rw [List.any_eq_false]
 intro x hx
 obtain ⟨j, hj⟩ := List.mem_iff_getElem?.1 hx
 rw [h j (List.getElem?_eq_some_iff.1 hj).1 x hj]; simp
theorem has_eq (s : List bG) (p : Int) : has s p = (decide (0 ≤ p) && decide (p < 1000000) && s.any (ng p)) := rfl
theorem CZ (s : List bG) (p : Int) : (s.any fun x => decide (max 0 x.lo ≤ p) && decide (p < min 1000000 x.hi)) = has s p := by
 rw [has_eq, Bool.eq_iff_iff]
 simp only [List.any_eq_true,Bool.and_eq_true,decide_eq_true_eq,ng]
 constructor
 ·rintro ⟨x, hx, h1, h2⟩; exact ⟨⟨by omega, by omega⟩, x, hx, by omega, by omega⟩
 ·rintro ⟨⟨h1, h2⟩, x, hx, h3, h4⟩; exact ⟨x, hx, by omega, by omega⟩
theorem gk {α : Type} {xs ys : List α} (hl : xs.length = ys.length) (h : ∀ j < xs.length, xs[j]? = ys[j]?) : xs = ys := by
 apply List.ext_getElem?
 intro j
 rcases Nat.lt_or_ge j xs.length with hj | hj
 ·exact h j hj
 ·rw [List.getElem?_eq_none hj, List.getElem?_eq_none (by omega)]
theorem kH (r : Rl) : ∃ r_, (fun w => w = aI r.key) r_ ∧ aP Tryz.prog 47 [ag r] r_ := by
 refine dI tt_ok [] 8 [.cell 2 54] (fn := Tryz.f47) Tryz.func47 rfl Tryz.call47 ⟨rfl, rfl, by simp⟩ fun K hK => ?_
 simp only [ag,ab]
 simp only [go_sem,reduceIte,zA,zB,zC,zD,zE,zF,reduceCtorEq]
 exact hK _ rfl
theorem Ey (v : dr) : ∃ r_, (fun w => w = .bT [num v.pl, num (if v.ok = true then 0 else 2)]) r_ ∧ aP Tryz.prog 25 [bh v] r_ := by
 refine dI tt_ok [] 13 [.tmp 2, .tmp 3] (fn := Tryz.f25) Tryz.func25 rfl Tryz.call25 ⟨rfl, rfl, by simp⟩ fun K hK => ?_
 simp only [bh]
 simp only [go_sem,reduceIte,zA,zB,zC,zD,zE,zF,reduceCtorEq]
 refine cF (by have h := yW v; simp only [bh] at h; exact h) ?_
 rintro _ rfl
 simp only [go_sem,reduceIte,zA,zB,zC,zD,zE,zF,reduceCtorEq]
 refine aL (fun Hm => ?_) (fun Hm => ?_)
 ·have ho : v.ok = false := by simpa using Hm
  have hp : v.pl = 0 := by unfold dr.pl; rw [ho]; rfl
  simp only [go_sem,reduceIte,zA,zB,zC,zD,zE,zF,reduceCtorEq]
  refine hK _ ?_
  rw [hp, ho]
  rfl
 ·have ho : v.ok = true := by simpa using Hm
  have hp : v.pl = v.place := if_pos ho
  obtain ⟨w1, w2, -, -⟩ := iI ho
  simp only [w1,w2,go_sem,reduceIte,zA,zB,zC,zD,zE,zF,reduceCtorEq]
  refine hK _ ?_
  rw [hp, ho]
  rfl
theorem iJ (r : Rl) : ∃ r_, (fun w => w = num (r.aC.pl)) r_ ∧ aP Tryz.prog 48 [ag r] r_ := by
 refine dI tt_ok [] 12 [.tmp 2] (fn := Tryz.f48) Tryz.func48 rfl Tryz.call48 ⟨rfl, rfl, by simp⟩ fun K hK => ?_
 simp only [ag,ab]
 simp only [go_sem,reduceIte,zA,zB,zC,zD,zE,zF,reduceCtorEq]
 refine cF (by have h := Ey r.aC; simp only [bh] at h; exact h) ?_
 rintro _ rfl
 simp only [go_sem,reduceIte,zA,zB,zC,zD,zE,zF,reduceCtorEq]
 exact hK _ rfl
theorem Ky (p : Int) (x : bG) : ∃ r_, (fun w => w = bl (ng p x)) r_ ∧ aU Tryz.prog 81 [aj x, .ptr 0 0] ([.box [num p]]) r_ ([.box [num p]]) := by
 refine FG tt_ok [] 14 [.tmp 3] (fn := Tryz.f81) Tryz.func81 rfl Tryz.call81 ⟨rfl, rfl, by simp⟩ fun K hK => ?_
 simp only [aj]
 simp only [go_sem,reduceIte,zA,zB,zC,zD,zE,zF,reduceCtorEq]
 refine aL (fun SX => ?_) (fun SX => ?_)
 ·simp only [go_sem,reduceIte,zA,zB,zC,zD,zE,zF,reduceCtorEq]
  refine hK _ _ ⟨congrArg bl ?_, rfl⟩
  unfold ng; simp_all <;> (intros; omega)
 ·simp only [go_sem,reduceIte,zA,zB,zC,zD,zE,zF,reduceCtorEq]
  refine hK _ _ ⟨congrArg bl ?_, rfl⟩
  unfold ng; simp_all <;> (intros; omega)
theorem Ez (p : Int) (s : List bG) (hl : s.length ≤ 1048576) : ∃ r_, (fun w => ∃ k : Int, w = num k ∧ decide (0 ≤ k) = s.any (ng p)) r_ ∧ aU Tryz.prog 115 [ak s, .fS (.func 81) [] [.ptr 0 0]] ([.box [num p]]) r_ ([.box [num p]]) := by
 refine FG tt_ok [] 19 [.tmp 4] (fn := Tryz.f115) Tryz.func115 rfl Tryz.call115 ⟨rfl, rfl, by simp⟩ fun K hK => ?_
 simp only [ak]
 simp only [List.length_map,go_sem,reduceIte,zA,zB,zC,zD,zE,zF,reduceCtorEq]
 refine bA tt_ok [] [8] 1 [0,1,7] (fun vs => ((s.length : Int) - Go.Eng.intOf (vs.headD .undef)).toNat) (fun vs => ∃ i : Nat, vs = [num i] ∧ i ≤ s.length ∧ ∀ j < i, ∀ x, s[j]? = some x → ng p x = false) (by omega) (by simp only [List.length_map,go_sem,reduceIte,zA,zB,zC,zD,zE,zF,reduceCtorEq]) (⟨0, rfl, Nat.zero_le _, fun j hj => absurd hj (Nat.not_lt_zero j)⟩) fun vs hI Z1 bP => ?_
 obtain ⟨i, rfl, hi, aS⟩ := hI
 simp only [List.length_map,go_sem,reduceIte,zA,zB,zC,zD,zE,zF,reduceCtorEq]
 refine aL (fun gi => ?_) (fun gi => ?_)
 ·have aB : i < s.length := by simpa using gi
  have hw := ax i (by omega)
  obtain ⟨x, hx⟩ : ∃ x, s[i]? = some x := ⟨_, List.getElem?_eq_getElem aB⟩
  simp only [hw,List.getElem?_map,hx,aj,List.length_map,go_sem,reduceIte,zA,zB,zC,zD,zE,zF,reduceCtorEq]
  refine cS (by have h := Ky p x; simp only [aj] at h; exact h) ?_
  rintro _ rfl
  simp only [hw,List.getElem?_map,hx,aj,List.length_map,go_sem,reduceIte,zA,zB,zC,zD,zE,zF,reduceCtorEq]
  refine aL (fun kF => ?_) (fun kF => ?_)
  ·have aw : decide (0 ≤ (i : Int)) = s.any (ng p) := by rw [wN hx kF]; exact decide_eq_true (Int.natCast_nonneg i)
   simp only [hw,List.getElem?_map,hx,aj,List.length_map,go_sem,reduceIte,zA,zB,zC,zD,zE,zF,reduceCtorEq]
   exact hK _ _ ⟨⟨_, rfl, aw⟩, rfl⟩
  ·simp only [hw,List.getElem?_map,hx,aj,List.length_map,go_sem,reduceIte,zA,zB,zC,zD,zE,zF,reduceCtorEq]
   refine bP _ (cA (by omega) (by simp only [hw,List.getElem?_map,hx,aj,List.length_map,go_sem,reduceIte,zA,zB,zC,zD,zE,zF,reduceCtorEq]) ?_ ?_) <;> simp only [fa,lk,reduceIte,zE]
   ·refine ⟨i + 1, rfl, aB, fun j hj => ?_⟩
    rcases Nat.lt_or_ge j i with h | h
    ·exact aS j h
    ·obtain rfl : j = i := by omega
     intro y hy
     rw [hx] at hy; cases hy; exact kF
   ·simp only [Go.Eng.intOf,List.headD_cons]; omega
 ·have cB : ¬ i < s.length := by simpa using gi
  have aw : decide (0 ≤ (-1 : Int)) = s.any (ng p) := (any_none fun j hj => aS j (by omega)).symm ▸ rfl
  simp only [List.length_map,go_sem,reduceIte,zA,zB,zC,zD,zE,zF,reduceCtorEq]
  exact hK _ _ ⟨⟨_, rfl, aw⟩, rfl⟩
theorem EA (p : Int) (s : List bG) (hl : s.length ≤ 1048576) : ∃ r_, (fun w => w = bl (s.any (ng p))) r_ ∧ aU Tryz.prog 80 [ak s, .fS (.func 81) [] [.ptr 0 0]] ([.box [num p]]) r_ ([.box [num p]]) := by
 refine FG tt_ok [] 9 [.tmp 4] (fn := Tryz.f80) Tryz.func80 rfl Tryz.call80 ⟨rfl, rfl, by simp⟩ fun K hK => ?_
 simp only [ak]
 simp only [go_sem,reduceIte,zA,zB,zC,zD,zE,zF,reduceCtorEq]
 refine cS (by have h := Ez p s hl; simp only [ak] at h; exact h) ?_
 rintro _ ⟨k, rfl, hk⟩
 simp only [go_sem,reduceIte,zA,zB,zC,zD,zE,zF,reduceCtorEq]
 exact hK _ _ ⟨congrArg bl hk, rfl⟩
theorem Bl (s : List bG) (p : Int) (hl : s.length ≤ 1048576) : ∃ r_, (fun w => w = bl (has s p)) r_ ∧ aP Tryz.prog 28 [ak s, num p] r_ := by
 refine dI tt_ok [] 16 [.tmp 4] (fn := Tryz.f28) Tryz.func28 rfl Tryz.call28 ⟨rfl, rfl, by simp⟩ fun K hK => ?_
 simp only [ak]
 simp only [go_sem,reduceIte,zA,zB,zC,zD,zE,zF,reduceCtorEq]
 refine aL (fun ed => ?_) (fun ed => ?_)
 ·simp only [go_sem,reduceIte,zA,zB,zC,zD,zE,zF,reduceCtorEq]
  refine aL (fun yV => ?_) (fun yV => ?_)
  ·simp only [go_sem,reduceIte,zA,zB,zC,zD,zE,zF,reduceCtorEq]
   refine cS (by have h := EA p s hl; simp only [ak] at h; exact h) ?_
   rintro _ rfl
   simp only [go_sem,reduceIte,zA,zB,zC,zD,zE,zF,reduceCtorEq]
   refine hK _ (congrArg bl ?_)
   rw [has_eq]; simp_all <;> (intros; omega)
  ·simp only [go_sem,reduceIte,zA,zB,zC,zD,zE,zF,reduceCtorEq]
   refine hK _ (congrArg bl ?_)
   rw [has_eq]; simp_all <;> (intros; omega)
 ·simp only [go_sem,reduceIte,zA,zB,zC,zD,zE,zF,reduceCtorEq]
  refine hK _ (congrArg bl ?_)
  rw [has_eq]; simp_all <;> (intros; omega)
theorem s8 (n : Int) : ∃ r_, (fun w => w = bl (gj n)) r_ ∧ aP Tryz.prog 121 [num n] r_ := by
 refine dI tt_ok [] 9 [.tmp 2] (fn := Tryz.f121) Tryz.func121 rfl Tryz.call121 ⟨rfl, rfl, by simp⟩ fun K hK => ?_
 simp only [go_sem,reduceIte,zA,zB,zC,zD,zE,zF,reduceCtorEq]
 refine aL (fun ed => ?_) (fun ed => ?_)
 ·simp only [go_sem,reduceIte,zA,zB,zC,zD,zE,zF,reduceCtorEq]
  exact hK _ (congrArg bl (by unfold gj; simp_all <;> (intros; omega)))
 ·simp only [go_sem,reduceIte,zA,zB,zC,zD,zE,zF,reduceCtorEq]
  exact hK _ (congrArg bl (by unfold gj; simp_all <;> (intros; omega)))
theorem EB (v : dr) : ∃ r_, (fun w => w = bl (v.ok)) r_ ∧ aP Tryz.prog 94 [bh v] r_ := by
 refine dI tt_ok [] 16 [.tmp 2] (fn := Tryz.f94) Tryz.func94 rfl Tryz.call94 ⟨rfl, rfl, by simp⟩ fun K hK => ?_
 simp only [bh]
 simp only [go_sem,reduceIte,zA,zB,zC,zD,zE,zF,reduceCtorEq]
 refine cF (s8 _) ?_
 rintro _ rfl
 simp only [go_sem,reduceIte,zA,zB,zC,zD,zE,zF,reduceCtorEq]
 refine aL (fun kZ => ?_) (fun kZ => ?_)
 ·simp only [go_sem,reduceIte,zA,zB,zC,zD,zE,zF,reduceCtorEq]
  refine cF (s8 _) ?_
  rintro _ rfl
  simp only [go_sem,reduceIte,zA,zB,zC,zD,zE,zF,reduceCtorEq]
  refine aL (fun vb => ?_) (fun vb => ?_)
  ·simp only [go_sem,reduceIte,zA,zB,zC,zD,zE,zF,reduceCtorEq]
   refine cF (s8 _) ?_
   rintro _ rfl
   simp only [go_sem,reduceIte,zA,zB,zC,zD,zE,zF,reduceCtorEq]
   exact hK _ (congrArg bl (by unfold dr.ok; simp_all))
  ·simp only [go_sem,reduceIte,zA,zB,zC,zD,zE,zF,reduceCtorEq]
   exact hK _ (congrArg bl (by unfold dr.ok; simp_all))
 ·simp only [go_sem,reduceIte,zA,zB,zC,zD,zE,zF,reduceCtorEq]
  exact hK _ (congrArg bl (by unfold dr.ok; simp_all))
theorem C0 (s : List bG) (p : Int) (hl : s.length ≤ 1048576) : ∃ r_, (fun w => w = bl (has s p)) r_ ∧ aP Tryz.prog 92 [ak s, num p] r_ := by
 refine dI tt_ok [] 30 [.tmp 4] (fn := Tryz.f92) Tryz.func92 rfl Tryz.call92 ⟨rfl, rfl, by simp⟩ fun K hK => ?_
 simp only [ak]
 simp only [List.length_map,go_sem,reduceIte,zA,zB,zC,zD,zE,zF,reduceCtorEq]
 refine bA tt_ok [] [5] 0 [0,1] (fun vs => ((s.length : Int) - Go.Eng.intOf (vs.headD .undef)).toNat) (fun vs => ∃ i : Nat, vs = [num i] ∧ i ≤ s.length ∧ ∀ j < i, ∀ x, s[j]? = some x → (decide (max 0 x.lo ≤ p) && decide (p < min 1000000 x.hi)) = false) (by omega) (by simp only [List.length_map,go_sem,reduceIte,zA,zB,zC,zD,zE,zF,reduceCtorEq]) (⟨0, rfl, Nat.zero_le _, fun j hj => absurd hj (Nat.not_lt_zero j)⟩) fun vs hI Z1 bP => ?_
 obtain ⟨i, rfl, hi, aS⟩ := hI
 simp only [List.length_map,go_sem,reduceIte,zA,zB,zC,zD,zE,zF,reduceCtorEq]
 refine aL (fun gi => ?_) (fun gi => ?_)
 ·have aB : i < s.length := by simpa using gi
  have hw := ax i (by omega)
  obtain ⟨x, hx⟩ : ∃ x, s[i]? = some x := ⟨_, List.getElem?_eq_getElem aB⟩
  simp only [hw,List.getElem?_map,hx,aj,List.length_map,go_sem,reduceIte,zA,zB,zC,zD,zE,zF,reduceCtorEq]
  refine aL (fun Hn => ?_) (fun Hn => ?_)
  ·simp only [hw,List.getElem?_map,hx,aj,List.length_map,go_sem,reduceIte,zA,zB,zC,zD,zE,zF,reduceCtorEq]
   refine aL (fun uw => ?_) (fun uw => ?_)
   ·have aw : true = has s p := by rw [← CZ]; exact (wN hx (by simp_all <;> omega)).symm
    simp only [hw,List.getElem?_map,hx,aj,List.length_map,go_sem,reduceIte,zA,zB,zC,zD,zE,zF,reduceCtorEq]
    exact hK _ (congrArg bl aw)
   ·simp only [hw,List.getElem?_map,hx,aj,List.length_map,go_sem,reduceIte,zA,zB,zC,zD,zE,zF,reduceCtorEq]
    refine bP _ (cA (by omega) (by simp only [hw,List.getElem?_map,hx,aj,List.length_map,go_sem,reduceIte,zA,zB,zC,zD,zE,zF,reduceCtorEq]) ?_ ?_) <;> simp only [fa,lk,reduceIte,zE]
    ·refine ⟨i + 1, rfl, aB, fun j hj => ?_⟩
     rcases Nat.lt_or_ge j i with h | h
     ·exact aS j h
     ·obtain rfl : j = i := by omega
      intro y hy
      rw [hx] at hy; cases hy; simp_all <;> omega
    ·simp only [Go.Eng.intOf,List.headD_cons]; omega
  ·simp only [hw,List.getElem?_map,hx,aj,List.length_map,go_sem,reduceIte,zA,zB,zC,zD,zE,zF,reduceCtorEq]
   refine bP _ (cA (by omega) (by simp only [hw,List.getElem?_map,hx,aj,List.length_map,go_sem,reduceIte,zA,zB,zC,zD,zE,zF,reduceCtorEq]) ?_ ?_) <;> simp only [fa,lk,reduceIte,zE]
   ·refine ⟨i + 1, rfl, aB, fun j hj => ?_⟩
    rcases Nat.lt_or_ge j i with h | h
    ·exact aS j h
    ·obtain rfl : j = i := by omega
     intro y hy
     rw [hx] at hy; cases hy; simp_all <;> omega
   ·simp only [Go.Eng.intOf,List.headD_cons]; omega
 ·have cB : ¬ i < s.length := by simpa using gi
  have aw : false = has s p := by rw [← CZ]; exact (any_none fun j hj => aS j (by omega)).symm
  simp only [List.length_map,go_sem,reduceIte,zA,zB,zC,zD,zE,zF,reduceCtorEq]
  exact hK _ (congrArg bl aw)
theorem wO (s t : List bG) (hl : s.length ≤ 1048576) : ∃ r_, (fun w => w = bl (decide (s = t))) r_ ∧ aP Tryz.prog 42 [ak s, ak t] r_ := by
 refine dI tt_ok [] 26 [.tmp 4] (fn := Tryz.f42) Tryz.func42 rfl Tryz.call42 ⟨rfl, rfl, by simp⟩ fun K hK => ?_
 simp only [ak]
 simp only [List.length_map,bK,go_sem,reduceIte,zA,zB,zC,zD,zE,zF,reduceCtorEq]
 refine aL (fun cE => ?_) (fun cE => ?_)
 ·have aw : false = decide (s = t) := by
   refine (decide_eq_false fun e => ?_).symm
   subst e; simp at cE
  simp only [List.length_map,bK,go_sem,reduceIte,zA,zB,zC,zD,zE,zF,reduceCtorEq]
  exact hK _ (congrArg bl aw)
 ·have gG : s.length = t.length := by have := cE; simp at this; omega
  simp only [List.length_map,bK,go_sem,reduceIte,zA,zB,zC,zD,zE,zF,reduceCtorEq]
  refine bA tt_ok [] [5] 0 [0,1,10] (fun vs => ((s.length : Int) - Go.Eng.intOf (vs.headD .undef)).toNat) (fun vs => ∃ i : Nat, vs = [num i] ∧ i ≤ s.length ∧ ∀ j < i, s[j]? = t[j]?) (by omega) (by simp only [List.length_map,bK,go_sem,reduceIte,zA,zB,zC,zD,zE,zF,reduceCtorEq]) (⟨0, rfl, Nat.zero_le _, fun j hj => absurd hj (Nat.not_lt_zero j)⟩) fun vs hI Z1 bP => ?_
  obtain ⟨i, rfl, hi, aS⟩ := hI
  simp only [List.length_map,bK,go_sem,reduceIte,zA,zB,zC,zD,zE,zF,reduceCtorEq]
  refine aL (fun cq => ?_) (fun cq => ?_)
  ·have aB : i < s.length := by simpa using cq
   have hw := ax i (by omega)
   obtain ⟨x, hx⟩ : ∃ x, s[i]? = some x := ⟨_, List.getElem?_eq_getElem aB⟩
   obtain ⟨y, hy⟩ : ∃ y, t[i]? = some y := ⟨_, List.getElem?_eq_getElem (by omega)⟩
   simp only [hw,List.getElem?_map,hx,hy,aj,List.length_map,bK,go_sem,reduceIte,zA,zB,zC,zD,zE,zF,reduceCtorEq]
   refine bu tt_ok aD [⟨.n, 0, [], [], []⟩, ⟨.n, 0, [], [], []⟩, ⟨.r, 0, [], [], []⟩, ⟨.r, 0, [], [], []⟩, ⟨.n, 0, [], [], []⟩, ⟨.n, 0, [], [], []⟩, ⟨.r, 0, [], [], []⟩, ⟨.r, 0, [], [], []⟩, ⟨.n, 0, [], [], []⟩] 0 (by kernel_rfl) ?_
   simp only [hw,List.getElem?_map,hx,hy,aj,List.length_map,bK,go_sem,reduceIte,zA,zB,zC,zD,zE,zF,reduceCtorEq]
   refine aL (fun fu => ?_) (fun fu => ?_)
   ·have aw : false = decide (s = t) := by
     refine (decide_eq_false fun e => ?_).symm
     subst e; rw [hx] at hy; cases hy; simp at fu
    simp only [hw,List.getElem?_map,hx,hy,aj,List.length_map,bK,go_sem,reduceIte,zA,zB,zC,zD,zE,zF,reduceCtorEq]
    exact hK _ (congrArg bl aw)
   ·simp only [hw,List.getElem?_map,hx,hy,aj,List.length_map,bK,go_sem,reduceIte,zA,zB,zC,zD,zE,zF,reduceCtorEq]
    refine bP _ (cA (by omega) (by simp only [hw,List.getElem?_map,hx,hy,aj,List.length_map,bK,go_sem,reduceIte,zA,zB,zC,zD,zE,zF,reduceCtorEq]) ?_ ?_) <;> simp only [fa,lk,reduceIte,zE]
    ·refine ⟨i + 1, rfl, aB, fun j hj => ?_⟩
     rcases Nat.lt_or_ge j i with h | h
     ·exact aS j h
     ·obtain rfl : j = i := by omega
      rw [hx, hy]
      have := fu
      simp_all
    ·simp only [Go.Eng.intOf,List.headD_cons]; omega
  ·have cB : ¬ i < s.length := by simpa using cq
   have aw : true = decide (s = t) := (decide_eq_true (gk gG fun j hj => aS j (by omega))).symm
   simp only [List.length_map,bK,go_sem,reduceIte,zA,zB,zC,zD,zE,zF,reduceCtorEq]
   exact hK _ (congrArg bl aw)
theorem yX (s t : List bG) (hl : s.length ≤ 1048576) : ∃ r_, (fun w => w = bl (decide (s = t))) r_ ∧ aP Tryz.prog 157 [ak s, ak t] r_ := by
 refine dI tt_ok [] 26 [.tmp 4] (fn := Tryz.f157) Tryz.func157 rfl Tryz.call157 ⟨rfl, rfl, by simp⟩ fun K hK => ?_
 simp only [ak]
 simp only [List.length_map,bK,go_sem,reduceIte,zA,zB,zC,zD,zE,zF,reduceCtorEq]
 refine aL (fun cE => ?_) (fun cE => ?_)
 ·have aw : false = decide (s = t) := by
   refine (decide_eq_false fun e => ?_).symm
   subst e; simp at cE
  simp only [List.length_map,bK,go_sem,reduceIte,zA,zB,zC,zD,zE,zF,reduceCtorEq]
  exact hK _ (congrArg bl aw)
 ·have gG : s.length = t.length := by have := cE; simp at this; omega
  simp only [List.length_map,bK,go_sem,reduceIte,zA,zB,zC,zD,zE,zF,reduceCtorEq]
  refine bA tt_ok [] [13] 0 [0,1,10,12] (fun vs => ((s.length : Int) - Go.Eng.intOf (vs.headD .undef)).toNat) (fun vs => ∃ i : Nat, vs = [num i] ∧ i ≤ s.length ∧ ∀ j < i, s[j]? = t[j]?) (by omega) (by simp only [List.length_map,bK,go_sem,reduceIte,zA,zB,zC,zD,zE,zF,reduceCtorEq]) (⟨0, rfl, Nat.zero_le _, fun j hj => absurd hj (Nat.not_lt_zero j)⟩) fun vs hI Z1 bP => ?_
  obtain ⟨i, rfl, hi, aS⟩ := hI
  simp only [List.length_map,bK,go_sem,reduceIte,zA,zB,zC,zD,zE,zF,reduceCtorEq]
  refine aL (fun cq => ?_) (fun cq => ?_)
  ·have aB : i < s.length := by simpa using cq
   have hw := ax i (by omega)
   obtain ⟨x, hx⟩ : ∃ x, s[i]? = some x := ⟨_, List.getElem?_eq_getElem aB⟩
   obtain ⟨y, hy⟩ : ∃ y, t[i]? = some y := ⟨_, List.getElem?_eq_getElem (by omega)⟩
   simp only [hw,List.getElem?_map,hx,hy,aj,List.length_map,bK,go_sem,reduceIte,zA,zB,zC,zD,zE,zF,reduceCtorEq]
   refine bu tt_ok aD [⟨.n, 0, [], [], []⟩, ⟨.n, 0, [], [], []⟩, ⟨.r, 0, [], [], []⟩, ⟨.r, 0, [], [], []⟩, ⟨.n, 0, [], [], []⟩, ⟨.n, 0, [], [], []⟩, ⟨.r, 0, [], [], []⟩, ⟨.r, 0, [], [], []⟩, ⟨.n, 0, [], [], []⟩] 0 (by kernel_rfl) ?_
   simp only [hw,List.getElem?_map,hx,hy,aj,List.length_map,bK,go_sem,reduceIte,zA,zB,zC,zD,zE,zF,reduceCtorEq]
   refine aL (fun iQ => ?_) (fun iQ => ?_)
   ·have aw : false = decide (s = t) := by
     refine (decide_eq_false fun e => ?_).symm
     subst e; rw [hx] at hy; cases hy; simp at iQ
    simp only [hw,List.getElem?_map,hx,hy,aj,List.length_map,bK,go_sem,reduceIte,zA,zB,zC,zD,zE,zF,reduceCtorEq]
    exact hK _ (congrArg bl aw)
   ·simp only [hw,List.getElem?_map,hx,hy,aj,List.length_map,bK,go_sem,reduceIte,zA,zB,zC,zD,zE,zF,reduceCtorEq]
    refine bP _ (cA (by omega) (by simp only [hw,List.getElem?_map,hx,hy,aj,List.length_map,bK,go_sem,reduceIte,zA,zB,zC,zD,zE,zF,reduceCtorEq]) ?_ ?_) <;> simp only [fa,lk,reduceIte,zE]
    ·refine ⟨i + 1, rfl, aB, fun j hj => ?_⟩
     rcases Nat.lt_or_ge j i with h | h
     ·exact aS j h
     ·obtain rfl : j = i := by omega
      rw [hx, hy]
      have := iQ
      simp_all
    ·simp only [Go.Eng.intOf,List.headD_cons]; omega
  ·have cB : ¬ i < s.length := by simpa using cq
   have aw : true = decide (s = t) := (decide_eq_true (gk gG fun j hj => aS j (by omega))).symm
   simp only [List.length_map,bK,go_sem,reduceIte,zA,zB,zC,zD,zE,zF,reduceCtorEq]
   exact hK _ (congrArg bl aw)
end Go.Proofs.YtnfeacnbgbggfaaGreatDoor
end
