/-
  READINGS: what the reading of an argument (DataW.trod) says of its cells, for types made of truth values, integers, strings, slices, structures.
  READINGS, B: the abstract values that a reading gives.
  PLAIN LAWS of chapter 32: sets of places, releases, what roots reach, canonical bytes. No program in sight.
  ENCODINGS of chapter 32's data.
  CONTRACTS: bytes of names, exactly.
  CONTRACTS: versions, places.
  CONTRACTS: comparing.
  EQUALITY of structs of chapter 32: spans, numbers, what is selected.
  CONTRACTS: releases: keys, places; sets of places.
-/
import Derived.Test.YtnfeacnbgbggfaaGreatDoorZ1
import Derived.Test.YtnfeacnbgbggfaaGreatDoorRows
import Derived.Sort.Walk0
set_option linter.all false
section
namespace Go.Proofs.YtnfeacnbgbggfaaGreatDoor
open Go.Eng
variable [aH]
section
variable {H : Type} {enc : TypeId × Value → H} {P : Program} {w : World} {sp : Nat → Bool} {held : Bool} {f : Nat} {T : TypeId} {cs : List Value} {d : DataW H} {p : List MemPlace}
theorem trod_bool (hT : P.underlying T = some .bool) (h : DataW.trod enc P w 0 sp held (f + 1) T cs = some (d, p)) : ∃ b, cs = [.bool b] ∧ d = .lit (.bool b) := by
 unfold DataW.trod at h
 rw [hT] at h
 split at h <;> simp_all
theorem trod_int {k : IntKind} (hT : P.underlying T = some (.int k)) (h : DataW.trod enc P w 0 sp held (f + 1) T cs = some (d, p)) : ∃ n, cs = [.int k n] ∧ d = .lit (.int k n) := by
 unfold DataW.trod at h
 rw [hT] at h
 split at h <;> simp_all
theorem trod_string (hT : P.underlying T = some .string) (h : DataW.trod enc P w 0 sp held (f + 1) T cs = some (d, p)) : ∃ s, cs = [.string s] ∧ d = .lit (.string s.data.toList) := by
 unfold DataW.trod at h
 rw [hT] at h
 split at h <;> simp_all
theorem pb {α β : Type} {g : α → Option β} : ∀ {l : List α} {r : List β}, l.mapM g = some r → r.length = l.length ∧ ∀ (i : Nat) (b : β), r[i]? = some b → ∃ a : α, l[i]? = some a ∧ g a = some b
 | [], r, h => by simp at h; subst h; simp
 | a :: l, r, h => by
  rw [List.mapM_cons] at h
  cases h1 : g a with
  | none => rw [h1] at h; simp at h
  | some b =>
   rw [h1] at h
   cases h2 : l.mapM g with
   | none => rw [h2] at h; simp at h
   | some r' =>
    rw [h2] at h
    simp at h
    subst h
    obtain ⟨e1, e2⟩ := pb h2
    refine ⟨by simp [e1], fun i b' hb => ?_⟩
    cases i with
    | zero => simp at hb; subst hb; exact ⟨a, rfl, h1⟩
    | succ i => simpa using e2 i b' (by simpa using hb)
theorem trod_slice {T' : TypeId} (hT : P.underlying T = some (.slice T')) (h : DataW.trod enc P w 0 sp held (f + 1) T cs = some (d, p)) :
  (cs = [.slice none 0 0] ∧ d = .nil) ∨ ∃ (a : Addr) (cap : Nat) (elems spare : List (DataW H)), cs = [.slice (some a) elems.length cap] ∧ d = .slice elems spare ∧ elems.length ≤ cap ∧
   ∀ (i : Nat) (e : DataW H), elems[i]? = some e → ∃ np p', w.cells? 0 (a.add (i * P.cellsOf T')) (P.cellsOf T') = some np ∧ DataW.trod enc P w 0 sp held f T' np = some (e, p') := by
 unfold DataW.trod at h
 rw [hT] at h
 split at h <;> try (simp at *; done)
 ·rename_i e' h1 h2
  simp at h
  exact .inl ⟨rfl, h.1.symm⟩
 ·rename_i e' a len cap h1
  obtain rfl : T' = e' := by simpa using h1
  refine .inr ?_
  dsimp only at h
  split at h
  ·rename_i hb
   cases h3 : (List.range len).mapM (fun i => (w.cells? 0 (a.add (i * P.cellsOf T')) (P.cellsOf T')).bind (DataW.trod enc P w 0 sp held f T')) with
   | none => rw [h3] at h; simp at h
   | some elems =>
    rw [h3] at h
    obtain ⟨e1, e2⟩ := pb h3
    simp only [Option.bind_some,Option.map_eq_some_iff] at h
    obtain ⟨rest, -, h5⟩ := h
    simp only [Prod.mk.injEq] at h5
    have hl : elems.length = len := by simpa using e1
    refine ⟨a, cap, elems.map (·.1), rest.map (·.1), by rw [List.length_map, hl], h5.1.symm, by rw [List.length_map, hl]; exact hb.2.1, fun i e he => ?_⟩
    rw [List.getElem?_map, Option.map_eq_some_iff] at he
    obtain ⟨x, hx, rfl⟩ := he
    obtain ⟨j, hj, hg⟩ := e2 i x hx
    have pO : j = i := by
     obtain ⟨aD, hv⟩ := List.getElem?_eq_some_iff.1 hj
     simpa using hv.symm
    subst pO
    rw [Option.bind_eq_some_iff] at hg
    obtain ⟨np, hc, ht⟩ := hg
    exact ⟨np, x.2, hc, ht⟩
  ·simp at h
theorem trod_struct {fs : Array Field} (hT : P.underlying T = some (.struct fs)) (h : DataW.trod enc P w 0 sp held (f + 1) T cs = some (d, p)) :
  cs.length = P.cellsOf T ∧ ∃ parts : List (DataW H), d = .agg parts ∧ parts.length = fs.size ∧
   ∀ (i : Nat) (e : DataW H), parts[i]? = some e → ∃ (fd : Field) (p' : List MemPlace), fs[i]? = some fd ∧ DataW.trod enc P w 0 sp held f fd.type ((cs.drop fd.offset).take (P.cellsOf fd.type)) = some (e, p') := by
 unfold DataW.trod at h
 rw [hT] at h
 split at h <;> try (simp at *; done)
 ·rename_i X9 h1
  obtain rfl : fs = X9 := by simpa using h1
  split at h
  ·rename_i hl
   refine ⟨hl, ?_⟩
   rw [Option.map_eq_some_iff] at h
   obtain ⟨xs, h3, h4⟩ := h
   simp only [Prod.mk.injEq] at h4
   obtain ⟨e1, e2⟩ := pb h3
   refine ⟨xs.map (·.1), h4.1.symm, by rw [List.length_map, e1]; simp, fun i e he => ?_⟩
   rw [List.getElem?_map, Option.map_eq_some_iff] at he
   obtain ⟨x, hx, rfl⟩ := he
   obtain ⟨fd, hj, hg⟩ := e2 i x hx
   exact ⟨fd, x.2, by simpa using hj, hg⟩
  ·simp at h
end
end Go.Proofs.YtnfeacnbgbggfaaGreatDoor
end

section
namespace Go.Proofs.YtnfeacnbgbggfaaGreatDoor
open Go.Eng
variable [aH]
def Rd (F : Addr → Option Value) (hg : Gl F) (vs : List V) (cs : List Value) : Prop := aP ⟨F, fun _ _ => none, hg⟩ vs cs ∧ ∀ c ∈ cs, c.oneCell' = true
section
variable {F : Addr → Option Value} {hg : Gl F}
theorem BQ {v : Value} (h : v.oneCell' = true) : Rd F hg [.sc v] [v] := ⟨.cons (.sc _ _) (.nil _), by simpa using h⟩
theorem dQ {a b : List V} {cs : List Value} {off n : Nat} (h1 : Rd F hg a ((cs.drop off).take n)) (h2 : Rd F hg b (cs.drop (off + n))) : Rd F hg (a ++ b) (cs.drop off) := by
 have e : cs.drop off = (cs.drop off).take n ++ cs.drop (off + n) := by rw [← List.drop_drop, List.take_append_drop]
 rw [e]
 refine ⟨.append h1.1 h2.1, fun c hc => ?_⟩
 rcases List.mem_append.1 hc with hc | hc
 ·exact h1.2 c hc
 ·exact h2.2 c hc
theorem xh (a : Addr) (x y : Nat) : (a.add x).add y = a.add (x + y) := by
 unfold Addr.add
 by_cases hx : x = 0
 ·subst hx; simp
 ·by_cases hy : y = 0
  ·subst hy; simp
  ·simp [hx, hy, Nat.add_assoc]
theorem zm {α β : Type} {R : Nat → β → α → Prop} : ∀ {es : List β}, (∀ (i : Nat) (e : β), es[i]? = some e → ∃ a : α, R i e a) → ∃ l : List α, l.length = es.length ∧ ∀ (i : Nat) (e : β) (a : α), es[i]? = some e → l[i]? = some a → R i e a := by
 intro es
 induction es generalizing R with
 | nil => intro _; exact ⟨[], rfl, by simp⟩
 | cons e r ih =>
  intro h
  obtain ⟨a, ha⟩ := h 0 e rfl
  obtain ⟨l, hl, hr⟩ := ih (R := fun i => R (i + 1)) fun i e he => h (i + 1) e (by simpa using he)
  refine ⟨a :: l, by simp [hl], fun i e' a' he Se => ?_⟩
  cases i with
  | zero => simp at he Se; subst he; subst Se; exact ha
  | succ i => exact hr i e' a' (by simpa using he) (by simpa using Se)
theorem ri {H α : Type} {g : α → Nat} : ∀ {l : List α} {es : List (DataW H)}, l.length = es.length → (∀ (i : Nat) (e : DataW H) (a : α), es[i]? = some e → l[i]? = some a → g a ≤ Rows.uptoBulk e) → dr g l ≤ Rows.uptoBulkAll es
 | [], [], _, _ => by simp [dr]
 | a :: l, e :: es, hl, h => by
  have h1 := h 0 e a rfl rfl
  have h2 := ri (l := l) (es := es) (g := g) (by simpa using hl) fun i e a he ha => h (i + 1) e a (by simpa using he) (by simpa using ha)
  simp only [dr,Rows.uptoBulkAll]; omega
 | [], _ :: _, hl, _ => by simp at hl
 | _ :: _, [], hl, _ => by simp at hl
theorem HK {H : Type} {enc : TypeId × Value → H} {P : Program} {w : World} {sp : Nat → Bool} {held : Bool} {f : Nat} {T T' : TypeId} {α : Type} {row : α → V} {g : α → Nat} {n : Nat}
  (hF : F = w.cell?) (hT : P.underlying T = some (.slice T')) (hn : P.cellsOf T' = n)
  (hr : ∀ {cs : List Value} {d : DataW H} {p : List MemPlace}, DataW.trod enc P w 0 sp held f T' cs = some (d, p) → ∃ a : α, Rd F hg (row a).cells cs ∧ g a ≤ Rows.uptoBulk d)
  {cs : List Value} {d : DataW H} {p : List MemPlace} (h : DataW.trod enc P w 0 sp held (f + 1) T cs = some (d, p)) :
  ∃ l : List α, Rd F hg [.slice (l.map row)] cs ∧ dr g l + 1 ≤ Rows.uptoBulk d := by
 rcases trod_slice hT h with ⟨rfl, rfl⟩ | ⟨a, cap, elems, spare, rfl, rfl, hc, he⟩
 ·exact ⟨[], ⟨.cons (.slice _ [] none 0 0 default (fun _ _ => default) (by simp) (by simp) (by simp) (by simp) (by simp) (by simp)) (.nil _), by simp [Value.oneCell']⟩, by simp [dr, Rows.uptoBulk]⟩
 ·obtain ⟨l, hl, hR⟩ := zm (es := elems) (R := fun i e (x : α) => ∃ np : List Value, w.cells? 0 (a.add (i * P.cellsOf T')) (P.cellsOf T') = some np ∧ Rd F hg (row x).cells np ∧ g x ≤ Rows.uptoBulk e) fun i e hi => by
   obtain ⟨np, p', h1, h2⟩ := he i e hi
   obtain ⟨x, h3, h4⟩ := hr h2
   exact ⟨x, np, h1, h3, h4⟩
  rw [hn] at hR
  have key : ∀ (i : Nat) (x : α), l[i]? = some x → ∃ np : List Value, Rd F hg (row x).cells np ∧ (row x).cells.length = n ∧ ∀ (j : Nat) (c : Value), np[j]? = some c → F (a.add (i * n + j)) = some c := fun i x hx => by
   obtain ⟨e, ZX⟩ : ∃ e, elems[i]? = some e := ⟨_, List.getElem?_eq_getElem (by rw [← hl]; exact (List.getElem?_eq_some_iff.1 hx).1)⟩
   obtain ⟨np, h1, h2, -⟩ := hR i e x ZX hx
   unfold World.cells? at h1
   rw [if_pos (Nat.zero_le _)] at h1
   obtain ⟨e1, e2⟩ := pb h1
   refine ⟨np, h2, by rw [h2.1.1, e1]; simp, fun j c hj => ?_⟩
   obtain ⟨k, hk, JY⟩ := e2 j c hj
   have ZY : k = j := by
    obtain ⟨aD, hv⟩ := List.getElem?_eq_some_iff.1 hk
    simpa using hv.symm
   subst ZY
   rw [xh] at JY
   rw [hF]; exact JY
  have cell : ∀ (i : Nat) (r : V) (j : Nat) (c : V), (l.map row)[i]? = some r → r.cells[j]? = some c → ∃ x, F (a.add (i * n + j)) = some x ∧ x.oneCell' = true ∧ aW ⟨F, fun _ _ => none, hg⟩ c x := fun i r j c hi hj => by
   rw [List.getElem?_map, Option.map_eq_some_iff] at hi
   obtain ⟨x, hx, rfl⟩ := hi
   obtain ⟨np, h2, -, h3⟩ := key i x hx
   obtain ⟨y, hy, oD⟩ := h2.1.get hj
   exact ⟨y, h3 j y hy, h2.2 y (List.mem_of_getElem? hy), oD⟩
  refine ⟨l, ⟨.cons ?_ (.nil _), by simp [Value.oneCell']⟩, ?_⟩
  ·have := aW.slice ⟨F, fun _ _ => none, hg⟩ (l.map row) (some a) cap n a (fun i j => (F (a.add (i * n + j))).getD default) (fun _ => rfl) (by rw [List.length_map, hl]; exact hc)
    (fun i r hi => by
     rw [List.getElem?_map, Option.map_eq_some_iff] at hi
     obtain ⟨x, hx, rfl⟩ := hi
     obtain ⟨_, -, h, -⟩ := key i x hx
     exact h)
    (fun i r j c hi hj => by obtain ⟨x, h, -, -⟩ := cell i r j c hi hj; show F _ = some ((F _).getD _); rw [h]; rfl)
    (fun i r j c hi hj => by obtain ⟨x, h, h', -⟩ := cell i r j c hi hj; show Value.oneCell' ((F _).getD _) = true; rw [h]; exact h')
    (fun i r j c hi hj => by obtain ⟨x, h, -, h'⟩ := cell i r j c hi hj; show aW _ c ((F _).getD _); rw [h]; exact h')
   rwa [List.length_map, hl] at this
  ·have := ri (g := g) hl fun i e x he hx => by obtain ⟨_, -, -, h⟩ := hR i e x he hx; exact h
   simp only [Rows.uptoBulk]; omega
end
def BR {H : Type} (enc : TypeId × Value → H) (P : Program) (w : World) (sp : Nat → Bool) (held : Bool) (f : Nat) (cs : List Value) : List Field → (List (DataW H) → Prop) → Prop
 | [], K => K []
 | fd :: r, K => ∃ (e : DataW H) (p : List MemPlace), DataW.trod enc P w 0 sp held f fd.type ((cs.drop fd.offset).take (P.cellsOf fd.type)) = some (e, p) ∧ BR enc P w sp held f cs r fun es => K (e :: es)
theorem vE {H : Type} {enc : TypeId × Value → H} {P : Program} {w : World} {sp : Nat → Bool} {held : Bool} {f : Nat} {cs : List Value} : ∀ {fs : List Field} {K : List (DataW H) → Prop} {es : List (DataW H)}, es.length = fs.length →
  (∀ (i : Nat) (e : DataW H), es[i]? = some e → ∃ (fd : Field) (p' : List MemPlace), fs[i]? = some fd ∧ DataW.trod enc P w 0 sp held f fd.type ((cs.drop fd.offset).take (P.cellsOf fd.type)) = some (e, p')) → K es → BR enc P w sp held f cs fs K
 | [], K, [], _, _, hK => hK
 | fd :: r, K, e :: es, hl, h, hK => by
  obtain ⟨ZZ, p', h1, h2⟩ := h 0 e rfl
  obtain rfl : fd = ZZ := by simpa using h1
  exact ⟨e, p', h2, vE (es := es) (by simpa using hl) (fun i e he => by simpa using h (i + 1) e (by simpa using he)) hK⟩
 | [], _, _ :: _, hl, _, _ => by simp at hl
 | _ :: _, _, [], hl, _, _ => by simp at hl
theorem gp {H : Type} {enc : TypeId × Value → H} {P : Program} {w : World} {sp : Nat → Bool} {held : Bool} {f : Nat} {T : TypeId} {cs : List Value} {d : DataW H} {p : List MemPlace} {fs : Array Field}
  (hT : P.underlying T = some (.struct fs)) (h : DataW.trod enc P w 0 sp held (f + 1) T cs = some (d, p)) : cs.length = P.cellsOf T ∧ BR enc P w sp held f cs fs.toList fun es => d = .agg es := by
 obtain ⟨h1, parts, h2, h3, h4⟩ := trod_struct hT h
 exact ⟨h1, vE (by simpa using h3) (fun i e he => by simpa using h4 i e he) h2⟩
end Go.Proofs.YtnfeacnbgbggfaaGreatDoor
end

section
namespace Go.Proofs.YtnfeacnbgbggfaaGreatDoor
structure bB where
 lo : Int
 hi : Int
def mF (x : bB) : Option bB := if max x.lo 0 < min x.hi 1000000 then some ⟨max x.lo 0, min x.hi 1000000⟩ else none
def clip (s : List bB) : List bB := s.filterMap mF
def uR : List bB → bB → List bB
 | [], x => [x]
 | y :: r, x => if y.lo ≤ x.lo then y :: uR r x else x :: y :: r
def dm (out : List bB) (x : bB) : List bB := match out.getLast? with
 | some y => if x.lo ≤ y.hi then out.dropLast ++ [⟨y.lo, max y.hi x.hi⟩] else out ++ [x]
 | none => [x]
def merge (l : List bB) : List bB := l.foldl dm []
def canon (s : List bB) : List bB := merge ((clip s).foldl uR [])
def fY (l : List bB) : Prop := l.Pairwise fun a b => a.lo ≤ b.lo
theorem BS (out : List bB) (x y : bB) (h : x.lo = y.lo) (hx : x.lo ≤ x.hi) (hy : y.lo ≤ y.hi) : dm (dm out x) y = dm (dm out y) x := by
 unfold dm
 cases hl : out.getLast? with
 | none =>
  simp only [List.getLast?_singleton,List.dropLast_singleton,List.nil_append]
  rw [if_pos (by omega), if_pos (by omega)]
  simp only [h,Int.max_comm]
 | some z =>
  dsimp only
  by_cases hz : x.lo ≤ z.hi
  ·rw [if_pos hz, if_pos (by omega)]
   simp only [List.getLast?_append,List.getLast?_singleton,Option.some_or,List.dropLast_concat]
   rw [if_pos (by omega), if_pos (by omega)]
   simp only [Int.max_assoc,Int.max_comm x.hi]
  ·rw [if_neg hz, if_neg (by omega)]
   simp only [List.getLast?_append,List.getLast?_singleton,Option.some_or,List.dropLast_concat]
   rw [if_pos (by omega), if_pos (by omega)]
   simp only [h,Int.max_comm]
theorem rj (x : bB) : ∀ (p : List bB) (out : List bB), (∀ y ∈ p, y.lo = x.lo ∧ y.lo ≤ y.hi) → x.lo ≤ x.hi → (p ++ [x]).foldl dm out = (x :: p).foldl dm out
 | [], out, _, _ => rfl
 | y :: r, out, h, hx => by
  have h1 := h y (by simp)
  rw [List.cons_append, List.foldl_cons, rj x r _ (fun z hz => h z (by simp [hz])) hx]
  simp only [List.foldl_cons]
  rw [BS out y x h1.1 h1.2 hx]
theorem tm : ∀ (l m : List bB) (out : List bB), l.Perm m → fY l → fY m → (∀ x ∈ l, x.lo ≤ x.hi) → l.foldl dm out = m.foldl dm out
 | [], m, out, hp, _, _, _ => by rw [hp.nil_eq]
 | x :: t, m, out, hp, hl, hm, hw => by
  have uw : x ∈ m := hp.subset (by simp)
  obtain ⟨p, q, rfl⟩ := List.append_of_mem uw
  have Z0 : ∀ y ∈ p, y.lo = x.lo ∧ y.lo ≤ y.hi := fun y hy => by
   have N1 : y ∈ x :: t := hp.symm.subset (by simp [hy])
   have h1 : y.lo ≤ x.lo := (List.pairwise_append.1 hm).2.2 y hy x (by simp)
   have h2 : x.lo ≤ y.lo := by
    rcases List.mem_cons.1 N1 with rfl | h
    ·omega
    ·exact (List.pairwise_cons.1 hl).1 y h
   exact ⟨by omega, hw y N1⟩
  have hx := hw x (by simp)
  have e : (p ++ x :: q).foldl dm out = (x :: (p ++ q)).foldl dm out := by
   rw [show p ++ x :: q = (p ++ [x]) ++ q by simp, List.foldl_append, rj x p out Z0 hx, ← List.foldl_append]; rfl
  rw [e, List.foldl_cons, List.foldl_cons]
  refine tm t (p ++ q) _ ?_ (List.pairwise_cons.1 hl).2 ?_ fun y hy => hw y (by simp [hy])
  ·exact (List.perm_cons x).1 (hp.trans (by simpa using List.perm_middle))
  ·rw [fY, List.pairwise_append] at hm ⊢
   exact ⟨hm.1, (List.pairwise_cons.1 hm.2.1).2, fun a ha b hb => hm.2.2 a ha b (by simp [hb])⟩
theorem qi : ∀ (l : List bB) (x : bB), (uR l x).Perm (x :: l)
 | [], x => List.Perm.refl _
 | y :: r, x => by
  unfold uR
  split
  ·exact ((qi r x).cons y).trans (List.Perm.swap x y r)
  ·exact List.Perm.refl _
theorem zn : ∀ (l : List bB) (x : bB), fY l → fY (uR l x)
 | [], x, _ => List.pairwise_singleton _ _
 | y :: r, x, h => by
  have h1 := List.pairwise_cons.1 h
  unfold uR
  split
  ·rename_i hy
   refine List.pairwise_cons.2 ⟨fun z hz => ?_, zn r x h1.2⟩
   rcases List.mem_cons.1 ((qi r x).subset hz) with rfl | hz
   ·exact hy
   ·exact h1.1 z hz
  ·rename_i hy
   refine List.pairwise_cons.2 ⟨fun z hz => ?_, h⟩
   rcases List.mem_cons.1 hz with rfl | hz
   ·omega
   ·have := h1.1 z hz; omega
theorem kJ : ∀ (m l : List bB), fY l → fY (m.foldl uR l) ∧ (m.foldl uR l).Perm (l ++ m)
 | [], l, h => ⟨h, by simp⟩
 | x :: t, l, h => by
  obtain ⟨h1, h2⟩ := kJ t (uR l x) (zn l x h)
  refine ⟨h1, h2.trans ?_⟩
  exact ((qi l x).append_right t).trans (by simp [List.perm_middle.symm])
theorem xi {s : List bB} : ∀ x ∈ clip s, 0 ≤ x.lo ∧ x.lo < x.hi ∧ x.hi ≤ 1000000 := fun x hx => by
 obtain ⟨y, -, hy⟩ := List.mem_filterMap.1 hx
 unfold mF at hy
 split at hy
 ·cases hy; dsimp only; omega
 ·cases hy
theorem zo {s l : List bB} (hp : l.Perm (clip s)) (ha : fY l) : merge l = canon s := by
 obtain ⟨h1, h2⟩ := kJ (clip s) [] List.Pairwise.nil
 exact tm l _ [] (hp.trans (by simpa using h2.symm)) ha h1 fun x hx => by have := xi x (hp.subset hx); omega
structure da where
 mj : Int
 mn : Int
 pt : Int
structure Rq where
 path : ByteArray
 set : List bB
structure Rl where
 path : ByteArray
 aC : da
 reqs : List Rq
 ar : ByteArray
 gq : ByteArray
 ce : ByteArray
 yk : Bool
structure fP where
 path : ByteArray
 aC : da
theorem da.ext' {a b : da} (h1 : a.mj = b.mj) (h2 : a.mn = b.mn) (h3 : a.pt = b.pt) : a = b := by cases a; cases b; simp_all
theorem bB.ext' {a b : bB} (h1 : a.lo = b.lo) (h2 : a.hi = b.hi) : a = b := by cases a; cases b; simp_all
instance : DecidableEq bB := fun a b => if h : a.lo = b.lo ∧ a.hi = b.hi then .isTrue (bB.ext' h.1 h.2) else .isFalse fun e => h (by subst e; exact ⟨rfl, rfl⟩)
theorem fP.ext' {a b : fP} (h1 : a.path = b.path) (h2 : a.aC = b.aC) : a = b := by cases a; cases b; simp_all
instance : DecidableEq da := fun a b => if h : a.mj = b.mj ∧ a.mn = b.mn ∧ a.pt = b.pt then .isTrue (da.ext' h.1 h.2.1 h.2.2) else .isFalse fun e => h (by subst e; exact ⟨rfl, rfl, rfl⟩)
instance : DecidableEq fP := fun a b => if h : a.path = b.path ∧ a.aC = b.aC then .isTrue (fP.ext' h.1 h.2) else .isFalse fun e => h (by subst e; exact ⟨rfl, rfl⟩)
def Rl.key (r : Rl) : fP := ⟨r.path, r.aC⟩
def da.place (v : da) : Int := 1000 * v.mn + v.pt
def has (s : List bB) (p : Int) : Bool := decide (0 ≤ p) && decide (p < 1000000) && s.any fun x => decide (x.lo ≤ p) && decide (p < x.hi)
def jW (q : Rq) (r : Rl) : Bool := decide (q.path = r.path) && has q.set r.aC.place
inductive rk (l : List Rl) (roots : List Rq) : Rl → Prop
 | root (q : Rq) (r : Rl) (hq : q ∈ roots) (hr : r ∈ l) (h : jW q r = true) : rk l roots r
 | step (a : Rl) (q : Rq) (r : Rl) (ha : rk l roots a) (hq : q ∈ a.reqs) (hr : r ∈ l) (h : jW q r = true) : rk l roots r
theorem rk.mem {l : List Rl} {roots : List Rq} {r : Rl} (h : rk l roots r) : r ∈ l := by cases h <;> assumption
theorem rk.mono {l : List Rl} {roots more : List Rq} (hm : ∀ q ∈ roots, q ∈ more) {r : Rl} (h : rk l roots r) : rk l more r := by
 induction h with
 | root q r hq hr h => exact .root q r (hm q hq) hr h
 | step a q r _ hq hr h ih => exact .step a q r ih hq hr h
noncomputable def dn (l : List Rl) (roots : List Rq) : List Rl := l.filter fun r => @decide _ (Classical.propDecidable (rk l roots r))
theorem zp {l : List Rl} {roots : List Rq} {r : Rl} : r ∈ dn l roots ↔ rk l roots r := by
 unfold dn
 rw [List.mem_filter, @decide_eq_true_iff _ (Classical.propDecidable _)]
 exact ⟨fun h => h.2, fun h => ⟨h.mem, h⟩⟩
theorem KZ {l : List Rl} {roots : List Rq} (S : Rl → Prop) (h1 : ∀ r, S r → rk l roots r) (h2 : ∀ q ∈ roots, ∀ r ∈ l, jW q r = true → S r) (h3 : ∀ a, S a → ∀ q ∈ a.reqs, ∀ r ∈ l, jW q r = true → S r) (r : Rl) : S r ↔ rk l roots r := by
 refine ⟨h1 r, fun h => ?_⟩
 induction h with
 | root q r hq hr h => exact h2 q hq r hr h
 | step a q r _ hq hr h ih => exact h3 a ih q hq r hr h
inductive Pp (l : List Rl) (roots : List Rq) : ByteArray → Prop
 | root (q : Rq) (hq : q ∈ roots) : Pp l roots q.path
 | step (a : Rl) (q : Rq) (ha : a ∈ l) (hn : Pp l roots a.path) (hq : q ∈ a.reqs) : Pp l roots q.path
theorem mG {q : Rq} {r : Rl} (h : jW q r = true) : q.path = r.path := by
 unfold jW at h
 rw [Bool.and_eq_true] at h
 exact of_decide_eq_true h.1
theorem rk.sub {l m : List Rl} {roots : List Rq} (Yp : ∀ r ∈ l, r ∈ m) {r : Rl} (h : rk l roots r) : rk m roots r := by
 induction h with
 | root q r hq hr h => exact .root q r hq (Yp r hr) h
 | step a q r _ hq hr h ih => exact .step a q r ih hq (Yp r hr) h
def uv (n : Nat) : List UInt8 := if n < 128 then [UInt8.ofNat n] else UInt8.ofNat (n % 128 + 128) :: uv (n / 128)
termination_by n
decreasing_by omega
def dJ : List UInt8 → Nat → Nat → Option (Nat × Nat)
 | [], _, _ => none
 | b :: r, i, n => if 9 < i ∨ i = 9 ∧ 1 < b.toNat then none else
   if b.toNat < 128 then (if i = 0 ∨ 0 < b.toNat then some (n + b.toNat * 2 ^ (7 * i), i + 1) else none)
   else dJ r (i + 1) (n + (b.toNat - 128) * 2 ^ (7 * i))
theorem lU {n : Nat} (h : n < 128) : uv n = [UInt8.ofNat n] := by rw [uv, if_pos h]
theorem xj {n : Nat} (h : ¬ n < 128) : uv n = UInt8.ofNat (n % 128 + 128) :: uv (n / 128) := by rw [uv, if_neg h]
theorem jt {n : Nat} (h : n < 256) : (UInt8.ofNat n).toNat = n := by simp; omega
theorem K0 : ∀ (i n m : Nat) (rest : List UInt8), i ≤ 9 → n < 2 ^ (64 - 7 * i) → (i = 0 ∨ 0 < n) → dJ (uv n ++ rest) i m = some (m + n * 2 ^ (7 * i), i + (uv n).length) := by
 intro i n
 induction n using Nat.strongRecOn generalizing i with
 | _ n ih =>
  intro m rest hi hn h0
  have hb : i = 9 → n < 2 := fun h => by subst h; simpa using hn
  by_cases h : n < 128
  ·rw [lU h]
   show dJ (UInt8.ofNat n :: rest) i m = _
   rw [dJ, jt (by omega), if_neg (by omega), if_pos h, if_pos h0]
   rfl
  ·rw [xj h]
   have Ri : i ≠ 9 := fun e => by have := hb e; omega
   show dJ (UInt8.ofNat (n % 128 + 128) :: (uv (n / 128) ++ rest)) i m = _
   rw [dJ, jt (by omega), if_neg (by omega), if_neg (by omega)]
   have hp : 2 ^ (64 - 7 * i) = 128 * 2 ^ (64 - 7 * (i + 1)) := by
    rw [show (128 : Nat) = 2 ^ 7 from rfl, ← Nat.pow_add]
    congr 1; omega
   rw [ih (n / 128) (by omega) (i + 1) _ rest (by omega) (by rw [hp] at hn; exact Nat.div_lt_of_lt_mul hn) (.inr (by omega))]
   have e1 : 2 ^ (7 * (i + 1)) = 128 * 2 ^ (7 * i) := by rw [show (128 : Nat) = 2 ^ 7 from rfl, ← Nat.pow_add]; congr 1; omega
   have e2 : m + (n % 128 + 128 - 128) * 2 ^ (7 * i) + n / 128 * 2 ^ (7 * (i + 1)) = m + n * 2 ^ (7 * i) := by
    rw [e1, Nat.add_sub_cancel, Nat.add_assoc, ← Nat.mul_assoc, ← Nat.add_mul]
    congr 2; omega
   rw [e2, List.length_cons]
   congr 2; omega
theorem DD : ∀ (l : List UInt8) (i m n k : Nat), dJ l i m = some (n, k) → ∃ v, n = m + v * 2 ^ (7 * i) ∧ (i = 0 ∨ 0 < v) ∧ i + (uv v).length = k ∧ ∃ rest, l = uv v ++ rest ∧ v < 2 ^ (64 - 7 * i) ∧ k ≤ 10
 | [], i, m, n, k, h => by simp [dJ] at h
 | b :: r, i, m, n, k, h => by
  rw [dJ] at h
  split at h
  ·cases h
  rename_i h9
  split at h
  ·rename_i hb
   split at h
   ·rename_i h0
    simp only [Option.some.injEq,Prod.mk.injEq] at h
    obtain ⟨rfl, rfl⟩ := h
    have hu : uv b.toNat = [b] := by rw [lU hb]; simp
    refine ⟨b.toNat, rfl, h0, by rw [hu]; rfl, r, by rw [hu]; rfl, ?_, by omega⟩
    by_cases Z5 : i = 9
    ·subst Z5; simp; omega
    ·have : 2 ^ 7 ≤ 2 ^ (64 - 7 * i) := Nat.pow_le_pow_right (by omega) (by omega)
     omega
   ·cases h
  ·rename_i hb
   obtain ⟨v, hv, h0, hk, rest, hr, aD, WW⟩ := DD r (i + 1) _ n k h
   have Ga : 0 < v := by omega
   have OB : b.toNat < 256 := b.toNat_lt
   have Z6 : (b.toNat - 128 + 128 * v) % 128 = b.toNat - 128 := by omega
   have M3 : (b.toNat - 128 + 128 * v) / 128 = v := by omega
   have hu : uv (b.toNat - 128 + 128 * v) = b :: uv v := by
    rw [xj (by omega), Z6, M3, Nat.sub_add_cancel (by omega)]; simp
   have e1 : 2 ^ (7 * (i + 1)) = 128 * 2 ^ (7 * i) := by rw [show (128 : Nat) = 2 ^ 7 from rfl, ← Nat.pow_add]; congr 1; omega
   have iG : 0 < (uv v).length := by rw [uv]; split <;> simp
   refine ⟨b.toNat - 128 + 128 * v, ?_, .inr (by omega), by rw [hu, List.length_cons]; omega, rest, by rw [hu, hr]; rfl, ?_, WW⟩
   ·rw [hv, e1, Nat.add_mul, Nat.add_assoc, Nat.mul_comm 128 v, Nat.mul_assoc]
   ·have h8 : i ≤ 8 := by omega
    have hp : 2 ^ (64 - 7 * i) = 128 * 2 ^ (64 - 7 * (i + 1)) := by
     rw [show (128 : Nat) = 2 ^ 7 from rfl, ← Nat.pow_add]
     congr 1; omega
    rw [hp]; omega
def from_ (s : ByteArray) (at_ : Nat) : List UInt8 := s.data.toList.drop at_
theorem ju (s : ByteArray) (a : Nat) : (from_ s a).length = s.size - a := by unfold from_; rw [List.length_drop, Array.length_toList]; rfl
theorem vF (s : ByteArray) (a k : Nat) : (from_ s a).drop k = from_ s (a + k) := by unfold from_; rw [List.drop_drop]
def pc (s : ByteArray) (at_ : Nat) : Option (Nat × Nat) := match dJ (from_ s at_) 0 0 with
 | some (n, k) => if n < 9223372036854775808 then some (n, at_ + k) else none
 | none => none
def BT (s : ByteArray) (at_ : Nat) : Option (ByteArray × Nat) := match pc s at_ with
 | some (n, j) => if n ≤ s.size - j then some (s.extract j (j + n), j + n) else none
 | none => none
theorem tn {s : ByteArray} {a : Nat} {x rest : List UInt8} (h : from_ s a = x ++ rest) : from_ s (a + x.length) = rest := by
 rw [← vF, h, List.drop_left]
theorem BU {s : ByteArray} {a n : Nat} {rest : List UInt8} (hn : n < 9223372036854775808) (h : from_ s a = uv n ++ rest) : pc s a = some (n, a + (uv n).length) ∧ from_ s (a + (uv n).length) = rest := by
 refine ⟨?_, tn h⟩
 unfold pc
 rw [h, K0 0 n 0 rest (by omega) (by show n < 2 ^ 64; omega) (.inl rfl)]
 simp only [Nat.mul_zero,Nat.pow_zero,Nat.mul_one,Nat.zero_add]
 rw [if_pos hn]
theorem BV {s : ByteArray} {a n j : Nat} (h : pc s a = some (n, j)) : from_ s a = uv n ++ from_ s j ∧ n < 9223372036854775808 ∧ j = a + (uv n).length ∧ j ≤ s.size ∧ a < j := by
 unfold pc at h
 split at h
 ·rename_i n' k hs
  split at h
  ·rename_i hn
   simp only [Option.some.injEq,Prod.mk.injEq] at h
   obtain ⟨rfl, rfl⟩ := h
   obtain ⟨v, hv, -, hk, rest, hr, -, -⟩ := DD _ _ _ _ _ hs
   have Z7 : v = n' := by rw [hv]; simp
   subst Z7
   rw [Nat.zero_add] at hk
   have iG : 0 < (uv v).length := by rw [uv]; split <;> simp
   have hl := congrArg List.length hr
   rw [ju, List.length_append] at hl
   refine ⟨?_, hn, by rw [hk], by omega, by omega⟩
   rw [← hk, tn hr]; exact hr
  ·cases h
 ·cases h
def bn (s : ByteArray) : List UInt8 := s.data.toList
theorem eZ (s : ByteArray) : (bn s).length = s.size := Array.length_toList
theorem pd (s : ByteArray) (j n : Nat) : bn (s.extract j (j + n)) = (from_ s j).take n := by
 unfold bn from_
 rw [ByteArray.data_extract, Array.toList_extract, List.extract_eq_take_drop, Nat.add_sub_cancel_left]
theorem nU {a b : ByteArray} (h : bn a = bn b) : a = b := by
 cases a; cases b; unfold bn at h; dsimp only at h; rw [Array.toList_inj.1 h]
def eT (t : ByteArray) : List UInt8 := uv t.size ++ bn t
theorem Pq {s t : ByteArray} {a : Nat} {rest : List UInt8} (hn : t.size < 9223372036854775808) (h : from_ s a = eT t ++ rest) : BT s a = some (t, a + (eT t).length) ∧ from_ s (a + (eT t).length) = rest := by
 refine ⟨?_, tn h⟩
 unfold eT at h
 rw [List.append_assoc] at h
 obtain ⟨h1, h2⟩ := BU hn h
 unfold BT
 rw [h1]
 dsimp only
 have hl := congrArg List.length h2
 rw [ju, List.length_append, eZ] at hl
 have e : s.extract (a + (uv t.size).length) (a + (uv t.size).length + t.size) = t := nU (by rw [pd, h2, ← eZ t, List.take_left])
 rw [e, show (eT t).length = (uv t.size).length + t.size by unfold eT; rw [List.length_append, eZ], Nat.add_assoc]
 rw [if_pos]
 by_cases ht : t.size = 0
 ·omega
 ·omega
theorem Pr {s t : ByteArray} {a j : Nat} (h : BT s a = some (t, j)) : from_ s a = eT t ++ from_ s j ∧ t.size < 9223372036854775808 ∧ j ≤ s.size ∧ a < j ∧ t.size ≤ s.size := by
 unfold BT at h
 split at h
 ·rename_i n k hi
  obtain ⟨h1, h2, h3, h4, h5⟩ := BV hi
  split at h
  ·rename_i hn
   simp only [Option.some.injEq,Prod.mk.injEq] at h
   obtain ⟨rfl, rfl⟩ := h
   have hs : (s.extract k (k + n)).size = n := by rw [ByteArray.size_extract]; omega
   refine ⟨?_, by omega, by omega, by omega, by omega⟩
   unfold eT
   rw [hs, pd, List.append_assoc, ← vF, List.take_append_drop]; exact h1
  ·cases h
 ·cases h
end Go.Proofs.YtnfeacnbgbggfaaGreatDoor
end

section
namespace Go.Proofs.YtnfeacnbgbggfaaGreatDoor
open Go.Eng
variable [aH]
def aj (s : bB) : V := .agg [num s.lo, num s.hi]
def ak (l : List bB) : V := .slice (l.map aj)
def ao (q : Rq) : V := .agg [str q.path, ak q.set]
def ah (l : List Rq) : V := .slice (l.map ao)
def aU (v : da) : V := .agg [num v.mj, num v.mn, num v.pt]
def br (s : fP) : V := .agg [str s.path, num s.aC.mj, num s.aC.mn, num s.aC.pt]
def bZ (l : List fP) : V := .slice (l.map br)
def af (r : Rl) : List V := [str r.path, num r.aC.mj, num r.aC.mn, num r.aC.pt, ah r.reqs, str r.ar, str r.gq, str r.ce, bl r.yk]
def ag (r : Rl) : V := .agg (af r)
def aV (l : List Rl) : V := .slice (l.map ag)
def bk (l : List Rl) (I : List V) : V := .agg [aV l, .slice I]
attribute [go_sem] ak ah bZ aV
end Go.Proofs.YtnfeacnbgbggfaaGreatDoor
end

section
namespace Go.Proofs.YtnfeacnbgbggfaaGreatDoor
open Go.Eng
open Nat renaming reduceAdd → zA, reduceLT → zB, reduceLeDiff → zC, reduceMul → zD, reduceEqDiff → zE, reduceSub → zF
variable [aH]
set_option maxHeartbeats 4000000
set_option maxRecDepth 100000
theorem Ps {s e : ByteArray} (he : e.size = 0) (h : (!(s.toList == e.toList)) = true) : ∃ c, s[0]? = some c := by
 refine bT (s := s) (i := 0) ?_
 rcases Nat.eq_zero_or_pos s.size with hz | hz
 ·exfalso
  have e1 : s.toList = e.toList := by
   rw [ByteArray.toList_eq, ByteArray.toList_eq]
   have a1 : s.data.toList = [] := by simpa [← List.length_eq_zero_iff, Array.length_toList] using hz
   have a2 : e.data.toList = [] := by simpa [← List.length_eq_zero_iff, Array.length_toList] using he
   rw [a1, a2]
  rw [e1] at h; simp at h
 ·exact hz
def uS (c : Int) : Bool := decide (97 ≤ c) && decide (c ≤ 122)
def BW (c : Int) : Bool := decide (65 ≤ c) && decide (c ≤ 90)
def eD (c : Int) : Bool := decide (48 ≤ c) && decide (c ≤ 57)
def kK (c : Int) : Bool := uS c || BW c || eD c || decide (c = 95)
def tp (c : Int) : Bool := uS c || eD c
def gr (p : Int → Bool) (s : ByteArray) : Bool := s.data.toList.all fun b => p b.toNat
def cD (s : ByteArray) (i : Nat) : Int := match s[i]? with | some c => c.toNat | none => 0
theorem jX {s : ByteArray} {i : Nat} {c : UInt8} (h : s[i]? = some c) : s.data.toList[i]? = some c := by
 obtain ⟨h1, h2⟩ := getElem?_eq_some_iff.1 h
 have h3 : i < s.data.toList.length := by simpa using h1
 rw [List.getElem?_eq_getElem h3]
 exact congrArg some (by rw [Array.getElem_toList]; exact h2)
theorem dc {s : ByteArray} {i : Nat} {c : UInt8} (h : s[i]? = some c) : cD s i = c.toNat := by unfold cD; rw [h]
theorem jY {p : Int → Bool} {s : ByteArray} (h : ∀ j < s.size, ∀ b, s[j]? = some b → p b.toNat = true) : gr p s = true := by
 refine List.all_eq_true.2 fun b hb => ?_
 obtain ⟨j, hj⟩ := List.mem_iff_getElem?.1 hb
 have h1 : j < s.size := by have := (List.getElem?_eq_some_iff.1 hj).1; simpa using this
 obtain ⟨c, hc⟩ := bT h1
 have := jX hc
 rw [hj] at this; cases this
 exact h j h1 b hc
theorem iP {p : Int → Bool} {s : ByteArray} {j : Nat} {b : UInt8} (h : s[j]? = some b) (hp : p b.toNat = false) : gr p s = false := by
 have hm := List.mem_of_getElem? (jX h)
 cases ha : gr p s with
 | false => rfl
 | true => have := List.all_eq_true.1 ha b hm; rw [hp] at this; cases this
theorem DE {s e : ByteArray} (he : e.size = 0) (h : (!(s.toList == e.toList)) = true) : 1 ≤ s.size := by
 obtain ⟨c, hc⟩ := Ps he h
 exact (getElem?_eq_some_iff.1 hc).1
theorem zq {s e : ByteArray} (he : e.size = 0) (h : (!(s.toList == e.toList)) = false) : s.size = 0 := by
 have e1 : s.toList = e.toList := by simpa using h
 rw [ByteArray.toList_eq, ByteArray.toList_eq] at e1
 have := congrArg List.length e1
 simp only [Array.length_toList] at this
 exact Eq.trans this he
theorem tq (c : Int) : ∃ r_, (fun w => w = bl (uS c)) r_ ∧ aO Tryz.prog 127 [.sc (.int .u8 c)] r_ := by
 refine ef tt_ok [] 9 [.tmp 2] (fn := Tryz.f127) Tryz.func127 rfl Tryz.call127 ⟨rfl, rfl, by simp⟩ fun K hK => ?_
 simp only [go_sem,reduceIte,zA,zB,zC,zD,zE,zF,reduceCtorEq]
 refine aM (fun dX => ?_) (fun dX => ?_)
 ·simp only [go_sem,reduceIte,zA,zB,zC,zD,zE,zF,reduceCtorEq]
  exact hK _ (congrArg bl (by simp_all [uS] <;> (intros; omega)))
 ·simp only [go_sem,reduceIte,zA,zB,zC,zD,zE,zF,reduceCtorEq]
  exact hK _ (congrArg bl (by simp_all [uS] <;> (intros; omega)))
theorem BX (c : Int) : ∃ r_, (fun w => w = bl (BW c)) r_ ∧ aO Tryz.prog 176 [.sc (.int .u8 c)] r_ := by
 refine ef tt_ok [] 9 [.tmp 2] (fn := Tryz.f176) Tryz.func176 rfl Tryz.call176 ⟨rfl, rfl, by simp⟩ fun K hK => ?_
 simp only [go_sem,reduceIte,zA,zB,zC,zD,zE,zF,reduceCtorEq]
 refine aM (fun dX => ?_) (fun dX => ?_)
 ·simp only [go_sem,reduceIte,zA,zB,zC,zD,zE,zF,reduceCtorEq]
  exact hK _ (congrArg bl (by simp_all [BW] <;> (intros; omega)))
 ·simp only [go_sem,reduceIte,zA,zB,zC,zD,zE,zF,reduceCtorEq]
  exact hK _ (congrArg bl (by simp_all [BW] <;> (intros; omega)))
theorem pe (c : Int) : ∃ r_, (fun w => w = bl (eD c)) r_ ∧ aO Tryz.prog 128 [.sc (.int .u8 c)] r_ := by
 refine ef tt_ok [] 9 [.tmp 2] (fn := Tryz.f128) Tryz.func128 rfl Tryz.call128 ⟨rfl, rfl, by simp⟩ fun K hK => ?_
 simp only [go_sem,reduceIte,zA,zB,zC,zD,zE,zF,reduceCtorEq]
 refine aM (fun dX => ?_) (fun dX => ?_)
 ·simp only [go_sem,reduceIte,zA,zB,zC,zD,zE,zF,reduceCtorEq]
  exact hK _ (congrArg bl (by simp_all [eD] <;> (intros; omega)))
 ·simp only [go_sem,reduceIte,zA,zB,zC,zD,zE,zF,reduceCtorEq]
  exact hK _ (congrArg bl (by simp_all [eD] <;> (intros; omega)))
theorem qj (c : Int) : ∃ r_, (fun w => w = bl (uS c)) r_ ∧ aO Tryz.prog 178 [.sc (.int .u8 c)] r_ := by
 refine ef tt_ok [] 9 [.tmp 2] (fn := Tryz.f178) Tryz.func178 rfl Tryz.call178 ⟨rfl, rfl, by simp⟩ fun K hK => ?_
 simp only [go_sem,reduceIte,zA,zB,zC,zD,zE,zF,reduceCtorEq]
 refine aM (fun dX => ?_) (fun dX => ?_)
 ·simp only [go_sem,reduceIte,zA,zB,zC,zD,zE,zF,reduceCtorEq]
  exact hK _ (congrArg bl (by simp_all [uS] <;> (intros; omega)))
 ·simp only [go_sem,reduceIte,zA,zB,zC,zD,zE,zF,reduceCtorEq]
  exact hK _ (congrArg bl (by simp_all [uS] <;> (intros; omega)))
theorem zr (c : Int) : ∃ r_, (fun w => w = bl (BW c)) r_ ∧ aO Tryz.prog 202 [.sc (.int .u8 c)] r_ := by
 refine ef tt_ok [] 9 [.tmp 2] (fn := Tryz.f202) Tryz.func202 rfl Tryz.call202 ⟨rfl, rfl, by simp⟩ fun K hK => ?_
 simp only [go_sem,reduceIte,zA,zB,zC,zD,zE,zF,reduceCtorEq]
 refine aM (fun dX => ?_) (fun dX => ?_)
 ·simp only [go_sem,reduceIte,zA,zB,zC,zD,zE,zF,reduceCtorEq]
  exact hK _ (congrArg bl (by simp_all [BW] <;> (intros; omega)))
 ·simp only [go_sem,reduceIte,zA,zB,zC,zD,zE,zF,reduceCtorEq]
  exact hK _ (congrArg bl (by simp_all [BW] <;> (intros; omega)))
theorem mH (c : Int) : ∃ r_, (fun w => w = bl (eD c)) r_ ∧ aO Tryz.prog 179 [.sc (.int .u8 c)] r_ := by
 refine ef tt_ok [] 9 [.tmp 2] (fn := Tryz.f179) Tryz.func179 rfl Tryz.call179 ⟨rfl, rfl, by simp⟩ fun K hK => ?_
 simp only [go_sem,reduceIte,zA,zB,zC,zD,zE,zF,reduceCtorEq]
 refine aM (fun dX => ?_) (fun dX => ?_)
 ·simp only [go_sem,reduceIte,zA,zB,zC,zD,zE,zF,reduceCtorEq]
  exact hK _ (congrArg bl (by simp_all [eD] <;> (intros; omega)))
 ·simp only [go_sem,reduceIte,zA,zB,zC,zD,zE,zF,reduceCtorEq]
  exact hK _ (congrArg bl (by simp_all [eD] <;> (intros; omega)))
theorem K2 (c : Int) : ∃ r_, (fun w => w = bl (kK c)) r_ ∧ aO Tryz.prog 151 [.sc (.int .u8 c)] r_ := by
 refine ef tt_ok [] 17 [.tmp 2] (fn := Tryz.f151) Tryz.func151 rfl Tryz.call151 ⟨rfl, rfl, by simp⟩ fun K hK => ?_
 simp only [go_sem,reduceIte,zA,zB,zC,zD,zE,zF,reduceCtorEq]
 refine cF (tq _) ?_
 rintro _ rfl
 simp only [go_sem,reduceIte,zA,zB,zC,zD,zE,zF,reduceCtorEq]
 refine aM (fun dX => ?_) (fun dX => ?_)
 ·simp only [go_sem,reduceIte,zA,zB,zC,zD,zE,zF,reduceCtorEq]
  exact hK _ (congrArg bl (by simp_all [kK]))
 ·simp only [go_sem,reduceIte,zA,zB,zC,zD,zE,zF,reduceCtorEq]
  refine cF (BX _) ?_
  rintro _ rfl
  simp only [go_sem,reduceIte,zA,zB,zC,zD,zE,zF,reduceCtorEq]
  refine aM (fun zt => ?_) (fun zt => ?_)
  ·simp only [go_sem,reduceIte,zA,zB,zC,zD,zE,zF,reduceCtorEq]
   exact hK _ (congrArg bl (by simp_all [kK]))
  ·simp only [go_sem,reduceIte,zA,zB,zC,zD,zE,zF,reduceCtorEq]
   refine cF (pe _) ?_
   rintro _ rfl
   simp only [go_sem,reduceIte,zA,zB,zC,zD,zE,zF,reduceCtorEq]
   refine aM (fun BY => ?_) (fun BY => ?_)
   ·simp only [go_sem,reduceIte,zA,zB,zC,zD,zE,zF,reduceCtorEq]
    exact hK _ (congrArg bl (by simp_all [kK]))
   ·simp only [go_sem,reduceIte,zA,zB,zC,zD,zE,zF,reduceCtorEq]
    exact hK _ (congrArg bl (by simp_all [kK]))
theorem HL (c : Int) : ∃ r_, (fun w => w = bl (kK c)) r_ ∧ aO Tryz.prog 199 [.sc (.int .u8 c)] r_ := by
 refine ef tt_ok [] 17 [.tmp 2] (fn := Tryz.f199) Tryz.func199 rfl Tryz.call199 ⟨rfl, rfl, by simp⟩ fun K hK => ?_
 simp only [go_sem,reduceIte,zA,zB,zC,zD,zE,zF,reduceCtorEq]
 refine cF (qj _) ?_
 rintro _ rfl
 simp only [go_sem,reduceIte,zA,zB,zC,zD,zE,zF,reduceCtorEq]
 refine aM (fun dX => ?_) (fun dX => ?_)
 ·simp only [go_sem,reduceIte,zA,zB,zC,zD,zE,zF,reduceCtorEq]
  exact hK _ (congrArg bl (by simp_all [kK]))
 ·simp only [go_sem,reduceIte,zA,zB,zC,zD,zE,zF,reduceCtorEq]
  refine cF (zr _) ?_
  rintro _ rfl
  simp only [go_sem,reduceIte,zA,zB,zC,zD,zE,zF,reduceCtorEq]
  refine aM (fun zt => ?_) (fun zt => ?_)
  ·simp only [go_sem,reduceIte,zA,zB,zC,zD,zE,zF,reduceCtorEq]
   exact hK _ (congrArg bl (by simp_all [kK]))
  ·simp only [go_sem,reduceIte,zA,zB,zC,zD,zE,zF,reduceCtorEq]
   refine cF (mH _) ?_
   rintro _ rfl
   simp only [go_sem,reduceIte,zA,zB,zC,zD,zE,zF,reduceCtorEq]
   refine aM (fun BY => ?_) (fun BY => ?_)
   ·simp only [go_sem,reduceIte,zA,zB,zC,zD,zE,zF,reduceCtorEq]
    exact hK _ (congrArg bl (by simp_all [kK]))
   ·simp only [go_sem,reduceIte,zA,zB,zC,zD,zE,zF,reduceCtorEq]
    exact hK _ (congrArg bl (by simp_all [kK]))
theorem Td (c : Int) : ∃ r_, (fun w => w = bl (tp c)) r_ ∧ aO Tryz.prog 126 [.sc (.int .u8 c)] r_ := by
 refine ef tt_ok [] 9 [.tmp 2] (fn := Tryz.f126) Tryz.func126 rfl Tryz.call126 ⟨rfl, rfl, by simp⟩ fun K hK => ?_
 simp only [go_sem,reduceIte,zA,zB,zC,zD,zE,zF,reduceCtorEq]
 refine cF (tq _) ?_
 rintro _ rfl
 simp only [go_sem,reduceIte,zA,zB,zC,zD,zE,zF,reduceCtorEq]
 refine aM (fun dX => ?_) (fun dX => ?_)
 ·simp only [go_sem,reduceIte,zA,zB,zC,zD,zE,zF,reduceCtorEq]
  exact hK _ (congrArg bl (by simp_all [tp]))
 ·simp only [go_sem,reduceIte,zA,zB,zC,zD,zE,zF,reduceCtorEq]
  refine cF (pe _) ?_
  rintro _ rfl
  simp only [go_sem,reduceIte,zA,zB,zC,zD,zE,zF,reduceCtorEq]
  exact hK _ (congrArg bl (by simp_all [tp]))
theorem xk (g : FuncId) (p : Int → Bool) (hg : ∀ c : Int, ∃ r, (fun v => v = bl (p c)) r ∧ aO Tryz.prog g [.sc (.int .u8 c)] r) (s : ByteArray) (hs : s.size ≤ 1048576) : ∃ r_, (fun w => w = bl (gr p s)) r_ ∧ aO Tryz.prog 125 [str s, .sc (.func (.func g) #[] #[])] r_ := by
 refine ef tt_ok [] 18 [.tmp 4] (fn := Tryz.f125) Tryz.func125 rfl Tryz.call125 ⟨rfl, rfl, by simp⟩ fun K hK => ?_
 have fu : Tryz.prog.underlying 9 = some .string := by kernel_rfl
 have sl : ∀ (a : ByteArray) (ty : TypeId), cH Tryz.prog (Builtin.len_ #[9] ty) [.sc (.string a)] = some (num a.size) := fun a ty => ck (P := Tryz.prog) (tt := tt) (T := 9) a fu ty
 simp only [sl,go_sem,reduceIte,zA,zB,zC,zD,zE,zF,reduceCtorEq]
 refine bL tt_ok [] [8] 0 [0,1,7] (fun vs => ((s.size : Int) - Go.Eng.intOf (vs.headD .undef)).toNat) (fun vs => ∃ i : Nat, vs = [num i] ∧ i ≤ s.size ∧ ∀ j < i, ∀ b, s[j]? = some b → p b.toNat = true) (by omega) (by simp only [sl,go_sem,reduceIte,zA,zB,zC,zD,zE,zF,reduceCtorEq]) (⟨0, rfl, Nat.zero_le _, fun j hj => absurd hj (Nat.not_lt_zero j)⟩) fun vs hI Z1 bW => ?_
 obtain ⟨i, rfl, hi, dW⟩ := hI
 simp only [sl,go_sem,reduceIte,zA,zB,zC,zD,zE,zF,reduceCtorEq]
 refine aM (fun jG => ?_) (fun jG => ?_)
 ·have aD : i < s.size := by simpa using jG
  have hw := aB i (by omega)
  obtain ⟨c, kL⟩ := bT (s := s) (i := i) aD
  have c6 := cM (P := Tryz.prog) s fu .i64 (i : Int) (by omega) (c := c) (show s[((i : Nat) : Int).toNat]? = some c from kL)
  simp only [hw,c6,sl,go_sem,reduceIte,zA,zB,zC,zD,zE,zF,reduceCtorEq]
  refine cF (hg _) ?_
  rintro _ rfl
  simp only [hw,c6,sl,go_sem,reduceIte,zA,zB,zC,zD,zE,zF,reduceCtorEq]
  refine aM (fun kM => ?_) (fun kM => ?_)
  ·have ay : false = gr p s := (iP kL (by simpa using kM)).symm
   simp only [hw,c6,sl,go_sem,reduceIte,zA,zB,zC,zD,zE,zF,reduceCtorEq]
   exact hK _ (congrArg bl ay)
  ·simp only [hw,c6,sl,go_sem,reduceIte,zA,zB,zC,zD,zE,zF,reduceCtorEq]
   refine bW _ (dD (by omega) (by simp only [hw,c6,sl,go_sem,reduceIte,zA,zB,zC,zD,zE,zF,reduceCtorEq]) ?_ ?_) <;> simp only [gQ,lk,reduceIte,zE]
   ·refine ⟨i + 1, rfl, aD, fun j hj b hb => ?_⟩
    rcases Nat.lt_or_ge j i with h | h
    ·exact dW j h b hb
    ·obtain rfl : j = i := by omega
     rw [kL] at hb; cases hb; simpa using kM
   ·simp only [Go.Eng.intOf,List.headD_cons]; omega
 ·have c5 : ¬ i < s.size := by simpa using jG
  have ay : true = gr p s := (jY fun j hj b hb => dW j (by omega) b hb).symm
  simp only [sl,go_sem,reduceIte,zA,zB,zC,zD,zE,zF,reduceCtorEq]
  exact hK _ (congrArg bl ay)
theorem HM (s : ByteArray) (hs : s.size ≤ 1048576) : ∃ r_, (fun w => w = bl (gr kK s)) r_ ∧ aO Tryz.prog 190 [str s] r_ := by
 refine ef tt_ok [] 15 [.tmp 2] (fn := Tryz.f190) Tryz.func190 rfl Tryz.call190 ⟨rfl, rfl, by simp⟩ fun K hK => ?_
 have fu : Tryz.prog.underlying 9 = some .string := by kernel_rfl
 have sl : ∀ (a : ByteArray) (ty : TypeId), cH Tryz.prog (Builtin.len_ #[9] ty) [.sc (.string a)] = some (num a.size) := fun a ty => ck (P := Tryz.prog) (tt := tt) (T := 9) a fu ty
 simp only [sl,go_sem,reduceIte,zA,zB,zC,zD,zE,zF,reduceCtorEq]
 refine bL tt_ok [] [3] 0 [0] (fun vs => ((s.size : Int) - Go.Eng.intOf (vs.headD .undef)).toNat) (fun vs => ∃ i : Nat, vs = [num i] ∧ i ≤ s.size ∧ ∀ j < i, ∀ b, s[j]? = some b → kK b.toNat = true) (by omega) (by simp only [sl,go_sem,reduceIte,zA,zB,zC,zD,zE,zF,reduceCtorEq]) (⟨0, rfl, Nat.zero_le _, fun j hj => absurd hj (Nat.not_lt_zero j)⟩) fun vs hI Z1 bW => ?_
 obtain ⟨i, rfl, hi, dW⟩ := hI
 simp only [sl,go_sem,reduceIte,zA,zB,zC,zD,zE,zF,reduceCtorEq]
 refine aM (fun HN => ?_) (fun HN => ?_)
 ·have aD : i < s.size := by simpa using HN
  have hw := aB i (by omega)
  obtain ⟨c, kL⟩ := bT (s := s) (i := i) aD
  have c6 := cM (P := Tryz.prog) s fu .i64 (i : Int) (by omega) (c := c) (show s[((i : Nat) : Int).toNat]? = some c from kL)
  simp only [hw,c6,sl,go_sem,reduceIte,zA,zB,zC,zD,zE,zF,reduceCtorEq]
  refine cF (HL _) ?_
  rintro _ rfl
  simp only [hw,c6,sl,go_sem,reduceIte,zA,zB,zC,zD,zE,zF,reduceCtorEq]
  refine aM (fun cX => ?_) (fun cX => ?_)
  ·have ay : false = gr kK s := (iP kL (by simpa using cX)).symm
   simp only [hw,c6,sl,go_sem,reduceIte,zA,zB,zC,zD,zE,zF,reduceCtorEq]
   exact hK _ (congrArg bl ay)
  ·simp only [hw,c6,sl,go_sem,reduceIte,zA,zB,zC,zD,zE,zF,reduceCtorEq]
   refine bW _ (dD (by omega) (by simp only [hw,c6,sl,go_sem,reduceIte,zA,zB,zC,zD,zE,zF,reduceCtorEq]) ?_ ?_) <;> simp only [gQ,lk,reduceIte,zE]
   ·refine ⟨i + 1, rfl, aD, fun j hj b hb => ?_⟩
    rcases Nat.lt_or_ge j i with h | h
    ·exact dW j h b hb
    ·obtain rfl : j = i := by omega
     rw [kL] at hb; cases hb; simpa using cX
   ·simp only [Go.Eng.intOf,List.headD_cons]; omega
 ·have c5 : ¬ i < s.size := by simpa using HN
  have ay : true = gr kK s := (jY fun j hj b hb => dW j (by omega) b hb).symm
  simp only [sl,go_sem,reduceIte,zA,zB,zC,zD,zE,zF,reduceCtorEq]
  exact hK _ (congrArg bl ay)
end Go.Proofs.YtnfeacnbgbggfaaGreatDoor
end

section
namespace Go.Proofs.YtnfeacnbgbggfaaGreatDoor
open Go.Eng
open Nat renaming reduceAdd → zA, reduceLT → zB, reduceLeDiff → zC, reduceMul → zD, reduceEqDiff → zE, reduceSub → zF
variable [aH]
set_option maxHeartbeats 4000000
set_option maxRecDepth 100000
def da.part (v : da) (i : Nat) : Int := if i = 0 then v.mj else if i = 1 then v.mn else v.pt
theorem WX (a b c : Int) : A7 Tryz.prog 151 [(0, .int .i64 a), (1, .int .i64 b), (2, .int .i64 c)] = some (.agg [num a, num b, num c]) := by kernel_rfl
theorem Pt (a b c : Int) : aQ Tryz.prog (Instr.index 151) (.agg [num a, num b, num c]) (num 0) = some (num a) := by kernel_rfl
theorem Pu (a b c : Int) : aQ Tryz.prog (Instr.index 151) (.agg [num a, num b, num c]) (num 1) = some (num b) := by kernel_rfl
theorem Pv (a b c : Int) : aQ Tryz.prog (Instr.index 151) (.agg [num a, num b, num c]) (num 2) = some (num c) := by kernel_rfl
theorem Te (v : da) (i : Nat) (h : i < 3) : aQ Tryz.prog (Instr.index 151) (.agg [num v.mj, num v.mn, num v.pt]) (num i) = some (num (v.part i)) := by
 obtain ⟨a, b, c⟩ := v
 match i, h with
 | 0, _ => exact Pt a b c
 | 1, _ => exact Pu a b c
 | 2, _ => exact Pv a b c
theorem da.Tf (v : da) (i : Nat) (h : i < 3) : [num v.mj, num v.mn, num v.pt][i]? = some (num (v.part i)) := by
 obtain ⟨a, b, c⟩ := v
 match i, h with
 | 0, _ => rfl
 | 1, _ => rfl
 | 2, _ => rfl
def gu (n : Int) : Bool := decide (0 ≤ n) && decide (n ≤ 999)
def da.ok (v : da) : Bool := gu v.mj && gu v.mn && gu v.pt
theorem da.BZ (v : da) : v.ok = true ↔ ∀ i < 3, gu (v.part i) = true := by
 unfold da.ok
 simp only [Bool.and_eq_true]
 constructor
 ·rintro ⟨⟨h0, h1⟩, h2⟩ i hi
  match i, hi with
  | 0, _ => exact h0
  | 1, _ => exact h1
  | 2, _ => exact h2
 ·exact fun h => ⟨⟨h 0 (by omega), h 1 (by omega)⟩, h 2 (by omega)⟩
def fp (a b : Int) : Int := if a < b then -1 else if b < a then 1 else 0
def da.cmp (a b : da) : Int := if fp a.mj b.mj ≠ 0 then fp a.mj b.mj else if fp a.mn b.mn ≠ 0 then fp a.mn b.mn else fp a.pt b.pt
theorem da.B6 {a b : da} {i : Nat} (hi : i < 3) (h : ∀ j < i, fp (a.part j) (b.part j) = 0) (bH : fp (a.part i) (b.part i) ≠ 0) : a.cmp b = fp (a.part i) (b.part i) := by
 unfold da.cmp
 match i, hi with
 | 0, _ => exact if_pos bH
 | 1, _ =>
  have h0 := h 0 (by omega)
  simp only [da.part,if_true] at h0
  rw [if_neg (by rw [h0]; simp)]
  exact if_pos bH
 | 2, _ =>
  have h0 := h 0 (by omega)
  have h1 := h 1 (by omega)
  simp only [da.part,if_true] at h0 h1
  rw [if_neg (by rw [h0]; simp), if_neg (by rw [show fp a.mn b.mn = 0 from h1]; simp)]
  rfl
theorem da.cmp_eq {a b : da} (h : ∀ j < 3, fp (a.part j) (b.part j) = 0) : a.cmp b = 0 := by
 unfold da.cmp
 have h0 := h 0 (by omega)
 have h1 := h 1 (by omega)
 have h2 := h 2 (by omega)
 rw [if_neg (by rw [show fp a.mj b.mj = 0 from h0]; simp), if_neg (by rw [show fp a.mn b.mn = 0 from h1]; simp)]
 exact h2
def km (a b : ByteArray) : Bool := Op.bytesLess a.toList b.toList
theorem au (a b : ByteArray) : (a.toList == b.toList) = decide (a = b) := by
 rw [Bool.eq_iff_iff, beq_iff_eq, decide_eq_true_eq]
 refine ⟨fun h => ?_, fun h => by rw [h]⟩
 rw [ByteArray.toList_eq, ByteArray.toList_eq] at h
 cases a; cases b; congr 1; exact Array.toList_inj.1 h
theorem lV (a b : ByteArray) : km a b = decide (a.data.toList < b.data.toList) := by
 unfold km
 rw [Proofs.bytesLess_eq, ByteArray.toList_eq, ByteArray.toList_eq]
def kN (a b : ByteArray) : Int := if km a b = true then -1 else if a = b then 0 else 1
theorem iQ {v : da} (h : v.ok = true) : IntKind.i64.wrap (1000 * v.mn) = 1000 * v.mn ∧ IntKind.i64.wrap (1000 * v.mn + v.pt) = v.place ∧ 0 ≤ v.place ∧ v.place < 1000000 := by
 unfold da.ok gu at h
 simp only [Bool.and_eq_true,decide_eq_true_eq] at h
 unfold da.place
 refine ⟨IntWalk.i64_in _ (by omega), IntWalk.i64_in _ (by omega), by omega, by omega⟩
theorem tr (v : da) : ∃ r_, (fun w => w = .agg [num v.mj, num v.mn, num v.pt]) r_ ∧ aO Tryz.prog 114 [aU v] r_ := by
 refine ef tt_ok [] 10 [.cell 2 151] (fn := Tryz.f114) Tryz.func114 rfl Tryz.call114 ⟨rfl, rfl, by simp⟩ fun K hK => ?_
 simp only [aU]
 simp only [WX,go_sem,reduceIte,zA,zB,zC,zD,zE,zF,reduceCtorEq]
 exact hK _ rfl
theorem zu (v : da) : ∃ r_, (fun w => w = bl (v.ok)) r_ ∧ aO Tryz.prog 78 [aU v] r_ := by
 refine ef tt_ok [] 17 [.tmp 2] (fn := Tryz.f78) Tryz.func78 rfl Tryz.call78 ⟨rfl, rfl, by simp⟩ fun K hK => ?_
 simp only [aU]
 simp only [go_sem,reduceIte,zA,zB,zC,zD,zE,zF,reduceCtorEq]
 refine cF (by have h := tr v; simp only [aU] at h; exact h) ?_
 rintro _ rfl
 simp only [go_sem,reduceIte,zA,zB,zC,zD,zE,zF,reduceCtorEq]
 refine bL tt_ok [] [7] 1 [6] (fun vs => ((3 : Int) - Go.Eng.intOf (vs.headD .undef)).toNat) (fun vs => ∃ i : Nat, vs = [num i] ∧ i ≤ 3 ∧ ∀ j < i, gu (v.part j) = true) (by omega) (by simp only [go_sem,reduceIte,zA,zB,zC,zD,zE,zF,reduceCtorEq]) (⟨0, rfl, Nat.zero_le _, fun j hj => absurd hj (Nat.not_lt_zero j)⟩) fun vs hI Z1 bW => ?_
 obtain ⟨i, rfl, hi, bh⟩ := hI
 simp only [go_sem,reduceIte,zA,zB,zC,zD,zE,zF,reduceCtorEq]
 refine aM (fun Nl => ?_) (fun Nl => ?_)
 ·have aD : i < 3 := by have := of_decide_eq_true Nl; omega
  have c6 := Te v i aD
  have hw := aB i (by omega)
  simp only [c6,hw,go_sem,reduceIte,zA,zB,zC,zD,zE,zF,reduceCtorEq]
  refine aM (fun Tg => ?_) (fun Tg => ?_)
  ·have ay : false = v.ok := by
    cases ho : v.ok with
    | false => rfl
    | true =>
     have h1 := v.BZ.1 ho i aD
     unfold gu at h1
     simp only [Bool.and_eq_true,decide_eq_true_eq] at h1
     exfalso; simp_all <;> omega
   simp only [c6,hw,go_sem,reduceIte,zA,zB,zC,zD,zE,zF,reduceCtorEq]
   exact hK _ (congrArg bl ay)
  ·simp only [c6,hw,go_sem,reduceIte,zA,zB,zC,zD,zE,zF,reduceCtorEq]
   refine aM (fun gR => ?_) (fun gR => ?_)
   ·have ay : false = v.ok := by
     cases ho : v.ok with
     | false => rfl
     | true =>
      have h1 := v.BZ.1 ho i aD
      unfold gu at h1
      simp only [Bool.and_eq_true,decide_eq_true_eq] at h1
      exfalso; simp_all <;> omega
    simp only [c6,hw,go_sem,reduceIte,zA,zB,zC,zD,zE,zF,reduceCtorEq]
    exact hK _ (congrArg bl ay)
   ·simp only [c6,hw,go_sem,reduceIte,zA,zB,zC,zD,zE,zF,reduceCtorEq]
    refine bW _ (dD (by omega) (by simp only [c6,hw,go_sem,reduceIte,zA,zB,zC,zD,zE,zF,reduceCtorEq]) ?_ ?_) <;> simp only [gQ,lk,reduceIte,zE]
    ·refine ⟨i + 1, rfl, aD, fun j hj => ?_⟩
     rcases Nat.lt_or_ge j i with h | h
     ·exact bh j h
     ·obtain rfl : j = i := by omega
      unfold gu; simp_all <;> omega
    ·simp only [Go.Eng.intOf,List.headD_cons]; omega
 ·have c5 : i = 3 := by have := of_decide_eq_false Nl; omega
  subst c5
  have ay : true = v.ok := (v.BZ.2 bh).symm
  simp only [go_sem,reduceIte,zA,zB,zC,zD,zE,zF,reduceCtorEq]
  exact hK _ (congrArg bl ay)
end Go.Proofs.YtnfeacnbgbggfaaGreatDoor
end

section
namespace Go.Proofs.YtnfeacnbgbggfaaGreatDoor
open Go.Eng
open Nat renaming reduceAdd → zA, reduceLT → zB, reduceLeDiff → zC, reduceMul → zD, reduceEqDiff → zE, reduceSub → zF
variable [aH]
set_option maxHeartbeats 4000000
set_option maxRecDepth 100000
def K3 (l : List Int) : Int := (l.find? fun n => decide (n ≠ 0)).getD 0
theorem Pw {l : List Int} {i : Nat} {n : Int} (h : l[i]? = some n) (hn : n ≠ 0) (bh : ∀ j < i, ∀ m, l[j]? = some m → m = 0) : K3 l = n := by
 unfold K3
 have : l.find? (fun n => decide (n ≠ 0)) = some n := by
  rw [List.find?_eq_some_iff_getElem]
  refine ⟨by simpa using hn, i, (List.getElem?_eq_some_iff.1 h).1, (List.getElem?_eq_some_iff.1 h).2, fun j hj => ?_⟩
  have := bh j hj _ (List.getElem?_eq_getElem (by have := (List.getElem?_eq_some_iff.1 h).1; omega))
  simpa using this
 rw [this]; rfl
theorem HO {l : List Int} (bh : ∀ j < l.length, ∀ m, l[j]? = some m → m = 0) : K3 l = 0 := by
 unfold K3
 have : l.find? (fun n => decide (n ≠ 0)) = none := by
  rw [List.find?_eq_none]
  intro n hn
  obtain ⟨j, hj⟩ := List.mem_iff_getElem?.1 hn
  have := bh j (List.getElem?_eq_some_iff.1 hj).1 n hj
  simpa using this
 rw [this]; rfl
def Rl.cmp (a b : Rl) : Int := if kN a.path b.path ≠ 0 then kN a.path b.path else a.aC.cmp b.aC
theorem K4 (a b : Int) : K3 [a, b] = if a ≠ 0 then a else b := by
 unfold K3
 by_cases h : a = 0 <;> by_cases h2 : b = 0 <;> simp [h, h2]
theorem DF (n : Int) : ∃ r_, (fun w => w = bl (false)) r_ ∧ aO Tryz.prog 158 [num n] r_ := by
 refine ef tt_ok [] 6 [.tmp 2] (fn := Tryz.f158) Tryz.func158 rfl Tryz.call158 ⟨rfl, rfl, by simp⟩ fun K hK => ?_
 simp only [go_sem,reduceIte,zA,zB,zC,zD,zE,zF,reduceCtorEq]
 exact hK _ (congrArg bl (by simp))
theorem DG (s : ByteArray) : ∃ r_, (fun w => w = bl (false)) r_ ∧ aO Tryz.prog 135 [str s] r_ := by
 refine ef tt_ok [] 6 [.tmp 2] (fn := Tryz.f135) Tryz.func135 rfl Tryz.call135 ⟨rfl, rfl, by simp⟩ fun K hK => ?_
 simp only [go_sem,reduceIte,zA,zB,zC,zD,zE,zF,reduceCtorEq]
 exact hK _ (congrArg bl (by simp))
theorem K5 (a b : Int) : ∃ r_, (fun w => w = num (fp a b)) r_ ∧ aO Tryz.prog 136 [num a, num b] r_ := by
 refine ef tt_ok [] 20 [.tmp 4] (fn := Tryz.f136) Tryz.func136 rfl Tryz.call136 ⟨rfl, rfl, by simp⟩ fun K hK => ?_
 simp only [go_sem,reduceIte,zA,zB,zC,zD,zE,zF,reduceCtorEq]
 refine cF (DF _) ?_
 rintro _ rfl
 simp only [go_sem,reduceIte,zA,zB,zC,zD,zE,zF,reduceCtorEq]
 refine cF (DF _) ?_
 rintro _ rfl
 simp only [go_sem,reduceIte,zA,zB,zC,zD,zE,zF,reduceCtorEq]
 refine aM (fun kM => ?_) (fun kM => ?_)
 ·simp only [go_sem,reduceIte,zA,zB,zC,zD,zE,zF,reduceCtorEq]
  exact hK _ (congrArg num (by unfold fp; simp_all <;> omega))
 ·simp only [go_sem,reduceIte,zA,zB,zC,zD,zE,zF,reduceCtorEq]
  refine aM (fun tu => ?_) (fun tu => ?_)
  ·simp only [go_sem,reduceIte,zA,zB,zC,zD,zE,zF,reduceCtorEq]
   exact hK _ (congrArg num (by unfold fp; simp_all <;> omega))
  ·simp only [go_sem,reduceIte,zA,zB,zC,zD,zE,zF,reduceCtorEq]
   exact hK _ (congrArg num (by unfold fp; simp_all <;> omega))
theorem K6 (a b : ByteArray) : ∃ r_, (fun w => w = num (kN a b)) r_ ∧ aO Tryz.prog 111 [str a, str b] r_ := by
 refine ef tt_ok [] 20 [.tmp 4] (fn := Tryz.f111) Tryz.func111 rfl Tryz.call111 ⟨rfl, rfl, by simp⟩ fun K hK => ?_
 simp only [go_sem,reduceIte,zA,zB,zC,zD,zE,zF,reduceCtorEq]
 refine cF (DG _) ?_
 rintro _ rfl
 simp only [go_sem,reduceIte,zA,zB,zC,zD,zE,zF,reduceCtorEq]
 refine cF (DG _) ?_
 rintro _ rfl
 simp only [go_sem,reduceIte,zA,zB,zC,zD,zE,zF,reduceCtorEq]
 refine aM (fun kM => ?_) (fun kM => ?_)
 ·simp only [go_sem,reduceIte,zA,zB,zC,zD,zE,zF,reduceCtorEq]
  exact hK _ (congrArg num (by unfold kN km; simp_all [au]))
 ·simp only [go_sem,reduceIte,zA,zB,zC,zD,zE,zF,reduceCtorEq]
  refine aM (fun tu => ?_) (fun tu => ?_)
  ·simp only [go_sem,reduceIte,zA,zB,zC,zD,zE,zF,reduceCtorEq]
   exact hK _ (congrArg num (by unfold kN km; simp_all [au]))
  ·simp only [go_sem,reduceIte,zA,zB,zC,zD,zE,zF,reduceCtorEq]
   exact hK _ (congrArg num (by unfold kN km; simp_all [au]))
theorem Th (l : List Int) (hl : l.length ≤ 1048576) : ∃ r_, (fun w => w = num (K3 l)) r_ ∧ aO Tryz.prog 110 [.slice (l.map num)] r_ := by
 refine ef tt_ok [] 18 [.tmp 2] (fn := Tryz.f110) Tryz.func110 rfl Tryz.call110 ⟨rfl, rfl, by simp⟩ fun K hK => ?_
 simp only [List.length_map,go_sem,reduceIte,zA,zB,zC,zD,zE,zF,reduceCtorEq]
 refine bL tt_ok [] [8] 0 [3,6,7] (fun vs => ((l.length : Int) - Go.Eng.intOf (vs.headD .undef)).toNat) (fun vs => ∃ i : Nat, vs = [num i] ∧ i ≤ l.length ∧ ∀ j < i, ∀ m, l[j]? = some m → m = 0) (by omega) (by simp only [List.length_map,go_sem,reduceIte,zA,zB,zC,zD,zE,zF,reduceCtorEq]) (⟨0, rfl, Nat.zero_le _, fun j hj => absurd hj (Nat.not_lt_zero j)⟩) fun vs hI Z1 bW => ?_
 obtain ⟨i, rfl, hi, bh⟩ := hI
 simp only [List.length_map,go_sem,reduceIte,zA,zB,zC,zD,zE,zF,reduceCtorEq]
 refine aM (fun jG => ?_) (fun jG => ?_)
 ·have aD : i < l.length := by simpa using jG
  have hw := aB i (by omega)
  obtain ⟨x, hx⟩ : ∃ x, l[i]? = some x := ⟨_, List.getElem?_eq_getElem aD⟩
  simp only [hw,List.getElem?_map,hx,List.length_map,go_sem,reduceIte,zA,zB,zC,zD,zE,zF,reduceCtorEq]
  refine aM (fun cX => ?_) (fun cX => ?_)
  ·have ay : x = K3 l := (Pw hx (by simpa using cX) bh).symm
   simp only [hw,List.getElem?_map,hx,List.length_map,go_sem,reduceIte,zA,zB,zC,zD,zE,zF,reduceCtorEq]
   exact hK _ (congrArg num ay)
  ·simp only [hw,List.getElem?_map,hx,List.length_map,go_sem,reduceIte,zA,zB,zC,zD,zE,zF,reduceCtorEq]
   refine bW _ (dD (by omega) (by simp only [hw,List.getElem?_map,hx,List.length_map,go_sem,reduceIte,zA,zB,zC,zD,zE,zF,reduceCtorEq]) ?_ ?_) <;> simp only [gQ,lk,reduceIte,zE]
   ·refine ⟨i + 1, rfl, aD, fun j hj => ?_⟩
    rcases Nat.lt_or_ge j i with h | h
    ·exact bh j h
    ·obtain rfl : j = i := by omega
     intro m hm
     rw [hx] at hm; cases hm; simpa using cX
   ·simp only [Go.Eng.intOf,List.headD_cons]; omega
 ·have c5 : ¬ i < l.length := by simpa using jG
  have ay : 0 = K3 l := (HO fun j hj => bh j (by omega)).symm
  simp only [List.length_map,go_sem,reduceIte,zA,zB,zC,zD,zE,zF,reduceCtorEq]
  exact hK _ (congrArg num ay)
end Go.Proofs.YtnfeacnbgbggfaaGreatDoor
end

section
namespace Go.Proofs.YtnfeacnbgbggfaaGreatDoor
open Go.Eng
variable [aH]
theorem WY {P : Program} {T : TypeId} (hT : P.underlying T = some .string) (d : Nat) (a b : ByteArray) : aG P (Op.equalIn (d + 1) T (.string a) (.string b)) = some (a == b) := by
 rw [Op.equalIn, aL, cr hT]
 rfl
theorem HP {P : Program} {T : TypeId} (hT : P.underlying T = some (.int .i64)) (d : Nat) (a b : Int) : aG P (Op.equalIn (d + 1) T (.int .i64 a) (.int .i64 b)) = some (a == b) := by
 rw [Op.equalIn, aL, cr hT]
 rfl
theorem Px (d : Nat) (a b c e : Int) : aG Tryz.prog (Op.equalIn (d + 1 + 1) 78 (.agg #[.int .i64 a, .int .i64 b]) (.agg #[.int .i64 c, .int .i64 e])) = some (a == c && b == e) := by
 have q1 := HP Tryz.underlying3 d a c
 have q2 := HP Tryz.underlying3 d b e
 have hs : Tryz.prog.stoodInHeld 78 = false := by kernel_rfl
 have jA : ∀ x y, aG Tryz.prog (part 3 #[x, y] 0) = some x := fun x y => by kernel_rfl
 have oq : ∀ x y, aG Tryz.prog (part 3 #[x, y] 1) = some y := fun x y => by kernel_rfl
 rw [Op.equalIn, aL, cr Tryz.underlying78]
 dsimp only [Option.bind_some]
 rw [aL]
 show ((some Tryz.prog).bind _) = _
 rw [Option.bind_some, if_neg (by rw [hs]; simp)]
 rw [← Array.forIn_toList]
 have n1 : ("From" ≠ "_") := by decide
 have n2 : ("To" ≠ "_") := by decide
 have pr : ∀ {α : Type} (x : α), aG Tryz.prog (pure x : Sem α) = some x := fun x => rfl
 simp only [List.forIn_cons,List.forIn_nil,aL,if_pos n1,if_pos n2,jA,oq,Option.bind_some,q1,pr]
 cases Z8 : (a == c)
 ·simp [pr, Option.bind_some]
 ·simp only [Bool.not_true,Bool.false_eq_true,if_false,pr,Option.bind_some,aL,if_pos n2,oq,q2,Bool.true_and]
  cases er : (b == e) <;> simp [pr, aL]
theorem HQ (n : Nat) (a b c x y z : Int) : aG Tryz.prog (Op.equalIn (n + 1 + 1) 38 (.agg #[.int .i64 a, .int .i64 b, .int .i64 c]) (.agg #[.int .i64 x, .int .i64 y, .int .i64 z])) = some (a == x && (b == y && c == z)) := by
 have q1 := HP Tryz.underlying3 n a x
 have q2 := HP Tryz.underlying3 n b y
 have q3 := HP Tryz.underlying3 n c z
 have hs : Tryz.prog.stoodInHeld 38 = false := by kernel_rfl
 have jA : ∀ x y z, aG Tryz.prog (part 3 #[x, y, z] 0) = some x := fun x y z => by kernel_rfl
 have oq : ∀ x y z, aG Tryz.prog (part 3 #[x, y, z] 1) = some y := fun x y z => by kernel_rfl
 have WZ : ∀ x y z, aG Tryz.prog (part 3 #[x, y, z] 2) = some z := fun x y z => by kernel_rfl
 rw [Op.equalIn, aL, cr Tryz.underlying38]
 dsimp only [Option.bind_some]
 rw [aL]
 show ((some Tryz.prog).bind _) = _
 rw [Option.bind_some, if_neg (by rw [hs]; simp)]
 rw [← Array.forIn_toList]
 have n1 : ("Major" ≠ "_") := by decide
 have n2 : ("Minor" ≠ "_") := by decide
 have n3 : ("Patch" ≠ "_") := by decide
 have pr : ∀ {α : Type} (x : α), aG Tryz.prog (pure x : Sem α) = some x := fun x => rfl
 simp only [List.forIn_cons,List.forIn_nil,aL,if_pos n1,if_pos n2,if_pos n3,jA,oq,WZ,Option.bind_some,q1,pr]
 cases h1 : (a == x)
 ·simp [pr, Option.bind_some]
 ·simp only [Bool.not_true,Bool.false_eq_true,if_false,pr,Option.bind_some,aL,if_pos n2,if_pos n3,oq,WZ,q2,q3,Bool.true_and]
  cases h2 : (b == y)
  ·simp [pr, aL]
  ·simp only [Bool.not_true,Bool.false_eq_true,if_false,pr,Option.bind_some,aL,if_pos n3,WZ,q3,Bool.true_and]
   cases h3 : (c == z) <;> simp [pr, aL]
theorem Py (n : Nat) (s t : ByteArray) (a b c x y z : Int) : aG Tryz.prog (Op.equalIn (n + 1 + 1 + 1) 54 (.agg #[.string s, .int .i64 a, .int .i64 b, .int .i64 c]) (.agg #[.string t, .int .i64 x, .int .i64 y, .int .i64 z])) = some (s == t && (a == x && (b == y && c == z))) := by
 have q1 := WY Tryz.underlying9 (n + 1) s t
 have q2 := HQ n a b c x y z
 have hs : Tryz.prog.stoodInHeld 54 = false := by kernel_rfl
 have jA : ∀ x y z u, aG Tryz.prog (part 9 #[x, y, z, u] 0) = some x := fun x y z u => by kernel_rfl
 have oq : ∀ x y z u, aG Tryz.prog (part 38 #[x, y, z, u] 1) = some (.agg #[y, z, u]) := fun x y z u => by kernel_rfl
 rw [Op.equalIn, aL, cr Tryz.underlying54]
 dsimp only [Option.bind_some]
 rw [aL]
 show ((some Tryz.prog).bind _) = _
 rw [Option.bind_some, if_neg (by rw [hs]; simp)]
 rw [← Array.forIn_toList]
 have n1 : ("Path" ≠ "_") := by decide
 have n2 : ("Version" ≠ "_") := by decide
 have pr : ∀ {α : Type} (x : α), aG Tryz.prog (pure x : Sem α) = some x := fun x => rfl
 simp only [List.forIn_cons,List.forIn_nil,aL,if_pos n1,if_pos n2,jA,oq,Option.bind_some,q1,pr]
 cases Z8 : (s == t)
 ·simp [pr, Option.bind_some]
 ·simp only [Bool.not_true,Bool.false_eq_true,if_false,pr,Option.bind_some,aL,if_pos n2,oq,q2,Bool.true_and]
  cases er : (a == x && (b == y && c == z)) <;> simp [pr, aL]
theorem W0 (u v : bB) : aG Tryz.prog (Op.equal 78 (.agg #[.int .i64 u.lo, .int .i64 u.hi]) (.agg #[.int .i64 v.lo, .int .i64 v.hi])) = some (decide (u = v)) := by
 rw [show Op.equal 78 = Op.equalIn (9998 + 1 + 1) 78 from rfl, Px]
 congr 1
 rw [Bool.eq_iff_iff]
 simp only [Bool.and_eq_true,beq_iff_eq,decide_eq_true_eq]
 exact ⟨fun h => bB.ext' h.1 h.2, fun h => by subst h; exact ⟨rfl, rfl⟩⟩
theorem Tj (u v : da) : aG Tryz.prog (Op.equal 38 (.agg #[.int .i64 u.mj, .int .i64 u.mn, .int .i64 u.pt]) (.agg #[.int .i64 v.mj, .int .i64 v.mn, .int .i64 v.pt])) = some (decide (u = v)) := by
 rw [show Op.equal 38 = Op.equalIn (9998 + 1 + 1) 38 from rfl, HQ]
 congr 1
 rw [Bool.eq_iff_iff]
 simp only [Bool.and_eq_true,beq_iff_eq,decide_eq_true_eq]
 exact ⟨fun h => da.ext' h.1 h.2.1 h.2.2, fun h => by subst h; exact ⟨rfl, rfl, rfl⟩⟩
def aN (s : fP) : Value := .agg #[.string s.path, .int .i64 s.aC.mj, .int .i64 s.aC.mn, .int .i64 s.aC.pt]
theorem Tl (u v : fP) : aG Tryz.prog (Op.equal 54 (aN u) (aN v)) = some (decide (u = v)) := by
 unfold aN
 rw [show Op.equal 54 = Op.equalIn (9997 + 1 + 1 + 1) 54 from rfl, Py]
 congr 1
 rw [Bool.eq_iff_iff]
 simp only [Bool.and_eq_true,beq_iff_eq,decide_eq_true_eq,iv]
 exact ⟨fun h => fP.ext' h.1 (da.ext' h.2.1 h.2.2.1 h.2.2.2), fun h => by subst h; exact ⟨rfl, rfl, rfl, rfl⟩⟩
theorem bJ (x y : Operand) (u v : bB) : aQ Tryz.prog (fC .neq 78 x y) (.agg [num u.lo, num u.hi]) (.agg [num v.lo, num v.hi]) = some (bl (!decide (u = v))) := by
 have : aG Tryz.prog (do eqGuard .neq 78 x y (.agg #[.int .i64 u.lo, .int .i64 u.hi]) (.agg #[.int .i64 v.lo, .int .i64 v.hi]); binOp .neq 78 (.agg #[.int .i64 u.lo, .int .i64 u.hi]) (.agg #[.int .i64 v.lo, .int .i64 v.hi])) = some (.bool (!decide (u = v))) := by
  have hg : aG Tryz.prog (eqGuard .neq 78 x y (.agg #[.int .i64 u.lo, .int .i64 u.hi]) (.agg #[.int .i64 v.lo, .int .i64 v.hi])) = some () := by kernel_rfl
  rw [aL, hg, Option.bind_some]
  have hb : ∀ u v : Array Value, binOp .neq 78 (.agg u) (.agg v) = (Op.equal 78 (.agg u) (.agg v) >>= fun r => Pure.pure (Value.bool !r)) := fun u v => rfl
  rw [hb, aL, W0]; rfl
 simp only [aQ,bA,ni,fC]
 rw [this]; rfl
theorem cQ (x y : Operand) (u v : da) : aQ Tryz.prog (fC .eql 38 x y) (.agg [num u.mj, num u.mn, num u.pt]) (.agg [num v.mj, num v.mn, num v.pt]) = some (bl (decide (u = v))) := by
 have : aG Tryz.prog (do eqGuard .eql 38 x y (.agg #[.int .i64 u.mj, .int .i64 u.mn, .int .i64 u.pt]) (.agg #[.int .i64 v.mj, .int .i64 v.mn, .int .i64 v.pt]); binOp .eql 38 (.agg #[.int .i64 u.mj, .int .i64 u.mn, .int .i64 u.pt]) (.agg #[.int .i64 v.mj, .int .i64 v.mn, .int .i64 v.pt])) = some (.bool (decide (u = v))) := by
  have hg : aG Tryz.prog (eqGuard .eql 38 x y (.agg #[.int .i64 u.mj, .int .i64 u.mn, .int .i64 u.pt]) (.agg #[.int .i64 v.mj, .int .i64 v.mn, .int .i64 v.pt])) = some () := by kernel_rfl
  rw [aL, hg, Option.bind_some]
  have hb : ∀ u v : Array Value, binOp .eql 38 (.agg u) (.agg v) = (Op.equal 38 (.agg u) (.agg v) >>= fun r => Pure.pure (Value.bool r)) := fun u v => rfl
  rw [hb, aL, Tj]; rfl
 simp only [aQ,bA,ni,fC]
 rw [this]; rfl
theorem eE (x y : Operand) (u v : da) : aQ Tryz.prog (fC .neq 38 x y) (.agg [num u.mj, num u.mn, num u.pt]) (.agg [num v.mj, num v.mn, num v.pt]) = some (bl (!decide (u = v))) := by
 have : aG Tryz.prog (do eqGuard .neq 38 x y (.agg #[.int .i64 u.mj, .int .i64 u.mn, .int .i64 u.pt]) (.agg #[.int .i64 v.mj, .int .i64 v.mn, .int .i64 v.pt]); binOp .neq 38 (.agg #[.int .i64 u.mj, .int .i64 u.mn, .int .i64 u.pt]) (.agg #[.int .i64 v.mj, .int .i64 v.mn, .int .i64 v.pt])) = some (.bool (!decide (u = v))) := by
  have hg : aG Tryz.prog (eqGuard .neq 38 x y (.agg #[.int .i64 u.mj, .int .i64 u.mn, .int .i64 u.pt]) (.agg #[.int .i64 v.mj, .int .i64 v.mn, .int .i64 v.pt])) = some () := by kernel_rfl
  rw [aL, hg, Option.bind_some]
  have hb : ∀ u v : Array Value, binOp .neq 38 (.agg u) (.agg v) = (Op.equal 38 (.agg u) (.agg v) >>= fun r => Pure.pure (Value.bool !r)) := fun u v => rfl
  rw [hb, aL, Tj]; rfl
 simp only [aQ,bA,ni,fC]
 rw [this]; rfl
theorem HR (x y : Operand) (u v : fP) : aQ Tryz.prog (fC .eql 54 x y) (.agg [str u.path, num u.aC.mj, num u.aC.mn, num u.aC.pt]) (.agg [str v.path, num v.aC.mj, num v.aC.mn, num v.aC.pt]) = some (bl (decide (u = v))) := by
 have : aG Tryz.prog (do eqGuard .eql 54 x y (aN u) (aN v); binOp .eql 54 (aN u) (aN v)) = some (.bool (decide (u = v))) := by
  have hg : aG Tryz.prog (eqGuard .eql 54 x y (aN u) (aN v)) = some () := by unfold aN; kernel_rfl
  rw [aL, hg, Option.bind_some]
  have hb : ∀ u v : Array Value, binOp .eql 54 (.agg u) (.agg v) = (Op.equal 54 (.agg u) (.agg v) >>= fun r => Pure.pure (Value.bool r)) := fun u v => rfl
  unfold aN
  rw [hb, aL]
  have := Tl u v
  unfold aN at this
  rw [this]; rfl
 unfold aN at this
 simp only [aQ,bA,ni,fC]
 rw [this]; rfl
end Go.Proofs.YtnfeacnbgbggfaaGreatDoor
end

section
namespace Go.Proofs.YtnfeacnbgbggfaaGreatDoor
open Go.Eng
open Nat renaming reduceAdd → zA, reduceLT → zB, reduceLeDiff → zC, reduceMul → zD, reduceEqDiff → zE, reduceSub → zF
variable [aH]
set_option maxHeartbeats 4000000
set_option maxRecDepth 100000
def da.pl (v : da) : Int := if v.ok = true then v.place else 0
def pf (p : Int) (x : bB) : Bool := decide (x.lo ≤ p) && decide (p < x.hi)
theorem B7 {α : Type} {q : α → Bool} {l : List α} {i : Nat} {x : α} (h : l[i]? = some x) (hq : q x = true) : l.any q = true := List.any_eq_true.2 ⟨x, List.mem_of_getElem? h, hq⟩
theorem any_none {α : Type} {q : α → Bool} {l : List α} (h : ∀ j < l.length, ∀ x, l[j]? = some x → q x = false) : l.any q = false := by
 rw [List.any_eq_false]
 intro x hx
 obtain ⟨j, hj⟩ := List.mem_iff_getElem?.1 hx
 rw [h j (List.getElem?_eq_some_iff.1 hj).1 x hj]; simp
theorem has_eq (s : List bB) (p : Int) : has s p = (decide (0 ≤ p) && decide (p < 1000000) && s.any (pf p)) := rfl
theorem iR {α : Type} {xs ys : List α} (hl : xs.length = ys.length) (h : ∀ j < xs.length, xs[j]? = ys[j]?) : xs = ys := by
 apply List.ext_getElem?
 intro j
 rcases Nat.lt_or_ge j xs.length with hj | hj
 ·exact h j hj
 ·rw [List.getElem?_eq_none hj, List.getElem?_eq_none (by omega)]
theorem kO (r : Rl) : ∃ r_, (fun w => w = br r.key) r_ ∧ aO Tryz.prog 47 [ag r] r_ := by
 refine ef tt_ok [] 8 [.cell 2 54] (fn := Tryz.f47) Tryz.func47 rfl Tryz.call47 ⟨rfl, rfl, by simp⟩ fun K hK => ?_
 simp only [ag,af]
 simp only [go_sem,reduceIte,zA,zB,zC,zD,zE,zF,reduceCtorEq]
 exact hK _ rfl
theorem Fc (v : da) : ∃ r_, (fun w => w = .bN [num v.pl, num (if v.ok = true then 0 else 2)]) r_ ∧ aO Tryz.prog 25 [aU v] r_ := by
 refine ef tt_ok [] 13 [.tmp 2, .tmp 3] (fn := Tryz.f25) Tryz.func25 rfl Tryz.call25 ⟨rfl, rfl, by simp⟩ fun K hK => ?_
 simp only [aU]
 simp only [go_sem,reduceIte,zA,zB,zC,zD,zE,zF,reduceCtorEq]
 refine cF (by have h := zu v; simp only [aU] at h; exact h) ?_
 rintro _ rfl
 simp only [go_sem,reduceIte,zA,zB,zC,zD,zE,zF,reduceCtorEq]
 refine aM (fun HS => ?_) (fun HS => ?_)
 ·have ho : v.ok = false := by simpa using HS
  have hp : v.pl = 0 := by unfold da.pl; rw [ho]; rfl
  simp only [go_sem,reduceIte,zA,zB,zC,zD,zE,zF,reduceCtorEq]
  refine hK _ ?_
  rw [hp, ho]
  rfl
 ·have ho : v.ok = true := by simpa using HS
  have hp : v.pl = v.place := if_pos ho
  obtain ⟨w1, w2, -, -⟩ := iQ ho
  simp only [w1,w2,go_sem,reduceIte,zA,zB,zC,zD,zE,zF,reduceCtorEq]
  refine hK _ ?_
  rw [hp, ho]
  rfl
theorem iS (r : Rl) : ∃ r_, (fun w => w = num (r.aC.pl)) r_ ∧ aO Tryz.prog 48 [ag r] r_ := by
 refine ef tt_ok [] 12 [.tmp 2] (fn := Tryz.f48) Tryz.func48 rfl Tryz.call48 ⟨rfl, rfl, by simp⟩ fun K hK => ?_
 simp only [ag,af]
 simp only [go_sem,reduceIte,zA,zB,zC,zD,zE,zF,reduceCtorEq]
 refine cF (by have h := Fc r.aC; simp only [aU] at h; exact h) ?_
 rintro _ rfl
 simp only [go_sem,reduceIte,zA,zB,zC,zD,zE,zF,reduceCtorEq]
 exact hK _ rfl
theorem K7 (p : Int) (x : bB) : ∃ r_, (fun w => w = bl (pf p x)) r_ ∧ aR Tryz.prog 81 [aj x, .ptr 0 0] ([.box [num p]]) r_ ([.box [num p]]) := by
 refine Gf tt_ok [] 14 [.tmp 3] (fn := Tryz.f81) Tryz.func81 rfl Tryz.call81 ⟨rfl, rfl, by simp⟩ fun K hK => ?_
 simp only [aj]
 simp only [go_sem,reduceIte,zA,zB,zC,zD,zE,zF,reduceCtorEq]
 refine aM (fun Tm => ?_) (fun Tm => ?_)
 ·simp only [go_sem,reduceIte,zA,zB,zC,zD,zE,zF,reduceCtorEq]
  refine hK _ _ ⟨congrArg bl ?_, rfl⟩
  unfold pf; simp_all <;> (intros; omega)
 ·simp only [go_sem,reduceIte,zA,zB,zC,zD,zE,zF,reduceCtorEq]
  refine hK _ _ ⟨congrArg bl ?_, rfl⟩
  unfold pf; simp_all <;> (intros; omega)
theorem Fe (p : Int) (s : List bB) (hl : s.length ≤ 1048576) : ∃ r_, (fun w => ∃ k : Int, w = num k ∧ decide (0 ≤ k) = s.any (pf p)) r_ ∧ aR Tryz.prog 115 [ak s, .fQ (.func 81) [] [.ptr 0 0]] ([.box [num p]]) r_ ([.box [num p]]) := by
 refine Gf tt_ok [] 19 [.tmp 4] (fn := Tryz.f115) Tryz.func115 rfl Tryz.call115 ⟨rfl, rfl, by simp⟩ fun K hK => ?_
 simp only [ak]
 simp only [List.length_map,go_sem,reduceIte,zA,zB,zC,zD,zE,zF,reduceCtorEq]
 refine bL tt_ok [] [8] 1 [0,1,7] (fun vs => ((s.length : Int) - Go.Eng.intOf (vs.headD .undef)).toNat) (fun vs => ∃ i : Nat, vs = [num i] ∧ i ≤ s.length ∧ ∀ j < i, ∀ x, s[j]? = some x → pf p x = false) (by omega) (by simp only [List.length_map,go_sem,reduceIte,zA,zB,zC,zD,zE,zF,reduceCtorEq]) (⟨0, rfl, Nat.zero_le _, fun j hj => absurd hj (Nat.not_lt_zero j)⟩) fun vs hI Z1 bW => ?_
 obtain ⟨i, rfl, hi, bh⟩ := hI
 simp only [List.length_map,go_sem,reduceIte,zA,zB,zC,zD,zE,zF,reduceCtorEq]
 refine aM (fun jG => ?_) (fun jG => ?_)
 ·have aD : i < s.length := by simpa using jG
  have hw := aB i (by omega)
  obtain ⟨x, hx⟩ : ∃ x, s[i]? = some x := ⟨_, List.getElem?_eq_getElem aD⟩
  simp only [hw,List.getElem?_map,hx,aj,List.length_map,go_sem,reduceIte,zA,zB,zC,zD,zE,zF,reduceCtorEq]
  refine cS (by have h := K7 p x; simp only [aj] at h; exact h) ?_
  rintro _ rfl
  simp only [hw,List.getElem?_map,hx,aj,List.length_map,go_sem,reduceIte,zA,zB,zC,zD,zE,zF,reduceCtorEq]
  refine aM (fun kM => ?_) (fun kM => ?_)
  ·have ay : decide (0 ≤ (i : Int)) = s.any (pf p) := by rw [B7 hx kM]; exact decide_eq_true (Int.natCast_nonneg i)
   simp only [hw,List.getElem?_map,hx,aj,List.length_map,go_sem,reduceIte,zA,zB,zC,zD,zE,zF,reduceCtorEq]
   exact hK _ _ ⟨⟨_, rfl, ay⟩, rfl⟩
  ·simp only [hw,List.getElem?_map,hx,aj,List.length_map,go_sem,reduceIte,zA,zB,zC,zD,zE,zF,reduceCtorEq]
   refine bW _ (dD (by omega) (by simp only [hw,List.getElem?_map,hx,aj,List.length_map,go_sem,reduceIte,zA,zB,zC,zD,zE,zF,reduceCtorEq]) ?_ ?_) <;> simp only [gQ,lk,reduceIte,zE]
   ·refine ⟨i + 1, rfl, aD, fun j hj => ?_⟩
    rcases Nat.lt_or_ge j i with h | h
    ·exact bh j h
    ·obtain rfl : j = i := by omega
     intro y hy
     rw [hx] at hy; cases hy; exact kM
   ·simp only [Go.Eng.intOf,List.headD_cons]; omega
 ·have c5 : ¬ i < s.length := by simpa using jG
  have ay : decide (0 ≤ (-1 : Int)) = s.any (pf p) := (any_none fun j hj => bh j (by omega)).symm ▸ rfl
  simp only [List.length_map,go_sem,reduceIte,zA,zB,zC,zD,zE,zF,reduceCtorEq]
  exact hK _ _ ⟨⟨_, rfl, ay⟩, rfl⟩
theorem Ff (p : Int) (s : List bB) (hl : s.length ≤ 1048576) : ∃ r_, (fun w => w = bl (s.any (pf p))) r_ ∧ aR Tryz.prog 80 [ak s, .fQ (.func 81) [] [.ptr 0 0]] ([.box [num p]]) r_ ([.box [num p]]) := by
 refine Gf tt_ok [] 9 [.tmp 4] (fn := Tryz.f80) Tryz.func80 rfl Tryz.call80 ⟨rfl, rfl, by simp⟩ fun K hK => ?_
 simp only [ak]
 simp only [go_sem,reduceIte,zA,zB,zC,zD,zE,zF,reduceCtorEq]
 refine cS (by have h := Fe p s hl; simp only [ak] at h; exact h) ?_
 rintro _ ⟨k, rfl, hk⟩
 simp only [go_sem,reduceIte,zA,zB,zC,zD,zE,zF,reduceCtorEq]
 exact hK _ _ ⟨congrArg bl hk, rfl⟩
theorem B8 (s : List bB) (p : Int) (hl : s.length ≤ 1048576) : ∃ r_, (fun w => w = bl (has s p)) r_ ∧ aO Tryz.prog 28 [ak s, num p] r_ := by
 refine ef tt_ok [] 16 [.tmp 4] (fn := Tryz.f28) Tryz.func28 rfl Tryz.call28 ⟨rfl, rfl, by simp⟩ fun K hK => ?_
 simp only [ak]
 simp only [go_sem,reduceIte,zA,zB,zC,zD,zE,zF,reduceCtorEq]
 refine aM (fun dX => ?_) (fun dX => ?_)
 ·simp only [go_sem,reduceIte,zA,zB,zC,zD,zE,zF,reduceCtorEq]
  refine aM (fun zt => ?_) (fun zt => ?_)
  ·simp only [go_sem,reduceIte,zA,zB,zC,zD,zE,zF,reduceCtorEq]
   refine cS (by have h := Ff p s hl; simp only [ak] at h; exact h) ?_
   rintro _ rfl
   simp only [go_sem,reduceIte,zA,zB,zC,zD,zE,zF,reduceCtorEq]
   refine hK _ (congrArg bl ?_)
   rw [has_eq]; simp_all <;> (intros; omega)
  ·simp only [go_sem,reduceIte,zA,zB,zC,zD,zE,zF,reduceCtorEq]
   refine hK _ (congrArg bl ?_)
   rw [has_eq]; simp_all <;> (intros; omega)
 ·simp only [go_sem,reduceIte,zA,zB,zC,zD,zE,zF,reduceCtorEq]
  refine hK _ (congrArg bl ?_)
  rw [has_eq]; simp_all <;> (intros; omega)
theorem tv (n : Int) : ∃ r_, (fun w => w = bl (gu n)) r_ ∧ aO Tryz.prog 121 [num n] r_ := by
 refine ef tt_ok [] 9 [.tmp 2] (fn := Tryz.f121) Tryz.func121 rfl Tryz.call121 ⟨rfl, rfl, by simp⟩ fun K hK => ?_
 simp only [go_sem,reduceIte,zA,zB,zC,zD,zE,zF,reduceCtorEq]
 refine aM (fun dX => ?_) (fun dX => ?_)
 ·simp only [go_sem,reduceIte,zA,zB,zC,zD,zE,zF,reduceCtorEq]
  exact hK _ (congrArg bl (by unfold gu; simp_all <;> (intros; omega)))
 ·simp only [go_sem,reduceIte,zA,zB,zC,zD,zE,zF,reduceCtorEq]
  exact hK _ (congrArg bl (by unfold gu; simp_all <;> (intros; omega)))
theorem Fg (v : da) : ∃ r_, (fun w => w = bl (v.ok)) r_ ∧ aO Tryz.prog 94 [aU v] r_ := by
 refine ef tt_ok [] 16 [.tmp 2] (fn := Tryz.f94) Tryz.func94 rfl Tryz.call94 ⟨rfl, rfl, by simp⟩ fun K hK => ?_
 simp only [aU]
 simp only [go_sem,reduceIte,zA,zB,zC,zD,zE,zF,reduceCtorEq]
 refine cF (tv _) ?_
 rintro _ rfl
 simp only [go_sem,reduceIte,zA,zB,zC,zD,zE,zF,reduceCtorEq]
 refine aM (fun rl => ?_) (fun rl => ?_)
 ·simp only [go_sem,reduceIte,zA,zB,zC,zD,zE,zF,reduceCtorEq]
  refine cF (tv _) ?_
  rintro _ rfl
  simp only [go_sem,reduceIte,zA,zB,zC,zD,zE,zF,reduceCtorEq]
  refine aM (fun vG => ?_) (fun vG => ?_)
  ·simp only [go_sem,reduceIte,zA,zB,zC,zD,zE,zF,reduceCtorEq]
   refine cF (tv _) ?_
   rintro _ rfl
   simp only [go_sem,reduceIte,zA,zB,zC,zD,zE,zF,reduceCtorEq]
   exact hK _ (congrArg bl (by unfold da.ok; simp_all))
  ·simp only [go_sem,reduceIte,zA,zB,zC,zD,zE,zF,reduceCtorEq]
   exact hK _ (congrArg bl (by unfold da.ok; simp_all))
 ·simp only [go_sem,reduceIte,zA,zB,zC,zD,zE,zF,reduceCtorEq]
  exact hK _ (congrArg bl (by unfold da.ok; simp_all))
theorem r7 (s t : List bB) (hl : s.length ≤ 1048576) : ∃ r_, (fun w => w = bl (decide (s = t))) r_ ∧ aO Tryz.prog 42 [ak s, ak t] r_ := by
 refine ef tt_ok [] 26 [.tmp 4] (fn := Tryz.f42) Tryz.func42 rfl Tryz.call42 ⟨rfl, rfl, by simp⟩ fun K hK => ?_
 simp only [ak]
 simp only [List.length_map,bJ,go_sem,reduceIte,zA,zB,zC,zD,zE,zF,reduceCtorEq]
 refine aM (fun cY => ?_) (fun cY => ?_)
 ·have ay : false = decide (s = t) := by
   refine (decide_eq_false fun e => ?_).symm
   subst e; simp at cY
  simp only [List.length_map,bJ,go_sem,reduceIte,zA,zB,zC,zD,zE,zF,reduceCtorEq]
  exact hK _ (congrArg bl ay)
 ·have iq : s.length = t.length := by have := cY; simp at this; omega
  simp only [List.length_map,bJ,go_sem,reduceIte,zA,zB,zC,zD,zE,zF,reduceCtorEq]
  refine bL tt_ok [] [5] 0 [0,1,10] (fun vs => ((s.length : Int) - Go.Eng.intOf (vs.headD .undef)).toNat) (fun vs => ∃ i : Nat, vs = [num i] ∧ i ≤ s.length ∧ ∀ j < i, s[j]? = t[j]?) (by omega) (by simp only [List.length_map,bJ,go_sem,reduceIte,zA,zB,zC,zD,zE,zF,reduceCtorEq]) (⟨0, rfl, Nat.zero_le _, fun j hj => absurd hj (Nat.not_lt_zero j)⟩) fun vs hI Z1 bW => ?_
  obtain ⟨i, rfl, hi, bh⟩ := hI
  simp only [List.length_map,bJ,go_sem,reduceIte,zA,zB,zC,zD,zE,zF,reduceCtorEq]
  refine aM (fun cX => ?_) (fun cX => ?_)
  ·have aD : i < s.length := by simpa using cX
   have hw := aB i (by omega)
   obtain ⟨x, hx⟩ : ∃ x, s[i]? = some x := ⟨_, List.getElem?_eq_getElem aD⟩
   obtain ⟨y, hy⟩ : ∃ y, t[i]? = some y := ⟨_, List.getElem?_eq_getElem (by omega)⟩
   simp only [hw,List.getElem?_map,hx,hy,aj,List.length_map,bJ,go_sem,reduceIte,zA,zB,zC,zD,zE,zF,reduceCtorEq]
   refine bI tt_ok aK [⟨.n, 0, [], [], []⟩, ⟨.n, 0, [], [], []⟩, ⟨.r, 0, [], [], []⟩, ⟨.r, 0, [], [], []⟩, ⟨.n, 0, [], [], []⟩, ⟨.n, 0, [], [], []⟩, ⟨.r, 0, [], [], []⟩, ⟨.r, 0, [], [], []⟩, ⟨.n, 0, [], [], []⟩] 0 (by kernel_rfl) ?_
   simp only [hw,List.getElem?_map,hx,hy,aj,List.length_map,bJ,go_sem,reduceIte,zA,zB,zC,zD,zE,zF,reduceCtorEq]
   refine aM (fun gU => ?_) (fun gU => ?_)
   ·have ay : false = decide (s = t) := by
     refine (decide_eq_false fun e => ?_).symm
     subst e; rw [hx] at hy; cases hy; simp at gU
    simp only [hw,List.getElem?_map,hx,hy,aj,List.length_map,bJ,go_sem,reduceIte,zA,zB,zC,zD,zE,zF,reduceCtorEq]
    exact hK _ (congrArg bl ay)
   ·simp only [hw,List.getElem?_map,hx,hy,aj,List.length_map,bJ,go_sem,reduceIte,zA,zB,zC,zD,zE,zF,reduceCtorEq]
    refine bW _ (dD (by omega) (by simp only [hw,List.getElem?_map,hx,hy,aj,List.length_map,bJ,go_sem,reduceIte,zA,zB,zC,zD,zE,zF,reduceCtorEq]) ?_ ?_) <;> simp only [gQ,lk,reduceIte,zE]
    ·refine ⟨i + 1, rfl, aD, fun j hj => ?_⟩
     rcases Nat.lt_or_ge j i with h | h
     ·exact bh j h
     ·obtain rfl : j = i := by omega
      rw [hx, hy]
      have := gU
      simp_all
    ·simp only [Go.Eng.intOf,List.headD_cons]; omega
  ·have c5 : ¬ i < s.length := by simpa using cX
   have ay : true = decide (s = t) := (decide_eq_true (iR iq fun j hj => bh j (by omega))).symm
   simp only [List.length_map,bJ,go_sem,reduceIte,zA,zB,zC,zD,zE,zF,reduceCtorEq]
   exact hK _ (congrArg bl ay)
theorem zv (s t : List bB) (hl : s.length ≤ 1048576) : ∃ r_, (fun w => w = bl (decide (s = t))) r_ ∧ aO Tryz.prog 157 [ak s, ak t] r_ := by
 refine ef tt_ok [] 26 [.tmp 4] (fn := Tryz.f157) Tryz.func157 rfl Tryz.call157 ⟨rfl, rfl, by simp⟩ fun K hK => ?_
 simp only [ak]
 simp only [List.length_map,bJ,go_sem,reduceIte,zA,zB,zC,zD,zE,zF,reduceCtorEq]
 refine aM (fun cY => ?_) (fun cY => ?_)
 ·have ay : false = decide (s = t) := by
   refine (decide_eq_false fun e => ?_).symm
   subst e; simp at cY
  simp only [List.length_map,bJ,go_sem,reduceIte,zA,zB,zC,zD,zE,zF,reduceCtorEq]
  exact hK _ (congrArg bl ay)
 ·have iq : s.length = t.length := by have := cY; simp at this; omega
  simp only [List.length_map,bJ,go_sem,reduceIte,zA,zB,zC,zD,zE,zF,reduceCtorEq]
  refine bL tt_ok [] [13] 0 [0,1,10,12] (fun vs => ((s.length : Int) - Go.Eng.intOf (vs.headD .undef)).toNat) (fun vs => ∃ i : Nat, vs = [num i] ∧ i ≤ s.length ∧ ∀ j < i, s[j]? = t[j]?) (by omega) (by simp only [List.length_map,bJ,go_sem,reduceIte,zA,zB,zC,zD,zE,zF,reduceCtorEq]) (⟨0, rfl, Nat.zero_le _, fun j hj => absurd hj (Nat.not_lt_zero j)⟩) fun vs hI Z1 bW => ?_
  obtain ⟨i, rfl, hi, bh⟩ := hI
  simp only [List.length_map,bJ,go_sem,reduceIte,zA,zB,zC,zD,zE,zF,reduceCtorEq]
  refine aM (fun cX => ?_) (fun cX => ?_)
  ·have aD : i < s.length := by simpa using cX
   have hw := aB i (by omega)
   obtain ⟨x, hx⟩ : ∃ x, s[i]? = some x := ⟨_, List.getElem?_eq_getElem aD⟩
   obtain ⟨y, hy⟩ : ∃ y, t[i]? = some y := ⟨_, List.getElem?_eq_getElem (by omega)⟩
   simp only [hw,List.getElem?_map,hx,hy,aj,List.length_map,bJ,go_sem,reduceIte,zA,zB,zC,zD,zE,zF,reduceCtorEq]
   refine bI tt_ok aK [⟨.n, 0, [], [], []⟩, ⟨.n, 0, [], [], []⟩, ⟨.r, 0, [], [], []⟩, ⟨.r, 0, [], [], []⟩, ⟨.n, 0, [], [], []⟩, ⟨.n, 0, [], [], []⟩, ⟨.r, 0, [], [], []⟩, ⟨.r, 0, [], [], []⟩, ⟨.n, 0, [], [], []⟩] 0 (by kernel_rfl) ?_
   simp only [hw,List.getElem?_map,hx,hy,aj,List.length_map,bJ,go_sem,reduceIte,zA,zB,zC,zD,zE,zF,reduceCtorEq]
   refine aM (fun lh => ?_) (fun lh => ?_)
   ·have ay : false = decide (s = t) := by
     refine (decide_eq_false fun e => ?_).symm
     subst e; rw [hx] at hy; cases hy; simp at lh
    simp only [hw,List.getElem?_map,hx,hy,aj,List.length_map,bJ,go_sem,reduceIte,zA,zB,zC,zD,zE,zF,reduceCtorEq]
    exact hK _ (congrArg bl ay)
   ·simp only [hw,List.getElem?_map,hx,hy,aj,List.length_map,bJ,go_sem,reduceIte,zA,zB,zC,zD,zE,zF,reduceCtorEq]
    refine bW _ (dD (by omega) (by simp only [hw,List.getElem?_map,hx,hy,aj,List.length_map,bJ,go_sem,reduceIte,zA,zB,zC,zD,zE,zF,reduceCtorEq]) ?_ ?_) <;> simp only [gQ,lk,reduceIte,zE]
    ·refine ⟨i + 1, rfl, aD, fun j hj => ?_⟩
     rcases Nat.lt_or_ge j i with h | h
     ·exact bh j h
     ·obtain rfl : j = i := by omega
      rw [hx, hy]
      have := lh
      simp_all
    ·simp only [Go.Eng.intOf,List.headD_cons]; omega
  ·have c5 : ¬ i < s.length := by simpa using cX
   have ay : true = decide (s = t) := (decide_eq_true (iR iq fun j hj => bh j (by omega))).symm
   simp only [List.length_map,bJ,go_sem,reduceIte,zA,zB,zC,zD,zE,zF,reduceCtorEq]
   exact hK _ (congrArg bl ay)
end Go.Proofs.YtnfeacnbgbggfaaGreatDoor
end
