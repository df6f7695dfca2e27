/-
  READINGS: what the reading of an argument (DataW.trod) says of its cells, for types made of truth values, integers, strings, slices, structures.
  READINGS, B: the abstract values that a reading gives.
  READINGS, C: the trees of the language.
  CONTRACTS: the types of an expression's node itself.
  CONTRACTS: the size of an expression.
  CONTRACTS: the reference's ExprSize.
  CONTRACTS: slices.EqualFunc on types and on fields.
-/
import Derived.Test.YtpjdfcigadnhcaaGreatDoorF1
import Derived.Test.YtpjdfcigadnhcaaGreatDoorRows
set_option linter.all false
section
namespace Go.Proofs.YtpjdfcigadnhcaaGreatDoor
open Go.Eng
variable [Glob]
section
variable {H : Type} {enc : TypeId × Value → H} {P : Program} {w : World} {sp : Nat → Bool} {held : Bool} {f : Nat} {T : TypeId} {cs : List Value} {d : DataW H} {p : List MemPlace}
theorem trod_bool (hT : P.underlying T = some .bool) (h : DataW.trod enc P w 0 sp held (f + 1) T cs = some (d, p)) : ∃ b, cs = [.bool b] ∧ d = .lit (.bool b) := by
 unfold DataW.trod at h
 rw [hT] at h
 split at h <;> simp_all
theorem trod_int {k : IntKind} (hT : P.underlying T = some (.int k)) (h : DataW.trod enc P w 0 sp held (f + 1) T cs = some (d, p)) : ∃ n, cs = [.int k n] ∧ d = .lit (.int k n) := by
 unfold DataW.trod at h
 rw [hT] at h
 split at h <;> simp_all
theorem trod_string (hT : P.underlying T = some .string) (h : DataW.trod enc P w 0 sp held (f + 1) T cs = some (d, p)) : ∃ s, cs = [.string s] ∧ d = .lit (.string s.data.toList) := by
 unfold DataW.trod at h
 rw [hT] at h
 split at h <;> simp_all
theorem mapM_get {α β : Type} {g : α → Option β} : ∀ {l : List α} {r : List β}, l.mapM g = some r → r.length = l.length ∧ ∀ (i : Nat) (b : β), r[i]? = some b → ∃ a : α, l[i]? = some a ∧ g a = some b
 | [], r, h => by simp at h; subst h; simp
 | a :: l, r, h => by
  rw [List.mapM_cons] at h
  cases h1 : g a with
  | none => rw [h1] at h; simp at h
  | some b =>
   rw [h1] at h
   cases h2 : l.mapM g with
   | none => rw [h2] at h; simp at h
   | some r' =>
    rw [h2] at h
    simp at h
    subst h
    obtain ⟨e1, e2⟩ := mapM_get h2
    refine ⟨by simp [e1], fun i b' hb => ?_⟩
    cases i with
    | zero => simp at hb; subst hb; exact ⟨a, rfl, h1⟩
    | succ i => simpa using e2 i b' (by simpa using hb)
theorem trod_slice {T' : TypeId} (hT : P.underlying T = some (.slice T')) (h : DataW.trod enc P w 0 sp held (f + 1) T cs = some (d, p)) :
  (cs = [.slice none 0 0] ∧ d = .nil) ∨ ∃ (a : Addr) (cap : Nat) (elems spare : List (DataW H)), cs = [.slice (some a) elems.length cap] ∧ d = .slice elems spare ∧ elems.length ≤ cap ∧
   ∀ (i : Nat) (e : DataW H), elems[i]? = some e → ∃ cs' p', w.cells? 0 (a.add (i * P.cellsOf T')) (P.cellsOf T') = some cs' ∧ DataW.trod enc P w 0 sp held f T' cs' = some (e, p') := by
 unfold DataW.trod at h
 rw [hT] at h
 split at h <;> try (simp at *; done)
 ·rename_i e' h1 h2
  simp at h
  exact .inl ⟨rfl, h.1.symm⟩
 ·rename_i e' a len cap h1
  obtain rfl : T' = e' := by simpa using h1
  refine .inr ?_
  dsimp only at h
  split at h
  ·rename_i hb
   cases h3 : (List.range len).mapM (fun i => (w.cells? 0 (a.add (i * P.cellsOf T')) (P.cellsOf T')).bind (DataW.trod enc P w 0 sp held f T')) with
   | none => rw [h3] at h; simp at h
   | some elems =>
    rw [h3] at h
    obtain ⟨e1, e2⟩ := mapM_get h3
    simp only [Option.bind_some,Option.map_eq_some_iff] at h
    obtain ⟨rest, -, h5⟩ := h
    simp only [Prod.mk.injEq] at h5
    have hl : elems.length = len := by simpa using e1
    refine ⟨a, cap, elems.map (·.1), rest.map (·.1), by rw [List.length_map, hl], h5.1.symm, by rw [List.length_map, hl]; exact hb.2.1, fun i e he => ?_⟩
    rw [List.getElem?_map, Option.map_eq_some_iff] at he
    obtain ⟨x, hx, rfl⟩ := he
    obtain ⟨j, hj, hg⟩ := e2 i x hx
    have hij : j = i := by
     obtain ⟨hlt, hv⟩ := List.getElem?_eq_some_iff.1 hj
     simpa using hv.symm
    subst hij
    rw [Option.bind_eq_some_iff] at hg
    obtain ⟨cs', hc, ht⟩ := hg
    exact ⟨cs', x.2, hc, ht⟩
  ·simp at h
theorem trod_struct {fs : Array Field} (hT : P.underlying T = some (.struct fs)) (h : DataW.trod enc P w 0 sp held (f + 1) T cs = some (d, p)) :
  cs.length = P.cellsOf T ∧ ∃ parts : List (DataW H), d = .agg parts ∧ parts.length = fs.size ∧
   ∀ (i : Nat) (e : DataW H), parts[i]? = some e → ∃ (fd : Field) (p' : List MemPlace), fs[i]? = some fd ∧ DataW.trod enc P w 0 sp held f fd.type ((cs.drop fd.offset).take (P.cellsOf fd.type)) = some (e, p') := by
 unfold DataW.trod at h
 rw [hT] at h
 split at h <;> try (simp at *; done)
 ·rename_i fs' h1
  obtain rfl : fs = fs' := by simpa using h1
  split at h
  ·rename_i hl
   refine ⟨hl, ?_⟩
   rw [Option.map_eq_some_iff] at h
   obtain ⟨xs, h3, h4⟩ := h
   simp only [Prod.mk.injEq] at h4
   obtain ⟨e1, e2⟩ := mapM_get h3
   refine ⟨xs.map (·.1), h4.1.symm, by rw [List.length_map, e1]; simp, fun i e he => ?_⟩
   rw [List.getElem?_map, Option.map_eq_some_iff] at he
   obtain ⟨x, hx, rfl⟩ := he
   obtain ⟨fd, hj, hg⟩ := e2 i x hx
   exact ⟨fd, x.2, by simpa using hj, hg⟩
  ·simp at h
end
end Go.Proofs.YtpjdfcigadnhcaaGreatDoor
end

section
namespace Go.Proofs.YtpjdfcigadnhcaaGreatDoor
open Go.Eng
variable [Glob]
def Rd (F : Addr → Option Value) (hg : Gl F) (vs : List V) (cs : List Value) : Prop := RepL ⟨F, fun _ _ => none, hg⟩ vs cs ∧ ∀ c ∈ cs, c.oneCell' = true
section
variable {F : Addr → Option Value} {hg : Gl F}
theorem rd_one {v : Value} (h : v.oneCell' = true) : Rd F hg [.sc v] [v] := ⟨.cons (.sc _ _) (.nil _), by simpa using h⟩
theorem rd_step {a b : List V} {cs : List Value} {off n : Nat} (h1 : Rd F hg a ((cs.drop off).take n)) (h2 : Rd F hg b (cs.drop (off + n))) : Rd F hg (a ++ b) (cs.drop off) := by
 have e : cs.drop off = (cs.drop off).take n ++ cs.drop (off + n) := by rw [← List.drop_drop, List.take_append_drop]
 rw [e]
 refine ⟨.append h1.1 h2.1, fun c hc => ?_⟩
 rcases List.mem_append.1 hc with hc | hc
 ·exact h1.2 c hc
 ·exact h2.2 c hc
theorem rd_end {cs : List Value} {off : Nat} (h : cs.length = off) : Rd F hg [] (cs.drop off) := by
 rw [List.drop_eq_nil_of_le (by omega)]
 exact ⟨.nil _, by simp⟩
theorem addr_add_add (a : Addr) (x y : Nat) : (a.add x).add y = a.add (x + y) := by
 unfold Addr.add
 by_cases hx : x = 0
 ·subst hx; simp
 ·by_cases hy : y = 0
  ·subst hy; simp
  ·simp [hx, hy, Nat.add_assoc]
theorem choose_list {α β : Type} {R : Nat → β → α → Prop} : ∀ {es : List β}, (∀ (i : Nat) (e : β), es[i]? = some e → ∃ a : α, R i e a) → ∃ l : List α, l.length = es.length ∧ ∀ (i : Nat) (e : β) (a : α), es[i]? = some e → l[i]? = some a → R i e a := by
 intro es
 induction es generalizing R with
 | nil => intro _; exact ⟨[], rfl, by simp⟩
 | cons e r ih =>
  intro h
  obtain ⟨a, ha⟩ := h 0 e rfl
  obtain ⟨l, hl, hr⟩ := ih (R := fun i => R (i + 1)) fun i e he => h (i + 1) e (by simpa using he)
  refine ⟨a :: l, by simp [hl], fun i e' a' he ha' => ?_⟩
  cases i with
  | zero => simp at he ha'; subst he; subst ha'; exact ha
  | succ i => exact hr i e' a' (by simpa using he) (by simpa using ha')
theorem sum_le_bulk {H α : Type} {g : α → Nat} : ∀ {l : List α} {es : List (DataW H)}, l.length = es.length → (∀ (i : Nat) (e : DataW H) (a : α), es[i]? = some e → l[i]? = some a → g a ≤ Rows.uptoBulk e) → sumBy g l ≤ Rows.uptoBulkAll es
 | [], [], _, _ => by simp [sumBy]
 | a :: l, e :: es, hl, h => by
  have h1 := h 0 e a rfl rfl
  have h2 := sum_le_bulk (l := l) (es := es) (g := g) (by simpa using hl) fun i e a he ha => h (i + 1) e a (by simpa using he) (by simpa using ha)
  simp only [sumBy,Rows.uptoBulkAll]; omega
 | [], _ :: _, hl, _ => by simp at hl
 | _ :: _, [], hl, _ => by simp at hl
theorem rd_slice {H : Type} {enc : TypeId × Value → H} {P : Program} {w : World} {sp : Nat → Bool} {held : Bool} {f : Nat} {T T' : TypeId} {α : Type} {row : α → V} {g : α → Nat} {n : Nat}
  (hF : F = w.cell?) (hT : P.underlying T = some (.slice T')) (hn : P.cellsOf T' = n)
  (hr : ∀ {cs : List Value} {d : DataW H} {p : List MemPlace}, DataW.trod enc P w 0 sp held f T' cs = some (d, p) → ∃ a : α, Rd F hg (row a).cells cs ∧ g a ≤ Rows.uptoBulk d)
  {cs : List Value} {d : DataW H} {p : List MemPlace} (h : DataW.trod enc P w 0 sp held (f + 1) T cs = some (d, p)) :
  ∃ l : List α, Rd F hg [.slice (l.map row)] cs ∧ sumBy g l + 1 ≤ Rows.uptoBulk d := by
 rcases trod_slice hT h with ⟨rfl, rfl⟩ | ⟨a, cap, elems, spare, rfl, rfl, hc, he⟩
 ·exact ⟨[], ⟨.cons (.slice _ [] none 0 0 default (fun _ _ => default) (by simp) (by simp) (by simp) (by simp) (by simp) (by simp)) (.nil _), by simp [Value.oneCell']⟩, by simp [sumBy, Rows.uptoBulk]⟩
 ·obtain ⟨l, hl, hR⟩ := choose_list (es := elems) (R := fun i e (x : α) => ∃ cs' : List Value, w.cells? 0 (a.add (i * P.cellsOf T')) (P.cellsOf T') = some cs' ∧ Rd F hg (row x).cells cs' ∧ g x ≤ Rows.uptoBulk e) fun i e hi => by
   obtain ⟨cs', p', h1, h2⟩ := he i e hi
   obtain ⟨x, h3, h4⟩ := hr h2
   exact ⟨x, cs', h1, h3, h4⟩
  rw [hn] at hR
  have key : ∀ (i : Nat) (x : α), l[i]? = some x → ∃ cs' : List Value, Rd F hg (row x).cells cs' ∧ (row x).cells.length = n ∧ ∀ (j : Nat) (c : Value), cs'[j]? = some c → F (a.add (i * n + j)) = some c := fun i x hx => by
   obtain ⟨e, hei⟩ : ∃ e, elems[i]? = some e := ⟨_, List.getElem?_eq_getElem (by rw [← hl]; exact (List.getElem?_eq_some_iff.1 hx).1)⟩
   obtain ⟨cs', h1, h2, -⟩ := hR i e x hei hx
   unfold World.cells? at h1
   rw [if_pos (Nat.zero_le _)] at h1
   obtain ⟨e1, e2⟩ := mapM_get h1
   refine ⟨cs', h2, by rw [h2.1.1, e1]; simp, fun j c hj => ?_⟩
   obtain ⟨k, hk, hc'⟩ := e2 j c hj
   have hkj : k = j := by
    obtain ⟨hlt, hv⟩ := List.getElem?_eq_some_iff.1 hk
    simpa using hv.symm
   subst hkj
   rw [addr_add_add] at hc'
   rw [hF]; exact hc'
  have cell : ∀ (i : Nat) (r : V) (j : Nat) (c : V), (l.map row)[i]? = some r → r.cells[j]? = some c → ∃ x, F (a.add (i * n + j)) = some x ∧ x.oneCell' = true ∧ Rep ⟨F, fun _ _ => none, hg⟩ c x := fun i r j c hi hj => by
   rw [List.getElem?_map, Option.map_eq_some_iff] at hi
   obtain ⟨x, hx, rfl⟩ := hi
   obtain ⟨cs', h2, -, h3⟩ := key i x hx
   obtain ⟨y, hy, hrep⟩ := h2.1.get hj
   exact ⟨y, h3 j y hy, h2.2 y (List.mem_of_getElem? hy), hrep⟩
  refine ⟨l, ⟨.cons ?_ (.nil _), by simp [Value.oneCell']⟩, ?_⟩
  ·have := Rep.slice ⟨F, fun _ _ => none, hg⟩ (l.map row) (some a) cap n a (fun i j => (F (a.add (i * n + j))).getD default) (fun _ => rfl) (by rw [List.length_map, hl]; exact hc)
    (fun i r hi => by
     rw [List.getElem?_map, Option.map_eq_some_iff] at hi
     obtain ⟨x, hx, rfl⟩ := hi
     obtain ⟨_, -, h, -⟩ := key i x hx
     exact h)
    (fun i r j c hi hj => by obtain ⟨x, h, -, -⟩ := cell i r j c hi hj; show F _ = some ((F _).getD _); rw [h]; rfl)
    (fun i r j c hi hj => by obtain ⟨x, h, h', -⟩ := cell i r j c hi hj; show Value.oneCell' ((F _).getD _) = true; rw [h]; exact h')
    (fun i r j c hi hj => by obtain ⟨x, h, -, h'⟩ := cell i r j c hi hj; show Rep _ c ((F _).getD _); rw [h]; exact h')
   rwa [List.length_map, hl] at this
  ·have := sum_le_bulk (g := g) hl fun i e x he hx => by obtain ⟨_, -, -, h⟩ := hR i e x he hx; exact h
   simp only [Rows.uptoBulk]; omega
end
def PartsE {H : Type} (enc : TypeId × Value → H) (P : Program) (w : World) (sp : Nat → Bool) (held : Bool) (f : Nat) (cs : List Value) : List Field → (List (DataW H) → Prop) → Prop
 | [], K => K []
 | fd :: r, K => ∃ (e : DataW H) (p : List MemPlace), DataW.trod enc P w 0 sp held f fd.type ((cs.drop fd.offset).take (P.cellsOf fd.type)) = some (e, p) ∧ PartsE enc P w sp held f cs r fun es => K (e :: es)
theorem partsE_of {H : Type} {enc : TypeId × Value → H} {P : Program} {w : World} {sp : Nat → Bool} {held : Bool} {f : Nat} {cs : List Value} : ∀ {fs : List Field} {K : List (DataW H) → Prop} {es : List (DataW H)}, es.length = fs.length →
  (∀ (i : Nat) (e : DataW H), es[i]? = some e → ∃ (fd : Field) (p' : List MemPlace), fs[i]? = some fd ∧ DataW.trod enc P w 0 sp held f fd.type ((cs.drop fd.offset).take (P.cellsOf fd.type)) = some (e, p')) → K es → PartsE enc P w sp held f cs fs K
 | [], K, [], _, _, hK => hK
 | fd :: r, K, e :: es, hl, h, hK => by
  obtain ⟨fd', p', h1, h2⟩ := h 0 e rfl
  obtain rfl : fd = fd' := by simpa using h1
  exact ⟨e, p', h2, partsE_of (es := es) (by simpa using hl) (fun i e he => by simpa using h (i + 1) e (by simpa using he)) hK⟩
 | [], _, _ :: _, hl, _, _ => by simp at hl
 | _ :: _, _, [], hl, _, _ => by simp at hl
theorem trod_parts {H : Type} {enc : TypeId × Value → H} {P : Program} {w : World} {sp : Nat → Bool} {held : Bool} {f : Nat} {T : TypeId} {cs : List Value} {d : DataW H} {p : List MemPlace} {fs : Array Field}
  (hT : P.underlying T = some (.struct fs)) (h : DataW.trod enc P w 0 sp held (f + 1) T cs = some (d, p)) : cs.length = P.cellsOf T ∧ PartsE enc P w sp held f cs fs.toList fun es => d = .agg es := by
 obtain ⟨h1, parts, h2, h3, h4⟩ := trod_struct hT h
 exact ⟨h1, partsE_of (by simpa using h3) (fun i e he => by simpa using h4 i e he) h2⟩
end Go.Proofs.YtpjdfcigadnhcaaGreatDoor
end

section
namespace Go.Proofs.YtpjdfcigadnhcaaGreatDoor
open Go.Eng
variable [Glob]
theorem c3 : Tryz.prog.cellsOf 3 = 1 := by kernel_rfl
theorem c4 : Tryz.prog.cellsOf 4 = 1 := by kernel_rfl
theorem c9 : Tryz.prog.cellsOf 9 = 1 := by kernel_rfl
theorem c22 : Tryz.prog.cellsOf 22 = 1 := by kernel_rfl
theorem c23 : Tryz.prog.cellsOf 23 = 1 := by kernel_rfl
theorem c25 : Tryz.prog.cellsOf 25 = 5 := by kernel_rfl
theorem c86 : Tryz.prog.cellsOf 86 = 7 := by kernel_rfl
section
variable {F : Addr → Option Value} {hg : Gl F} {H : Type} {enc : TypeId × Value → H} {w : World} {sp : Nat → Bool} {held : Bool} {f : Nat} {cs : List Value} {d : DataW H} {p : List MemPlace}
theorem rd_last {a : List V} {cs : List Value} {off n : Nat} (h1 : Rd F hg a ((cs.drop off).take n)) (h : cs.length = off + n) : Rd F hg a (cs.drop off) := by
 rwa [List.take_of_length_le (by simp; omega)] at h1
theorem rd_num (h : DataW.trod enc Tryz.prog w 0 sp held f 3 cs = some (d, p)) : ∃ n : Int, Rd F hg [num n] cs := by
 cases f with
 | zero => simp [DataW.trod] at h
 | succ f => obtain ⟨n, rfl, -⟩ := trod_int Tryz.underlying3 h; exact ⟨n, rd_one rfl⟩
theorem rd_str (h : DataW.trod enc Tryz.prog w 0 sp held f 9 cs = some (d, p)) : ∃ s : ByteArray, Rd F hg [str s] cs ∧ s.size + 1 ≤ Rows.uptoBulk d := by
 cases f with
 | zero => simp [DataW.trod] at h
 | succ f =>
  obtain ⟨n, rfl, rfl⟩ := trod_string Tryz.underlying9 h
  exact ⟨n, rd_one rfl, by simp only [Rows.uptoBulk,Array.length_toList]; exact Nat.le_refl _⟩
theorem rd_bl (h : DataW.trod enc Tryz.prog w 0 sp held f 4 cs = some (d, p)) : ∃ b : Bool, Rd F hg [bl b] cs := by
 cases f with
 | zero => simp [DataW.trod] at h
 | succ f => obtain ⟨n, rfl, -⟩ := trod_bool Tryz.underlying4 h; exact ⟨n, rd_one rfl⟩
theorem rd_sl {T T' : TypeId} {α : Type} {row : α → V} {g : α → Nat} {n : Nat} (hF : F = w.cell?) (hT : Tryz.prog.underlying T = some (.slice T')) (hn : Tryz.prog.cellsOf T' = n)
  (hr : ∀ f', f' < f → ∀ {cs : List Value} {d : DataW H} {p : List MemPlace}, DataW.trod enc Tryz.prog w 0 sp held f' T' cs = some (d, p) → ∃ a : α, Rd F hg (row a).cells cs ∧ g a ≤ Rows.uptoBulk d)
  (h : DataW.trod enc Tryz.prog w 0 sp held f T cs = some (d, p)) : ∃ l : List α, Rd F hg [.slice (l.map row)] cs ∧ sumBy g l + 1 ≤ Rows.uptoBulk d := by
 cases f with
 | zero => simp [DataW.trod] at h
 | succ f => exact rd_slice hF hT hn (fun h => hr f (Nat.lt_succ_self f) h) h
theorem rd_ty (hF : F = w.cell?) : ∀ (f : Nat) {cs : List Value} {d : DataW H} {p : List MemPlace}, DataW.trod enc Tryz.prog w 0 sp held f 25 cs = some (d, p) → ∃ t : Ty, Rd F hg (encTy t).cells cs ∧ t.wt ≤ Rows.uptoBulk d := by
 intro f
 induction f using Nat.strongRecOn with
 | ind f ih =>
  intro cs d p h
  cases f with
  | zero => simp [DataW.trod] at h
  | succ f =>
   obtain ⟨hl, d0, p0, h0, d1, p1, h1, d2, p2, h2, d3, p3, h3, d4, p4, h4, rfl⟩ := trod_parts Tryz.underlying25 h
   simp only [c3,c9,c22,c23] at h0 h1 h2 h3 h4
   rw [c25] at hl
   obtain ⟨k, hk⟩ := rd_num (F := F) (hg := hg) h0
   obtain ⟨m, hm, s1⟩ := rd_str (F := F) (hg := hg) h1
   obtain ⟨n, hn, s2⟩ := rd_str (F := F) (hg := hg) h2
   obtain ⟨ts, hts, bts⟩ := rd_sl (F := F) (hg := hg) hF Tryz.underlying22 c25 (fun f' hf' {cs d p} h => ih f' (by omega) h) h3
   obtain ⟨fs, hfs, bfs⟩ := rd_sl (F := F) (hg := hg) (α := Fd) (row := encFd) (g := Fd.wt) hF Tryz.underlying23 c86 (fun f' hf' {cs d p} h => by
    cases f' with
    | zero => simp [DataW.trod] at h
    | succ f' =>
     obtain ⟨hl, d0, p0, h0, d1, p1, h1, d2, p2, h2, rfl⟩ := trod_parts Tryz.underlying86 h
     simp only [c4,c9,c25] at h0 h1 h2
     rw [c86] at hl
     obtain ⟨n, hn, s0⟩ := rd_str (F := F) (hg := hg) h0
     obtain ⟨t, ht, bt⟩ := ih f' (by omega) h1
     obtain ⟨b, hb⟩ := rd_bl (F := F) (hg := hg) h2
     rw [encTy_eq] at ht
     refine ⟨.mk n t b, ?_, ?_⟩
     ·rw [encFd_eq]
      show Rd F hg ([str n] ++ tyCells t ++ [bl b]) (cs.drop 0)
      rw [List.append_assoc]
      exact rd_step hn (rd_step ht (rd_last hb hl))
     ·rw [Fd.wt_eq]; simp only [Rows.uptoBulk,Rows.uptoBulkAll,Fd.ty,Fd.name]; omega) h4
   refine ⟨.mk k m n ts fs, ?_, ?_⟩
   ·rw [encTy_eq]
    simp only [tyCells,Ty.kind,Ty.mod,Ty.name,Ty.args,Ty.flds,encTys_map,encFds_map]
    exact rd_step (off := 0) hk (rd_step hm (rd_step hn (rd_step hts (rd_step hfs (rd_end hl)))))
   ·simp only [Rows.uptoBulk,Rows.uptoBulkAll,Ty.wt,wtTys_sum,wtFds_sum]; omega
end
end Go.Proofs.YtpjdfcigadnhcaaGreatDoor
end

section
namespace Go.Proofs.YtpjdfcigadnhcaaGreatDoor
open Go.Eng
variable [Glob]


end Go.Proofs.YtpjdfcigadnhcaaGreatDoor
end

section
namespace Go.Proofs.YtpjdfcigadnhcaaGreatDoor
open Go.Eng
variable [Glob]


end Go.Proofs.YtpjdfcigadnhcaaGreatDoor
end

section
namespace Go.Proofs.YtpjdfcigadnhcaaGreatDoor
open Go.Eng
variable [Glob]
end Go.Proofs.YtpjdfcigadnhcaaGreatDoor
end

section
namespace Go.Proofs.YtpjdfcigadnhcaaGreatDoor
open Go.Eng
variable [Glob]


end Go.Proofs.YtpjdfcigadnhcaaGreatDoor
end
