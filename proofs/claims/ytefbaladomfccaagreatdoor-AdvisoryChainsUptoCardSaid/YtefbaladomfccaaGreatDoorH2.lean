/-
  READINGS: what the reading of an argument (DataW.trod) says of its cells, for types made of truth values, integers, strings, slices, structures.
  READINGS, B: the abstract values that a reading gives.
  THE DATA of types, and the abstract values that stand for them (law27).
  WEIGHTS: trees with their strings.
  PLAIN LAWS of chapter 32: sets of places, releases, what roots reach, canonical bytes. No program in sight.
  ENCODINGS of chapter 32's data.
  CONTRACTS: bytes of names, exactly.
  CONTRACTS: versions, places.
  CONTRACTS: comparing.
  EQUALITY of structs of chapter 32: spans, numbers, what is selected.
  CONTRACTS: places, sets of places.
-/
import Derived.Test.YtefbaladomfccaaGreatDoorH1
import Derived.Test.YtefbaladomfccaaGreatDoorRows
import Derived.IntWalk
import Derived.Sort.Walk0
set_option linter.all false
section
namespace Go.Proofs.YtefbaladomfccaaGreatDoor
open Go.Eng
variable [Glob]
section
variable {H : Type} {enc : TypeId × Value → H} {P : Program} {w : World} {sp : Nat → Bool} {held : Bool} {f : Nat} {T : TypeId} {cs : List Value} {d : DataW H} {p : List MemPlace}
theorem trod_bool (hT : P.underlying T = some .bool) (h : DataW.trod enc P w 0 sp held (f + 1) T cs = some (d, p)) : ∃ b, cs = [.bool b] ∧ d = .lit (.bool b) := by
 unfold DataW.trod at h
 rw [hT] at h
 split at h <;> simp_all
theorem trod_int {k : IntKind} (hT : P.underlying T = some (.int k)) (h : DataW.trod enc P w 0 sp held (f + 1) T cs = some (d, p)) : ∃ n, cs = [.int k n] ∧ d = .lit (.int k n) := by
 unfold DataW.trod at h
 rw [hT] at h
 split at h <;> simp_all
theorem trod_string (hT : P.underlying T = some .string) (h : DataW.trod enc P w 0 sp held (f + 1) T cs = some (d, p)) : ∃ s, cs = [.string s] ∧ d = .lit (.string s.data.toList) := by
 unfold DataW.trod at h
 rw [hT] at h
 split at h <;> simp_all
theorem mapM_get {α β : Type} {g : α → Option β} : ∀ {l : List α} {r : List β}, l.mapM g = some r → r.length = l.length ∧ ∀ (i : Nat) (b : β), r[i]? = some b → ∃ a : α, l[i]? = some a ∧ g a = some b
 | [], r, h => by simp at h; subst h; simp
 | a :: l, r, h => by
  rw [List.mapM_cons] at h
  cases h1 : g a with
  | none => rw [h1] at h; simp at h
  | some b =>
   rw [h1] at h
   cases h2 : l.mapM g with
   | none => rw [h2] at h; simp at h
   | some r' =>
    rw [h2] at h
    simp at h
    subst h
    obtain ⟨e1, e2⟩ := mapM_get h2
    refine ⟨by simp [e1], fun i b' hb => ?_⟩
    cases i with
    | zero => simp at hb; subst hb; exact ⟨a, rfl, h1⟩
    | succ i => simpa using e2 i b' (by simpa using hb)
theorem trod_slice {T' : TypeId} (hT : P.underlying T = some (.slice T')) (h : DataW.trod enc P w 0 sp held (f + 1) T cs = some (d, p)) :
  (cs = [.slice none 0 0] ∧ d = .nil) ∨ ∃ (a : Addr) (cap : Nat) (elems spare : List (DataW H)), cs = [.slice (some a) elems.length cap] ∧ d = .slice elems spare ∧ elems.length ≤ cap ∧
   ∀ (i : Nat) (e : DataW H), elems[i]? = some e → ∃ cs' p', w.cells? 0 (a.add (i * P.cellsOf T')) (P.cellsOf T') = some cs' ∧ DataW.trod enc P w 0 sp held f T' cs' = some (e, p') := by
 unfold DataW.trod at h
 rw [hT] at h
 split at h <;> try (simp at *; done)
 ·rename_i e' h1 h2
  simp at h
  exact .inl ⟨rfl, h.1.symm⟩
 ·rename_i e' a len cap h1
  obtain rfl : T' = e' := by simpa using h1
  refine .inr ?_
  dsimp only at h
  split at h
  ·rename_i hb
   cases h3 : (List.range len).mapM (fun i => (w.cells? 0 (a.add (i * P.cellsOf T')) (P.cellsOf T')).bind (DataW.trod enc P w 0 sp held f T')) with
   | none => rw [h3] at h; simp at h
   | some elems =>
    rw [h3] at h
    obtain ⟨e1, e2⟩ := mapM_get h3
    simp only [Option.bind_some,Option.map_eq_some_iff] at h
    obtain ⟨rest, -, h5⟩ := h
    simp only [Prod.mk.injEq] at h5
    have hl : elems.length = len := by simpa using e1
    refine ⟨a, cap, elems.map (·.1), rest.map (·.1), by rw [List.length_map, hl], h5.1.symm, by rw [List.length_map, hl]; exact hb.2.1, fun i e he => ?_⟩
    rw [List.getElem?_map, Option.map_eq_some_iff] at he
    obtain ⟨x, hx, rfl⟩ := he
    obtain ⟨j, hj, hg⟩ := e2 i x hx
    have hij : j = i := by
     obtain ⟨hlt, hv⟩ := List.getElem?_eq_some_iff.1 hj
     simpa using hv.symm
    subst hij
    rw [Option.bind_eq_some_iff] at hg
    obtain ⟨cs', hc, ht⟩ := hg
    exact ⟨cs', x.2, hc, ht⟩
  ·simp at h
theorem trod_struct {fs : Array Field} (hT : P.underlying T = some (.struct fs)) (h : DataW.trod enc P w 0 sp held (f + 1) T cs = some (d, p)) :
  cs.length = P.cellsOf T ∧ ∃ parts : List (DataW H), d = .agg parts ∧ parts.length = fs.size ∧
   ∀ (i : Nat) (e : DataW H), parts[i]? = some e → ∃ (fd : Field) (p' : List MemPlace), fs[i]? = some fd ∧ DataW.trod enc P w 0 sp held f fd.type ((cs.drop fd.offset).take (P.cellsOf fd.type)) = some (e, p') := by
 unfold DataW.trod at h
 rw [hT] at h
 split at h <;> try (simp at *; done)
 ·rename_i fs' h1
  obtain rfl : fs = fs' := by simpa using h1
  split at h
  ·rename_i hl
   refine ⟨hl, ?_⟩
   rw [Option.map_eq_some_iff] at h
   obtain ⟨xs, h3, h4⟩ := h
   simp only [Prod.mk.injEq] at h4
   obtain ⟨e1, e2⟩ := mapM_get h3
   refine ⟨xs.map (·.1), h4.1.symm, by rw [List.length_map, e1]; simp, fun i e he => ?_⟩
   rw [List.getElem?_map, Option.map_eq_some_iff] at he
   obtain ⟨x, hx, rfl⟩ := he
   obtain ⟨fd, hj, hg⟩ := e2 i x hx
   exact ⟨fd, x.2, by simpa using hj, hg⟩
  ·simp at h
end
end Go.Proofs.YtefbaladomfccaaGreatDoor
end

section
namespace Go.Proofs.YtefbaladomfccaaGreatDoor
open Go.Eng
variable [Glob]
def Rd (F : Addr → Option Value) (hg : Gl F) (vs : List V) (cs : List Value) : Prop := RepL ⟨F, fun _ _ => none, hg⟩ vs cs ∧ ∀ c ∈ cs, c.oneCell' = true
section
variable {F : Addr → Option Value} {hg : Gl F}
theorem rd_one {v : Value} (h : v.oneCell' = true) : Rd F hg [.sc v] [v] := ⟨.cons (.sc _ _) (.nil _), by simpa using h⟩
theorem rd_step {a b : List V} {cs : List Value} {off n : Nat} (h1 : Rd F hg a ((cs.drop off).take n)) (h2 : Rd F hg b (cs.drop (off + n))) : Rd F hg (a ++ b) (cs.drop off) := by
 have e : cs.drop off = (cs.drop off).take n ++ cs.drop (off + n) := by rw [← List.drop_drop, List.take_append_drop]
 rw [e]
 refine ⟨.append h1.1 h2.1, fun c hc => ?_⟩
 rcases List.mem_append.1 hc with hc | hc
 ·exact h1.2 c hc
 ·exact h2.2 c hc
theorem rd_end {cs : List Value} {off : Nat} (h : cs.length = off) : Rd F hg [] (cs.drop off) := by
 rw [List.drop_eq_nil_of_le (by omega)]
 exact ⟨.nil _, by simp⟩
theorem addr_add_add (a : Addr) (x y : Nat) : (a.add x).add y = a.add (x + y) := by
 unfold Addr.add
 by_cases hx : x = 0
 ·subst hx; simp
 ·by_cases hy : y = 0
  ·subst hy; simp
  ·simp [hx, hy, Nat.add_assoc]
theorem choose_list {α β : Type} {R : Nat → β → α → Prop} : ∀ {es : List β}, (∀ (i : Nat) (e : β), es[i]? = some e → ∃ a : α, R i e a) → ∃ l : List α, l.length = es.length ∧ ∀ (i : Nat) (e : β) (a : α), es[i]? = some e → l[i]? = some a → R i e a := by
 intro es
 induction es generalizing R with
 | nil => intro _; exact ⟨[], rfl, by simp⟩
 | cons e r ih =>
  intro h
  obtain ⟨a, ha⟩ := h 0 e rfl
  obtain ⟨l, hl, hr⟩ := ih (R := fun i => R (i + 1)) fun i e he => h (i + 1) e (by simpa using he)
  refine ⟨a :: l, by simp [hl], fun i e' a' he ha' => ?_⟩
  cases i with
  | zero => simp at he ha'; subst he; subst ha'; exact ha
  | succ i => exact hr i e' a' (by simpa using he) (by simpa using ha')
theorem sum_le_bulk {H α : Type} {g : α → Nat} : ∀ {l : List α} {es : List (DataW H)}, l.length = es.length → (∀ (i : Nat) (e : DataW H) (a : α), es[i]? = some e → l[i]? = some a → g a ≤ Rows.uptoBulk e) → sumBy g l ≤ Rows.uptoBulkAll es
 | [], [], _, _ => by simp [sumBy]
 | a :: l, e :: es, hl, h => by
  have h1 := h 0 e a rfl rfl
  have h2 := sum_le_bulk (l := l) (es := es) (g := g) (by simpa using hl) fun i e a he ha => h (i + 1) e a (by simpa using he) (by simpa using ha)
  simp only [sumBy,Rows.uptoBulkAll]; omega
 | [], _ :: _, hl, _ => by simp at hl
 | _ :: _, [], hl, _ => by simp at hl
theorem rd_slice {H : Type} {enc : TypeId × Value → H} {P : Program} {w : World} {sp : Nat → Bool} {held : Bool} {f : Nat} {T T' : TypeId} {α : Type} {row : α → V} {g : α → Nat} {n : Nat}
  (hF : F = w.cell?) (hT : P.underlying T = some (.slice T')) (hn : P.cellsOf T' = n)
  (hr : ∀ {cs : List Value} {d : DataW H} {p : List MemPlace}, DataW.trod enc P w 0 sp held f T' cs = some (d, p) → ∃ a : α, Rd F hg (row a).cells cs ∧ g a ≤ Rows.uptoBulk d)
  {cs : List Value} {d : DataW H} {p : List MemPlace} (h : DataW.trod enc P w 0 sp held (f + 1) T cs = some (d, p)) :
  ∃ l : List α, Rd F hg [.slice (l.map row)] cs ∧ sumBy g l + 1 ≤ Rows.uptoBulk d := by
 rcases trod_slice hT h with ⟨rfl, rfl⟩ | ⟨a, cap, elems, spare, rfl, rfl, hc, he⟩
 ·exact ⟨[], ⟨.cons (.slice _ [] none 0 0 default (fun _ _ => default) (by simp) (by simp) (by simp) (by simp) (by simp) (by simp)) (.nil _), by simp [Value.oneCell']⟩, by simp [sumBy, Rows.uptoBulk]⟩
 ·obtain ⟨l, hl, hR⟩ := choose_list (es := elems) (R := fun i e (x : α) => ∃ cs' : List Value, w.cells? 0 (a.add (i * P.cellsOf T')) (P.cellsOf T') = some cs' ∧ Rd F hg (row x).cells cs' ∧ g x ≤ Rows.uptoBulk e) fun i e hi => by
   obtain ⟨cs', p', h1, h2⟩ := he i e hi
   obtain ⟨x, h3, h4⟩ := hr h2
   exact ⟨x, cs', h1, h3, h4⟩
  rw [hn] at hR
  have key : ∀ (i : Nat) (x : α), l[i]? = some x → ∃ cs' : List Value, Rd F hg (row x).cells cs' ∧ (row x).cells.length = n ∧ ∀ (j : Nat) (c : Value), cs'[j]? = some c → F (a.add (i * n + j)) = some c := fun i x hx => by
   obtain ⟨e, hei⟩ : ∃ e, elems[i]? = some e := ⟨_, List.getElem?_eq_getElem (by rw [← hl]; exact (List.getElem?_eq_some_iff.1 hx).1)⟩
   obtain ⟨cs', h1, h2, -⟩ := hR i e x hei hx
   unfold World.cells? at h1
   rw [if_pos (Nat.zero_le _)] at h1
   obtain ⟨e1, e2⟩ := mapM_get h1
   refine ⟨cs', h2, by rw [h2.1.1, e1]; simp, fun j c hj => ?_⟩
   obtain ⟨k, hk, hc'⟩ := e2 j c hj
   have hkj : k = j := by
    obtain ⟨hlt, hv⟩ := List.getElem?_eq_some_iff.1 hk
    simpa using hv.symm
   subst hkj
   rw [addr_add_add] at hc'
   rw [hF]; exact hc'
  have cell : ∀ (i : Nat) (r : V) (j : Nat) (c : V), (l.map row)[i]? = some r → r.cells[j]? = some c → ∃ x, F (a.add (i * n + j)) = some x ∧ x.oneCell' = true ∧ Rep ⟨F, fun _ _ => none, hg⟩ c x := fun i r j c hi hj => by
   rw [List.getElem?_map, Option.map_eq_some_iff] at hi
   obtain ⟨x, hx, rfl⟩ := hi
   obtain ⟨cs', h2, -, h3⟩ := key i x hx
   obtain ⟨y, hy, hrep⟩ := h2.1.get hj
   exact ⟨y, h3 j y hy, h2.2 y (List.mem_of_getElem? hy), hrep⟩
  refine ⟨l, ⟨.cons ?_ (.nil _), by simp [Value.oneCell']⟩, ?_⟩
  ·have := Rep.slice ⟨F, fun _ _ => none, hg⟩ (l.map row) (some a) cap n a (fun i j => (F (a.add (i * n + j))).getD default) (fun _ => rfl) (by rw [List.length_map, hl]; exact hc)
    (fun i r hi => by
     rw [List.getElem?_map, Option.map_eq_some_iff] at hi
     obtain ⟨x, hx, rfl⟩ := hi
     obtain ⟨_, -, h, -⟩ := key i x hx
     exact h)
    (fun i r j c hi hj => by obtain ⟨x, h, -, -⟩ := cell i r j c hi hj; show F _ = some ((F _).getD _); rw [h]; rfl)
    (fun i r j c hi hj => by obtain ⟨x, h, h', -⟩ := cell i r j c hi hj; show Value.oneCell' ((F _).getD _) = true; rw [h]; exact h')
    (fun i r j c hi hj => by obtain ⟨x, h, -, h'⟩ := cell i r j c hi hj; show Rep _ c ((F _).getD _); rw [h]; exact h')
   rwa [List.length_map, hl] at this
  ·have := sum_le_bulk (g := g) hl fun i e x he hx => by obtain ⟨_, -, -, h⟩ := hR i e x he hx; exact h
   simp only [Rows.uptoBulk]; omega
end
def PartsE {H : Type} (enc : TypeId × Value → H) (P : Program) (w : World) (sp : Nat → Bool) (held : Bool) (f : Nat) (cs : List Value) : List Field → (List (DataW H) → Prop) → Prop
 | [], K => K []
 | fd :: r, K => ∃ (e : DataW H) (p : List MemPlace), DataW.trod enc P w 0 sp held f fd.type ((cs.drop fd.offset).take (P.cellsOf fd.type)) = some (e, p) ∧ PartsE enc P w sp held f cs r fun es => K (e :: es)
theorem partsE_of {H : Type} {enc : TypeId × Value → H} {P : Program} {w : World} {sp : Nat → Bool} {held : Bool} {f : Nat} {cs : List Value} : ∀ {fs : List Field} {K : List (DataW H) → Prop} {es : List (DataW H)}, es.length = fs.length →
  (∀ (i : Nat) (e : DataW H), es[i]? = some e → ∃ (fd : Field) (p' : List MemPlace), fs[i]? = some fd ∧ DataW.trod enc P w 0 sp held f fd.type ((cs.drop fd.offset).take (P.cellsOf fd.type)) = some (e, p')) → K es → PartsE enc P w sp held f cs fs K
 | [], K, [], _, _, hK => hK
 | fd :: r, K, e :: es, hl, h, hK => by
  obtain ⟨fd', p', h1, h2⟩ := h 0 e rfl
  obtain rfl : fd = fd' := by simpa using h1
  exact ⟨e, p', h2, partsE_of (es := es) (by simpa using hl) (fun i e he => by simpa using h (i + 1) e (by simpa using he)) hK⟩
 | [], _, _ :: _, hl, _, _ => by simp at hl
 | _ :: _, _, [], hl, _, _ => by simp at hl
theorem trod_parts {H : Type} {enc : TypeId × Value → H} {P : Program} {w : World} {sp : Nat → Bool} {held : Bool} {f : Nat} {T : TypeId} {cs : List Value} {d : DataW H} {p : List MemPlace} {fs : Array Field}
  (hT : P.underlying T = some (.struct fs)) (h : DataW.trod enc P w 0 sp held (f + 1) T cs = some (d, p)) : cs.length = P.cellsOf T ∧ PartsE enc P w sp held f cs fs.toList fun es => d = .agg es := by
 obtain ⟨h1, parts, h2, h3, h4⟩ := trod_struct hT h
 exact ⟨h1, partsE_of (by simpa using h3) (fun i e he => by simpa using h4 i e he) h2⟩
end Go.Proofs.YtefbaladomfccaaGreatDoor
end

section
namespace Go.Proofs.YtefbaladomfccaaGreatDoor
open Go.Eng
variable [Glob]
mutual
inductive Ty where
 | mk (kind : Int) (mod name : ByteArray) (args : List Ty) (flds : List Fd)
inductive Fd where
 | mk (name : ByteArray) (ty : Ty) (opt : Bool)
end
structure Lb where
 name : ByteArray
 var : ByteArray
 ty : Ty
 opt : Bool
inductive Ex where
 | mk (kind : Int) (mod name text : ByteArray) (num : Int) (types : List Ty) (labels : List Lb) (kids : List Ex)
structure Pm where
 name : ByteArray
 variance : Int
 bound : Ty
structure Im where
 path : ByteArray
 alias : ByteArray
structure Dc where
 kind : Int
 name : ByteArray
 exported : Bool
 deprecated : Bool
 note : ByteArray
 params : List Pm
 lower : Ty
 upper : Ty
 type : Ty
 expr : Ex
 mod : ByteArray
 target : ByteArray
structure Md where
 path : ByteArray
 imports : List Im
 decls : List Dc

mutual
def encTy : Ty → V
 | .mk k m n ts fs => .agg [.sc (.int .i64 k), .sc (.string m), .sc (.string n), .slice (encTys ts), .slice (encFds fs)]
def encTys : List Ty → List V
 | [] => []
 | t :: r => encTy t :: encTys r
def encFd : Fd → V
 | .mk n (.mk k m n' ts fs) o => .agg [.sc (.string n), .sc (.int .i64 k), .sc (.string m), .sc (.string n'), .slice (encTys ts), .slice (encFds fs), .sc (.bool o)]
def encFds : List Fd → List V
 | [] => []
 | f :: r => encFd f :: encFds r
end
def Fd.ty : Fd → Ty | .mk _ t _ => t
def Fd.name : Fd → ByteArray | .mk n _ _ => n
def Fd.opt : Fd → Bool | .mk _ _ o => o
def Ty.flds : Ty → List Fd | .mk _ _ _ _ fs => fs
def Ty.args : Ty → List Ty | .mk _ _ _ ts _ => ts
def Ty.kind : Ty → Int | .mk k _ _ _ _ => k
def Ty.mod : Ty → ByteArray | .mk _ m _ _ _ => m
def Ty.name : Ty → ByteArray | .mk _ _ n _ _ => n
def Ty.parts (t : Ty) : List Ty := t.args ++ t.flds.map Fd.ty
def tyCells (t : Ty) : List V := [.sc (.int .i64 t.kind), .sc (.string t.mod), .sc (.string t.name), .slice (encTys t.args), .slice (encFds t.flds)]
theorem encTy_eq (t : Ty) : encTy t = .agg (tyCells t) := by obtain ⟨k, m, n, ts, fs⟩ := t; rfl
theorem encTys_map (ts : List Ty) : encTys ts = ts.map encTy := by induction ts with | nil => rfl | cons t r ih => simp [encTys, ih]
theorem encFds_map (ts : List Fd) : encFds ts = ts.map encFd := by induction ts with | nil => rfl | cons t r ih => simp [encFds, ih]
theorem encFd_eq (f : Fd) : encFd f = .agg ([str f.name] ++ tyCells f.ty ++ [bl f.opt]) := by obtain ⟨n', ⟨k, m, n, ts, fs⟩, o⟩ := f; rfl
def encLb (l : Lb) : V := .agg ([str l.name, str l.var] ++ tyCells l.ty ++ [bl l.opt])
mutual
def encEx : Ex → V
 | .mk k m n t i ts ls ks => .agg [.sc (.int .i64 k), .sc (.string m), .sc (.string n), .sc (.string t), .sc (.int .i64 i), .slice (encTys ts), .slice (ls.map encLb), .slice (encExs ks)]
def encExs : List Ex → List V
 | [] => []
 | e :: r => encEx e :: encExs r
end
def Ex.kind : Ex → Int | .mk k _ _ _ _ _ _ _ => k
def Ex.mod : Ex → ByteArray | .mk _ m _ _ _ _ _ _ => m
def Ex.name : Ex → ByteArray | .mk _ _ n _ _ _ _ _ => n
def Ex.text : Ex → ByteArray | .mk _ _ _ t _ _ _ _ => t
def Ex.num : Ex → Int | .mk _ _ _ _ i _ _ _ => i
def Ex.types : Ex → List Ty | .mk _ _ _ _ _ ts _ _ => ts
def Ex.labels : Ex → List Lb | .mk _ _ _ _ _ _ ls _ => ls
def Ex.kids : Ex → List Ex | .mk _ _ _ _ _ _ _ ks => ks
theorem encExs_map (ts : List Ex) : encExs ts = ts.map encEx := by induction ts with | nil => rfl | cons t r ih => simp [encExs, ih]
def exCells (e : Ex) : List V := [.sc (.int .i64 e.kind), .sc (.string e.mod), .sc (.string e.name), .sc (.string e.text), .sc (.int .i64 e.num), .slice (encTys e.types), .slice (e.labels.map encLb), .slice (encExs e.kids)]
theorem encEx_eq (e : Ex) : encEx e = .agg (exCells e) := by obtain ⟨k, m, n, t, i, ts, ls, ks⟩ := e; rfl
def encPm (p : Pm) : V := .agg ([str p.name, num p.variance] ++ tyCells p.bound)
def encIm (i : Im) : V := .agg [str i.path, str i.alias]
def encDc (d : Dc) : V := .agg ([num d.kind, str d.name, bl d.exported, bl d.deprecated, str d.note, .slice (d.params.map encPm)] ++ tyCells d.lower ++ tyCells d.upper ++ tyCells d.type ++ exCells d.expr ++ [str d.mod, str d.target])
def encMd (m : Md) : V := .agg [str m.path, .slice (m.imports.map encIm), .slice (m.decls.map encDc)]
theorem len_encTy (t : Ty) : (encTy t).cells.length = 5 := by rw [encTy_eq]; rfl
theorem first_ty (ts : List Ty) (n : Nat) : firstOk (encTys ts) n 5 = true := by
 rw [encTys_map]; unfold firstOk; split
 ·rename_i h; simp at h; obtain ⟨t, -, rfl⟩ := h; simp [len_encTy]
 ·rfl
theorem length_encTys (ts : List Ty) : (encTys ts).length = ts.length := by simp [encTys_map]
theorem length_encFds (ts : List Fd) : (encFds ts).length = ts.length := by simp [encFds_map]
theorem length_encExs (ts : List Ex) : (encExs ts).length = ts.length := by simp [encExs_map]
theorem get_encTys (ts : List Ty) (i : Nat) : (encTys ts)[i]? = ts[i]?.map encTy := by simp [encTys_map]
theorem get_encFds (ts : List Fd) (i : Nat) : (encFds ts)[i]? = ts[i]?.map encFd := by simp [encFds_map]
theorem get_encExs (ts : List Ex) (i : Nat) : (encExs ts)[i]? = ts[i]?.map encEx := by simp [encExs_map]

mutual
def Ty.size : Ty → Nat
 | .mk _ _ _ ts fs => 1 + sizeTys ts + sizeFds fs
def sizeTys : List Ty → Nat
 | [] => 0
 | t :: r => t.size + sizeTys r
def Fd.size : Fd → Nat
 | .mk _ (.mk _ _ _ ts fs) _ => 1 + sizeTys ts + sizeFds fs
def sizeFds : List Fd → Nat
 | [] => 0
 | f :: r => f.size + sizeFds r
end
theorem Fd.size_ty (f : Fd) : f.size = f.ty.size := by obtain ⟨n', ⟨k, m, n, ts, fs⟩, o⟩ := f; rfl
theorem sizeTys_sum (ts : List Ty) : sizeTys ts = sumBy Ty.size ts := by induction ts with | nil => rfl | cons t r ih => simp [sizeTys, sumBy, ih]
theorem sizeFds_sum (ts : List Fd) : sizeFds ts = sumBy (fun f => f.ty.size) ts := by induction ts with | nil => rfl | cons t r ih => simp [sizeFds, sumBy, ih, Fd.size_ty]
theorem Ty.size_parts (t : Ty) : t.size = 1 + sumBy Ty.size t.parts := by
 obtain ⟨k, m, n, ts, fs⟩ := t
 simp only [Ty.size,Ty.parts,Ty.args,Ty.flds,sumBy_append,sumBy_map,sizeTys_sum,sizeFds_sum]; omega
theorem Ty.size_pos (t : Ty) : 0 < t.size := by rw [Ty.size_parts]; omega
end Go.Proofs.YtefbaladomfccaaGreatDoor
end

section
namespace Go.Proofs.YtefbaladomfccaaGreatDoor
open Go.Eng
variable [Glob]
mutual
def Ty.wt : Ty → Nat
 | .mk _ m n ts fs => 1 + m.size + n.size + wtTys ts + wtFds fs
def wtTys : List Ty → Nat
 | [] => 0
 | t :: r => t.wt + wtTys r
def Fd.wt : Fd → Nat
 | .mk n (.mk _ m n' ts fs) _ => 1 + n.size + m.size + n'.size + wtTys ts + wtFds fs
def wtFds : List Fd → Nat
 | [] => 0
 | f :: r => f.wt + wtFds r
end
theorem Fd.wt_eq (f : Fd) : f.wt = f.name.size + f.ty.wt := by
 obtain ⟨n', ⟨k, m, n, ts, fs⟩, o⟩ := f
 simp only [Fd.wt,Ty.wt,Fd.name,Fd.ty]; omega
theorem wtTys_sum (ts : List Ty) : wtTys ts = sumBy Ty.wt ts := by induction ts with | nil => rfl | cons t r ih => simp [wtTys, sumBy, ih]
theorem wtFds_sum (ts : List Fd) : wtFds ts = sumBy Fd.wt ts := by induction ts with | nil => rfl | cons t r ih => simp [wtFds, sumBy, ih]
theorem Ty.wt_eq (t : Ty) : t.wt = 1 + t.mod.size + t.name.size + sumBy Ty.wt t.args + sumBy Fd.wt t.flds := by
 obtain ⟨k, m, n, ts, fs⟩ := t
 simp only [Ty.wt,wtTys_sum,wtFds_sum,Ty.mod,Ty.name,Ty.args,Ty.flds]
theorem sumBy_le {α : Type} {g h : α → Nat} (hle : ∀ a, g a ≤ h a) (l : List α) : sumBy g l ≤ sumBy h l := by
 induction l with
 | nil => exact Nat.le_refl _
 | cons a r ih => simp only [sumBy]; have := hle a; omega
theorem Ty.wt_parts (t : Ty) : 1 + t.mod.size + t.name.size + sumBy Ty.wt t.parts ≤ t.wt := by
 rw [t.wt_eq, Ty.parts, sumBy_append, sumBy_map]
 have := sumBy_le (g := fun f : Fd => f.ty.wt) (h := Fd.wt) (fun f => by rw [f.wt_eq]; omega) t.flds
 omega
theorem Ty.size_le_wt' : ∀ (N : Nat) (t : Ty), t.size ≤ N → t.size ≤ t.wt := by
 intro N
 induction N with
 | zero => intro t h; have := t.size_pos; omega
 | succ N ih =>
  intro t hN
  have h1 := t.size_parts
  have h2 := t.wt_parts
  have gen : ∀ (l : List Ty), sumBy Ty.size l ≤ N → sumBy Ty.size l ≤ sumBy Ty.wt l := by
   intro l
   induction l with
   | nil => intro _; exact Nat.le_refl _
   | cons a r ihr =>
    intro hl
    simp only [sumBy] at hl ⊢
    have := ih a (by omega); have := ihr (by omega); omega
  have := gen t.parts (by omega)
  omega
theorem Ty.size_le_wt (t : Ty) : t.size ≤ t.wt := Ty.size_le_wt' _ t (Nat.le_refl _)
def Lb.wt (l : Lb) : Nat := 1 + l.name.size + l.var.size + l.ty.wt
mutual
def Ex.wt : Ex → Nat
 | .mk _ m n t _ ts ls ks => 1 + m.size + n.size + t.size + sumBy Ty.wt ts + sumBy Lb.wt ls + wtExs ks
def wtExs : List Ex → Nat
 | [] => 0
 | e :: r => e.wt + wtExs r
end
theorem wtExs_eq (ts : List Ex) : wtExs ts = sumBy Ex.wt ts := by induction ts with | nil => rfl | cons t r ih => simp [wtExs, sumBy, ih]
theorem Ex.wt_eq (t : Ex) : t.wt = 1 + t.mod.size + t.name.size + t.text.size + sumBy Ty.wt t.types + sumBy Lb.wt t.labels + sumBy Ex.wt t.kids := by
 obtain ⟨k, m, n, x, i, ts, ls, ks⟩ := t
 rw [Ex.wt, wtExs_eq]; rfl
def dcCells (d : Dc) : List V := [num d.kind, str d.name, bl d.exported, bl d.deprecated, str d.note, .slice (d.params.map encPm)] ++ tyCells d.lower ++ tyCells d.upper ++ tyCells d.type ++ exCells d.expr ++ [str d.mod, str d.target]
theorem encDc_eq (d : Dc) : encDc d = .agg (dcCells d) := rfl
def mdCells (m : Md) : List V := [str m.path, .slice (m.imports.map encIm), .slice (m.decls.map encDc)]
theorem encMd_eq (m : Md) : encMd m = .agg (mdCells m) := rfl
def Pm.wt (p : Pm) : Nat := 1 + p.name.size + p.bound.wt
def Im.wt (i : Im) : Nat := 1 + i.path.size + i.alias.size
def Dc.wt (d : Dc) : Nat := 1 + d.name.size + d.note.size + sumBy Pm.wt d.params + d.lower.wt + d.upper.wt + d.type.wt + d.expr.wt + d.mod.size + d.target.size
def Md.wt (m : Md) : Nat := 1 + m.path.size + sumBy Im.wt m.imports + sumBy Dc.wt m.decls
theorem Ty.wt_pos (t : Ty) : 1 ≤ t.wt := by rw [t.wt_eq]; omega
theorem Lb.wt_pos (t : Lb) : 1 ≤ t.wt := by unfold Lb.wt; omega
theorem Ex.wt_pos (t : Ex) : 1 ≤ t.wt := by rw [t.wt_eq]; omega
theorem Pm.wt_pos (t : Pm) : 1 ≤ t.wt := by unfold Pm.wt; omega
theorem Im.wt_pos (t : Im) : 1 ≤ t.wt := by unfold Im.wt; omega
theorem Dc.wt_pos (t : Dc) : 1 ≤ t.wt := by unfold Dc.wt; omega
theorem Md.wt_pos (t : Md) : 1 ≤ t.wt := by unfold Md.wt; omega
theorem Fd.wt_pos (t : Fd) : 1 ≤ t.wt := by rw [t.wt_eq]; have := t.ty.wt_pos; omega
theorem mem_sum {α : Type} (g : α → Nat) {l : List α} {x : α} (h : x ∈ l) : g x ≤ sumBy g l := by
 obtain ⟨i, hi⟩ := List.mem_iff_getElem?.1 h
 exact sumBy_mem g hi
theorem Ex.wt_kid {e k : Ex} (h : k ∈ e.kids) : k.wt < e.wt := by have := mem_sum Ex.wt h; rw [e.wt_eq]; omega
theorem Ex.wt_type {e : Ex} {t : Ty} (h : t ∈ e.types) : t.wt < e.wt := by have := mem_sum Ty.wt h; rw [e.wt_eq]; omega
theorem Ex.wt_label {e : Ex} {l : Lb} (h : l ∈ e.labels) : l.wt < e.wt := by have := mem_sum Lb.wt h; rw [e.wt_eq]; omega
theorem Ex.wt_lens (e : Ex) : e.types.length + e.labels.length + e.kids.length < e.wt := by
 have h1 := length_le_sum Ty.wt Ty.wt_pos e.types
 have h2 := length_le_sum Lb.wt Lb.wt_pos e.labels
 have h3 := length_le_sum Ex.wt Ex.wt_pos e.kids
 rw [e.wt_eq]; omega
theorem Ty.wt_arg {e k : Ty} (h : k ∈ e.args) : k.wt < e.wt := by have := mem_sum Ty.wt h; rw [e.wt_eq]; omega
theorem Ty.wt_fld {e : Ty} {k : Fd} (h : k ∈ e.flds) : k.ty.wt < e.wt := by have := mem_sum Fd.wt h; have h2 := k.wt_eq; rw [e.wt_eq]; omega
theorem Ty.wt_lens (e : Ty) : e.args.length + e.flds.length < e.wt := by
 have h1 := length_le_sum Ty.wt Ty.wt_pos e.args
 have h2 := length_le_sum Fd.wt Fd.wt_pos e.flds
 rw [e.wt_eq]; omega
end Go.Proofs.YtefbaladomfccaaGreatDoor
end

section
namespace Go.Proofs.YtefbaladomfccaaGreatDoor
structure Spn where
 lo : Int
 hi : Int
def clipOne (x : Spn) : Option Spn := if max x.lo 0 < min x.hi 1000000 then some ⟨max x.lo 0, min x.hi 1000000⟩ else none
def clip (s : List Spn) : List Spn := s.filterMap clipOne
def insS : List Spn → Spn → List Spn
 | [], x => [x]
 | y :: r, x => if y.lo ≤ x.lo then y :: insS r x else x :: y :: r
def mstep (out : List Spn) (x : Spn) : List Spn := match out.getLast? with
 | some y => if x.lo ≤ y.hi then out.dropLast ++ [⟨y.lo, max y.hi x.hi⟩] else out ++ [x]
 | none => [x]
def merge (l : List Spn) : List Spn := l.foldl mstep []
def canon (s : List Spn) : List Spn := merge ((clip s).foldl insS [])
def AscLo (l : List Spn) : Prop := l.Pairwise fun a b => a.lo ≤ b.lo
theorem mstep_comm (out : List Spn) (x y : Spn) (h : x.lo = y.lo) (hx : x.lo ≤ x.hi) (hy : y.lo ≤ y.hi) : mstep (mstep out x) y = mstep (mstep out y) x := by
 unfold mstep
 cases hl : out.getLast? with
 | none =>
  simp only [List.getLast?_singleton,List.dropLast_singleton,List.nil_append]
  rw [if_pos (by omega), if_pos (by omega)]
  simp only [h,Int.max_comm]
 | some z =>
  dsimp only
  by_cases hz : x.lo ≤ z.hi
  ·rw [if_pos hz, if_pos (by omega)]
   simp only [List.getLast?_append,List.getLast?_singleton,Option.some_or,List.dropLast_concat]
   rw [if_pos (by omega), if_pos (by omega)]
   simp only [Int.max_assoc,Int.max_comm x.hi]
  ·rw [if_neg hz, if_neg (by omega)]
   simp only [List.getLast?_append,List.getLast?_singleton,Option.some_or,List.dropLast_concat]
   rw [if_pos (by omega), if_pos (by omega)]
   simp only [h,Int.max_comm]
theorem foldl_front (x : Spn) : ∀ (p : List Spn) (out : List Spn), (∀ y ∈ p, y.lo = x.lo ∧ y.lo ≤ y.hi) → x.lo ≤ x.hi → (p ++ [x]).foldl mstep out = (x :: p).foldl mstep out
 | [], out, _, _ => rfl
 | y :: r, out, h, hx => by
  have h1 := h y (by simp)
  rw [List.cons_append, List.foldl_cons, foldl_front x r _ (fun z hz => h z (by simp [hz])) hx]
  simp only [List.foldl_cons]
  rw [mstep_comm out y x h1.1 h1.2 hx]
theorem merge_perm : ∀ (l m : List Spn) (out : List Spn), l.Perm m → AscLo l → AscLo m → (∀ x ∈ l, x.lo ≤ x.hi) → l.foldl mstep out = m.foldl mstep out
 | [], m, out, hp, _, _, _ => by rw [hp.nil_eq]
 | x :: t, m, out, hp, hl, hm, hw => by
  have hxm : x ∈ m := hp.subset (by simp)
  obtain ⟨p, q, rfl⟩ := List.append_of_mem hxm
  have hpe : ∀ y ∈ p, y.lo = x.lo ∧ y.lo ≤ y.hi := fun y hy => by
   have hyl : y ∈ x :: t := hp.symm.subset (by simp [hy])
   have h1 : y.lo ≤ x.lo := (List.pairwise_append.1 hm).2.2 y hy x (by simp)
   have h2 : x.lo ≤ y.lo := by
    rcases List.mem_cons.1 hyl with rfl | h
    ·omega
    ·exact (List.pairwise_cons.1 hl).1 y h
   exact ⟨by omega, hw y hyl⟩
  have hx := hw x (by simp)
  have e : (p ++ x :: q).foldl mstep out = (x :: (p ++ q)).foldl mstep out := by
   rw [show p ++ x :: q = (p ++ [x]) ++ q by simp, List.foldl_append, foldl_front x p out hpe hx, ← List.foldl_append]; rfl
  rw [e, List.foldl_cons, List.foldl_cons]
  refine merge_perm t (p ++ q) _ ?_ (List.pairwise_cons.1 hl).2 ?_ fun y hy => hw y (by simp [hy])
  ·exact (List.perm_cons x).1 (hp.trans (by simpa using List.perm_middle))
  ·rw [AscLo, List.pairwise_append] at hm ⊢
   exact ⟨hm.1, (List.pairwise_cons.1 hm.2.1).2, fun a ha b hb => hm.2.2 a ha b (by simp [hb])⟩
theorem insS_perm : ∀ (l : List Spn) (x : Spn), (insS l x).Perm (x :: l)
 | [], x => List.Perm.refl _
 | y :: r, x => by
  unfold insS
  split
  ·exact ((insS_perm r x).cons y).trans (List.Perm.swap x y r)
  ·exact List.Perm.refl _
theorem insS_asc : ∀ (l : List Spn) (x : Spn), AscLo l → AscLo (insS l x)
 | [], x, _ => List.pairwise_singleton _ _
 | y :: r, x, h => by
  have h1 := List.pairwise_cons.1 h
  unfold insS
  split
  ·rename_i hy
   refine List.pairwise_cons.2 ⟨fun z hz => ?_, insS_asc r x h1.2⟩
   rcases List.mem_cons.1 ((insS_perm r x).subset hz) with rfl | hz
   ·exact hy
   ·exact h1.1 z hz
  ·rename_i hy
   refine List.pairwise_cons.2 ⟨fun z hz => ?_, h⟩
   rcases List.mem_cons.1 hz with rfl | hz
   ·omega
   ·have := h1.1 z hz; omega
theorem foldl_insS : ∀ (m l : List Spn), AscLo l → AscLo (m.foldl insS l) ∧ (m.foldl insS l).Perm (l ++ m)
 | [], l, h => ⟨h, by simp⟩
 | x :: t, l, h => by
  obtain ⟨h1, h2⟩ := foldl_insS t (insS l x) (insS_asc l x h)
  refine ⟨h1, h2.trans ?_⟩
  exact ((insS_perm l x).append_right t).trans (by simp [List.perm_middle.symm])
theorem clip_ok {s : List Spn} : ∀ x ∈ clip s, 0 ≤ x.lo ∧ x.lo < x.hi ∧ x.hi ≤ 1000000 := fun x hx => by
 obtain ⟨y, -, hy⟩ := List.mem_filterMap.1 hx
 unfold clipOne at hy
 split at hy
 ·cases hy; dsimp only; omega
 ·cases hy
theorem canon_of {s l : List Spn} (hp : l.Perm (clip s)) (ha : AscLo l) : merge l = canon s := by
 obtain ⟨h1, h2⟩ := foldl_insS (clip s) [] List.Pairwise.nil
 exact merge_perm l _ [] (hp.trans (by simpa using h2.symm)) ha h1 fun x hx => by have := clip_ok x (hp.subset hx); omega
structure Ver where
 mj : Int
 mn : Int
 pt : Int
structure Rq where
 path : ByteArray
 set : List Spn
structure Rl where
 path : ByteArray
 ver : Ver
 reqs : List Rq
 ar : ByteArray
 itf : ByteArray
 ce : ByteArray
 yk : Bool
structure Sel where
 path : ByteArray
 ver : Ver
theorem Ver.ext' {a b : Ver} (h1 : a.mj = b.mj) (h2 : a.mn = b.mn) (h3 : a.pt = b.pt) : a = b := by cases a; cases b; simp_all
theorem Spn.ext' {a b : Spn} (h1 : a.lo = b.lo) (h2 : a.hi = b.hi) : a = b := by cases a; cases b; simp_all
instance : DecidableEq Spn := fun a b => if h : a.lo = b.lo ∧ a.hi = b.hi then .isTrue (Spn.ext' h.1 h.2) else .isFalse fun e => h (by subst e; exact ⟨rfl, rfl⟩)
theorem Sel.ext' {a b : Sel} (h1 : a.path = b.path) (h2 : a.ver = b.ver) : a = b := by cases a; cases b; simp_all
instance : DecidableEq Ver := fun a b => if h : a.mj = b.mj ∧ a.mn = b.mn ∧ a.pt = b.pt then .isTrue (Ver.ext' h.1 h.2.1 h.2.2) else .isFalse fun e => h (by subst e; exact ⟨rfl, rfl, rfl⟩)
instance : DecidableEq Sel := fun a b => if h : a.path = b.path ∧ a.ver = b.ver then .isTrue (Sel.ext' h.1 h.2) else .isFalse fun e => h (by subst e; exact ⟨rfl, rfl⟩)
def Rl.key (r : Rl) : Sel := ⟨r.path, r.ver⟩
def Ver.place (v : Ver) : Int := 1000 * v.mn + v.pt
def has (s : List Spn) (p : Int) : Bool := decide (0 ≤ p) && decide (p < 1000000) && s.any fun x => decide (x.lo ≤ p) && decide (p < x.hi)
def hits (q : Rq) (r : Rl) : Bool := decide (q.path = r.path) && has q.set r.ver.place
inductive Rch (l : List Rl) (roots : List Rq) : Rl → Prop
 | root (q : Rq) (r : Rl) (hq : q ∈ roots) (hr : r ∈ l) (h : hits q r = true) : Rch l roots r
 | step (a : Rl) (q : Rq) (r : Rl) (ha : Rch l roots a) (hq : q ∈ a.reqs) (hr : r ∈ l) (h : hits q r = true) : Rch l roots r
theorem Rch.mem {l : List Rl} {roots : List Rq} {r : Rl} (h : Rch l roots r) : r ∈ l := by cases h <;> assumption
theorem Rch.mono {l : List Rl} {roots more : List Rq} (hm : ∀ q ∈ roots, q ∈ more) {r : Rl} (h : Rch l roots r) : Rch l more r := by
 induction h with
 | root q r hq hr h => exact .root q r (hm q hq) hr h
 | step a q r _ hq hr h ih => exact .step a q r ih hq hr h
inductive Need (l : List Rl) (roots : List Rq) : ByteArray → Prop
 | root (q : Rq) (hq : q ∈ roots) : Need l roots q.path
 | step (a : Rl) (q : Rq) (ha : a ∈ l) (hn : Need l roots a.path) (hq : q ∈ a.reqs) : Need l roots q.path
theorem Rch.sub {l m : List Rl} {roots : List Rq} (hlm : ∀ r ∈ l, r ∈ m) {r : Rl} (h : Rch l roots r) : Rch m roots r := by
 induction h with
 | root q r hq hr h => exact .root q r hq (hlm r hr) h
 | step a q r _ hq hr h ih => exact .step a q r ih hq (hlm r hr) h
end Go.Proofs.YtefbaladomfccaaGreatDoor
end

section
namespace Go.Proofs.YtefbaladomfccaaGreatDoor
open Go.Eng
variable [Glob]
def encSpn (s : Spn) : V := .agg [num s.lo, num s.hi]
def encSet (l : List Spn) : V := .slice (l.map encSpn)
def encRq (q : Rq) : V := .agg [str q.path, encSet q.set]
def encRqs (l : List Rq) : V := .slice (l.map encRq)
def encVer (v : Ver) : V := .agg [num v.mj, num v.mn, num v.pt]
def encSel (s : Sel) : V := .agg [str s.path, num s.ver.mj, num s.ver.mn, num s.ver.pt]
def encSels (l : List Sel) : V := .slice (l.map encSel)
def rlCells (r : Rl) : List V := [str r.path, num r.ver.mj, num r.ver.mn, num r.ver.pt, encRqs r.reqs, str r.ar, str r.itf, str r.ce, bl r.yk]
def encRl (r : Rl) : V := .agg (rlCells r)
def encRls (l : List Rl) : V := .slice (l.map encRl)
attribute [go_sem] encSet encRqs encSels encRls
end Go.Proofs.YtefbaladomfccaaGreatDoor
end

section
namespace Go.Proofs.YtefbaladomfccaaGreatDoor
open Go.Eng
open Nat renaming reduceAdd → zA, reduceLT → zB, reduceLeDiff → zC, reduceMul → zD, reduceEqDiff → zE, reduceSub → zF
variable [Glob]
set_option maxHeartbeats 4000000
set_option maxRecDepth 100000
theorem ne_get {s e : ByteArray} (he : e.size = 0) (h : (!(s.toList == e.toList)) = true) : ∃ c, s[0]? = some c := by
 refine get_byte (s := s) (i := 0) ?_
 rcases Nat.eq_zero_or_pos s.size with hz | hz
 ·exfalso
  have e1 : s.toList = e.toList := by
   rw [ByteArray.toList_eq, ByteArray.toList_eq]
   have a1 : s.data.toList = [] := by simpa [← List.length_eq_zero_iff, Array.length_toList] using hz
   have a2 : e.data.toList = [] := by simpa [← List.length_eq_zero_iff, Array.length_toList] using he
   rw [a1, a2]
  rw [e1] at h; simp at h
 ·exact hz
def isSm (c : Int) : Bool := decide (97 ≤ c) && decide (c ≤ 122)
def isCp (c : Int) : Bool := decide (65 ≤ c) && decide (c ≤ 90)
def isDg (c : Int) : Bool := decide (48 ≤ c) && decide (c ≤ 57)
def isWd (c : Int) : Bool := isSm c || isCp c || isDg c || decide (c = 95)
def isSd (c : Int) : Bool := isSm c || isDg c
def allP (p : Int → Bool) (s : ByteArray) : Bool := s.data.toList.all fun b => p b.toNat
def byteAt (s : ByteArray) (i : Nat) : Int := match s[i]? with | some c => c.toNat | none => 0
theorem byte_get {s : ByteArray} {i : Nat} {c : UInt8} (h : s[i]? = some c) : s.data.toList[i]? = some c := by
 obtain ⟨h1, h2⟩ := getElem?_eq_some_iff.1 h
 have h3 : i < s.data.toList.length := by simpa using h1
 rw [List.getElem?_eq_getElem h3]
 exact congrArg some (by rw [Array.getElem_toList]; exact h2)
theorem byteAt_of {s : ByteArray} {i : Nat} {c : UInt8} (h : s[i]? = some c) : byteAt s i = c.toNat := by unfold byteAt; rw [h]
theorem allP_true {p : Int → Bool} {s : ByteArray} (h : ∀ j < s.size, ∀ b, s[j]? = some b → p b.toNat = true) : allP p s = true := by
 refine List.all_eq_true.2 fun b hb => ?_
 obtain ⟨j, hj⟩ := List.mem_iff_getElem?.1 hb
 have h1 : j < s.size := by have := (List.getElem?_eq_some_iff.1 hj).1; simpa using this
 obtain ⟨c, hc⟩ := get_byte h1
 have := byte_get hc
 rw [hj] at this; cases this
 exact h j h1 b hc
theorem allP_false {p : Int → Bool} {s : ByteArray} {j : Nat} {b : UInt8} (h : s[j]? = some b) (hp : p b.toNat = false) : allP p s = false := by
 have hm := List.mem_of_getElem? (byte_get h)
 cases ha : allP p s with
 | false => rfl
 | true => have := List.all_eq_true.1 ha b hm; rw [hp] at this; cases this
theorem size_ne {s e : ByteArray} (he : e.size = 0) (h : (!(s.toList == e.toList)) = true) : 1 ≤ s.size := by
 obtain ⟨c, hc⟩ := ne_get he h
 exact (getElem?_eq_some_iff.1 hc).1
theorem size_eq0 {s e : ByteArray} (he : e.size = 0) (h : (!(s.toList == e.toList)) = false) : s.size = 0 := by
 have e1 : s.toList = e.toList := by simpa using h
 rw [ByteArray.toList_eq, ByteArray.toList_eq] at e1
 have := congrArg List.length e1
 simp only [Array.length_toList] at this
 exact Eq.trans this he
theorem small_ex (c : Int) : ∃ r_, (fun w => w = bl (isSm c)) r_ ∧ FnOk Tryz.prog 172 [.sc (.int .u8 c)] r_ := by
 refine vfn tt_ok [] 9 [.tmp 2] (fn := Tryz.f172) Tryz.func172 rfl Tryz.call172 ⟨rfl, rfl, by simp⟩ fun K hK => ?_
 simp only [go_sem,reduceIte,zA,zB,zC,zD,zE,zF,reduceCtorEq]
 refine gif (fun hb1_2 => ?_) (fun hb1_2 => ?_)
 ·simp only [go_sem,reduceIte,zA,zB,zC,zD,zE,zF,reduceCtorEq]
  exact hK _ (congrArg bl (by simp_all [isSm] <;> (intros; omega)))
 ·simp only [go_sem,reduceIte,zA,zB,zC,zD,zE,zF,reduceCtorEq]
  exact hK _ (congrArg bl (by simp_all [isSm] <;> (intros; omega)))
theorem capital_ex (c : Int) : ∃ r_, (fun w => w = bl (isCp c)) r_ ∧ FnOk Tryz.prog 270 [.sc (.int .u8 c)] r_ := by
 refine vfn tt_ok [] 9 [.tmp 2] (fn := Tryz.f270) Tryz.func270 rfl Tryz.call270 ⟨rfl, rfl, by simp⟩ fun K hK => ?_
 simp only [go_sem,reduceIte,zA,zB,zC,zD,zE,zF,reduceCtorEq]
 refine gif (fun hb1_2 => ?_) (fun hb1_2 => ?_)
 ·simp only [go_sem,reduceIte,zA,zB,zC,zD,zE,zF,reduceCtorEq]
  exact hK _ (congrArg bl (by simp_all [isCp] <;> (intros; omega)))
 ·simp only [go_sem,reduceIte,zA,zB,zC,zD,zE,zF,reduceCtorEq]
  exact hK _ (congrArg bl (by simp_all [isCp] <;> (intros; omega)))
theorem digit_ex (c : Int) : ∃ r_, (fun w => w = bl (isDg c)) r_ ∧ FnOk Tryz.prog 173 [.sc (.int .u8 c)] r_ := by
 refine vfn tt_ok [] 9 [.tmp 2] (fn := Tryz.f173) Tryz.func173 rfl Tryz.call173 ⟨rfl, rfl, by simp⟩ fun K hK => ?_
 simp only [go_sem,reduceIte,zA,zB,zC,zD,zE,zF,reduceCtorEq]
 refine gif (fun hb1_2 => ?_) (fun hb1_2 => ?_)
 ·simp only [go_sem,reduceIte,zA,zB,zC,zD,zE,zF,reduceCtorEq]
  exact hK _ (congrArg bl (by simp_all [isDg] <;> (intros; omega)))
 ·simp only [go_sem,reduceIte,zA,zB,zC,zD,zE,zF,reduceCtorEq]
  exact hK _ (congrArg bl (by simp_all [isDg] <;> (intros; omega)))
theorem word_ex (c : Int) : ∃ r_, (fun w => w = bl (isWd c)) r_ ∧ FnOk Tryz.prog 221 [.sc (.int .u8 c)] r_ := by
 refine vfn tt_ok [] 17 [.tmp 2] (fn := Tryz.f221) Tryz.func221 rfl Tryz.call221 ⟨rfl, rfl, by simp⟩ fun K hK => ?_
 simp only [go_sem,reduceIte,zA,zB,zC,zD,zE,zF,reduceCtorEq]
 refine cF (small_ex _) ?_
 rintro _ rfl
 simp only [go_sem,reduceIte,zA,zB,zC,zD,zE,zF,reduceCtorEq]
 refine gif (fun hb1_2 => ?_) (fun hb1_2 => ?_)
 ·simp only [go_sem,reduceIte,zA,zB,zC,zD,zE,zF,reduceCtorEq]
  exact hK _ (congrArg bl (by simp_all [isWd]))
 ·simp only [go_sem,reduceIte,zA,zB,zC,zD,zE,zF,reduceCtorEq]
  refine cF (capital_ex _) ?_
  rintro _ rfl
  simp only [go_sem,reduceIte,zA,zB,zC,zD,zE,zF,reduceCtorEq]
  refine gif (fun hb1_6 => ?_) (fun hb1_6 => ?_)
  ·simp only [go_sem,reduceIte,zA,zB,zC,zD,zE,zF,reduceCtorEq]
   exact hK _ (congrArg bl (by simp_all [isWd]))
  ·simp only [go_sem,reduceIte,zA,zB,zC,zD,zE,zF,reduceCtorEq]
   refine cF (digit_ex _) ?_
   rintro _ rfl
   simp only [go_sem,reduceIte,zA,zB,zC,zD,zE,zF,reduceCtorEq]
   refine gif (fun hb1_10 => ?_) (fun hb1_10 => ?_)
   ·simp only [go_sem,reduceIte,zA,zB,zC,zD,zE,zF,reduceCtorEq]
    exact hK _ (congrArg bl (by simp_all [isWd]))
   ·simp only [go_sem,reduceIte,zA,zB,zC,zD,zE,zF,reduceCtorEq]
    exact hK _ (congrArg bl (by simp_all [isWd]))
theorem sd_ex (c : Int) : ∃ r_, (fun w => w = bl (isSd c)) r_ ∧ FnOk Tryz.prog 171 [.sc (.int .u8 c)] r_ := by
 refine vfn tt_ok [] 9 [.tmp 2] (fn := Tryz.f171) Tryz.func171 rfl Tryz.call171 ⟨rfl, rfl, by simp⟩ fun K hK => ?_
 simp only [go_sem,reduceIte,zA,zB,zC,zD,zE,zF,reduceCtorEq]
 refine cF (small_ex _) ?_
 rintro _ rfl
 simp only [go_sem,reduceIte,zA,zB,zC,zD,zE,zF,reduceCtorEq]
 refine gif (fun hb1_2 => ?_) (fun hb1_2 => ?_)
 ·simp only [go_sem,reduceIte,zA,zB,zC,zD,zE,zF,reduceCtorEq]
  exact hK _ (congrArg bl (by simp_all [isSd]))
 ·simp only [go_sem,reduceIte,zA,zB,zC,zD,zE,zF,reduceCtorEq]
  refine cF (digit_ex _) ?_
  rintro _ rfl
  simp only [go_sem,reduceIte,zA,zB,zC,zD,zE,zF,reduceCtorEq]
  exact hK _ (congrArg bl (by simp_all [isSd]))
theorem all_ex (g : FuncId) (p : Int → Bool) (hg : ∀ c : Int, ∃ r, (fun v => v = bl (p c)) r ∧ FnOk Tryz.prog g [.sc (.int .u8 c)] r) (s : ByteArray) (hs : s.size ≤ 1048576) : ∃ r_, (fun w => w = bl (allP p s)) r_ ∧ FnOk Tryz.prog 170 [str s, .sc (.func (.func g) #[] #[])] r_ := by
 refine vfn tt_ok [] 18 [.tmp 4] (fn := Tryz.f170) Tryz.func170 rfl Tryz.call170 ⟨rfl, rfl, by simp⟩ fun K hK => ?_
 have hT9 : Tryz.prog.underlying 9 = some .string := by kernel_rfl
 have sl : ∀ (a : ByteArray) (ty : TypeId), liftL Tryz.prog (Builtin.len_ #[9] ty) [.sc (.string a)] = some (num a.size) := fun a ty => ev_slen (P := Tryz.prog) (tt := tt) (T := 9) a hT9 ty
 simp only [sl,go_sem,reduceIte,zA,zB,zC,zD,zE,zF,reduceCtorEq]
 refine xloopL tt_ok [] [8] 0 [0,1,7] (fun vs => ((s.size : Int) - Go.Eng.intOf (vs.headD .undef)).toNat) (fun vs => ∃ i : Nat, vs = [num i] ∧ i ≤ s.size ∧ ∀ j < i, ∀ b, s[j]? = some b → p b.toNat = true) (by omega) (by simp only [sl,go_sem,reduceIte,zA,zB,zC,zD,zE,zF,reduceCtorEq]) (⟨0, rfl, Nat.zero_le _, fun j hj => absurd hj (Nat.not_lt_zero j)⟩) fun vs hI Z1 hZ1 => ?_
 obtain ⟨i, rfl, hi, hno⟩ := hI
 simp only [sl,go_sem,reduceIte,zA,zB,zC,zD,zE,zF,reduceCtorEq]
 refine gif (fun hc9 => ?_) (fun hc9 => ?_)
 ·have hlt : i < s.size := by simpa using hc9
  have hw := i64_succ i (by omega)
  obtain ⟨c, hcb⟩ := get_byte (s := s) (i := i) hlt
  have hix := ev_index (P := Tryz.prog) s hT9 .i64 (i : Int) (by omega) (c := c) (show s[((i : Nat) : Int).toNat]? = some c from hcb)
  simp only [hw,hix,sl,go_sem,reduceIte,zA,zB,zC,zD,zE,zF,reduceCtorEq]
  refine cF (hg _) ?_
  rintro _ rfl
  simp only [hw,hix,sl,go_sem,reduceIte,zA,zB,zC,zD,zE,zF,reduceCtorEq]
  refine gif (fun hc16 => ?_) (fun hc16 => ?_)
  ·have hres : false = allP p s := (allP_false hcb (by simpa using hc16)).symm
   simp only [hw,hix,sl,go_sem,reduceIte,zA,zB,zC,zD,zE,zF,reduceCtorEq]
   exact hK _ (congrArg bl hres)
  ·simp only [hw,hix,sl,go_sem,reduceIte,zA,zB,zC,zD,zE,zF,reduceCtorEq]
   refine hZ1 _ (endK (by omega) (by simp only [hw,hix,sl,go_sem,reduceIte,zA,zB,zC,zD,zE,zF,reduceCtorEq]) ?_ ?_) <;> simp only [lks,lk,reduceIte,zE]
   ·refine ⟨i + 1, rfl, hlt, fun j hj b hb => ?_⟩
    rcases Nat.lt_or_ge j i with h | h
    ·exact hno j h b hb
    ·obtain rfl : j = i := by omega
     rw [hcb] at hb; cases hb; simpa using hc16
   ·simp only [Go.Eng.intOf,List.headD_cons]; omega
 ·have hge : ¬ i < s.size := by simpa using hc9
  have hres : true = allP p s := (allP_true fun j hj b hb => hno j (by omega) b hb).symm
  simp only [sl,go_sem,reduceIte,zA,zB,zC,zD,zE,zF,reduceCtorEq]
  exact hK _ (congrArg bl hres)
end Go.Proofs.YtefbaladomfccaaGreatDoor
end

section
namespace Go.Proofs.YtefbaladomfccaaGreatDoor
open Go.Eng
open Nat renaming reduceAdd → zA, reduceLT → zB, reduceLeDiff → zC, reduceMul → zD, reduceEqDiff → zE, reduceSub → zF
variable [Glob]
set_option maxHeartbeats 4000000
set_option maxRecDepth 100000
def Ver.part (v : Ver) (i : Nat) : Int := if i = 0 then v.mj else if i = 1 then v.mn else v.pt
theorem arr3 (a b c : Int) : builtV Tryz.prog 232 [(0, .int .i64 a), (1, .int .i64 b), (2, .int .i64 c)] = some (.agg [num a, num b, num c]) := by kernel_rfl
theorem arrIx0 (a b c : Int) : lift2 Tryz.prog (Instr.index 232) (.agg [num a, num b, num c]) (num 0) = some (num a) := by kernel_rfl
theorem arrIx1 (a b c : Int) : lift2 Tryz.prog (Instr.index 232) (.agg [num a, num b, num c]) (num 1) = some (num b) := by kernel_rfl
theorem arrIx2 (a b c : Int) : lift2 Tryz.prog (Instr.index 232) (.agg [num a, num b, num c]) (num 2) = some (num c) := by kernel_rfl
theorem arrIx (v : Ver) (i : Nat) (h : i < 3) : lift2 Tryz.prog (Instr.index 232) (.agg [num v.mj, num v.mn, num v.pt]) (num i) = some (num (v.part i)) := by
 obtain ⟨a, b, c⟩ := v
 match i, h with
 | 0, _ => exact arrIx0 a b c
 | 1, _ => exact arrIx1 a b c
 | 2, _ => exact arrIx2 a b c
def okPart (n : Int) : Bool := decide (0 ≤ n) && decide (n ≤ 999)
def Ver.ok (v : Ver) : Bool := okPart v.mj && okPart v.mn && okPart v.pt
theorem Ver.ok_iff (v : Ver) : v.ok = true ↔ ∀ i < 3, okPart (v.part i) = true := by
 unfold Ver.ok
 simp only [Bool.and_eq_true]
 constructor
 ·rintro ⟨⟨h0, h1⟩, h2⟩ i hi
  match i, hi with
  | 0, _ => exact h0
  | 1, _ => exact h1
  | 2, _ => exact h2
 ·exact fun h => ⟨⟨h 0 (by omega), h 1 (by omega)⟩, h 2 (by omega)⟩
def ltB (a b : ByteArray) : Bool := Op.bytesLess a.toList b.toList
theorem str_beq (a b : ByteArray) : (a.toList == b.toList) = decide (a = b) := by
 rw [Bool.eq_iff_iff, beq_iff_eq, decide_eq_true_eq]
 refine ⟨fun h => ?_, fun h => by rw [h]⟩
 rw [ByteArray.toList_eq, ByteArray.toList_eq] at h
 cases a; cases b; congr 1; exact Array.toList_inj.1 h
theorem ltB_eq (a b : ByteArray) : ltB a b = decide (a.data.toList < b.data.toList) := by
 unfold ltB
 rw [Proofs.bytesLess_eq, ByteArray.toList_eq, ByteArray.toList_eq]
theorem wrap_place {v : Ver} (h : v.ok = true) : IntKind.i64.wrap (1000 * v.mn) = 1000 * v.mn ∧ IntKind.i64.wrap (1000 * v.mn + v.pt) = v.place ∧ 0 ≤ v.place ∧ v.place < 1000000 := by
 unfold Ver.ok okPart at h
 simp only [Bool.and_eq_true,decide_eq_true_eq] at h
 unfold Ver.place
 refine ⟨IntWalk.i64_in _ (by omega), IntWalk.i64_in _ (by omega), by omega, by omega⟩
theorem parts_ok (v : Ver) : ∃ r_, (fun w => w = .agg [num v.mj, num v.mn, num v.pt]) r_ ∧ FnOk Tryz.prog 150 [encVer v] r_ := by
 refine vfn tt_ok [] 10 [.cell 2 232] (fn := Tryz.f150) Tryz.func150 rfl Tryz.call150 ⟨rfl, rfl, by simp⟩ fun K hK => ?_
 simp only [encVer]
 simp only [arr3,go_sem,reduceIte,zA,zB,zC,zD,zE,zF,reduceCtorEq]
 exact hK _ rfl
theorem valid_ok (v : Ver) : ∃ r_, (fun w => w = bl (v.ok)) r_ ∧ FnOk Tryz.prog 104 [encVer v] r_ := by
 refine vfn tt_ok [] 17 [.tmp 2] (fn := Tryz.f104) Tryz.func104 rfl Tryz.call104 ⟨rfl, rfl, by simp⟩ fun K hK => ?_
 simp only [encVer]
 simp only [go_sem,reduceIte,zA,zB,zC,zD,zE,zF,reduceCtorEq]
 refine cF (by have h := parts_ok v; simp only [encVer] at h; exact h) ?_
 rintro _ rfl
 simp only [go_sem,reduceIte,zA,zB,zC,zD,zE,zF,reduceCtorEq]
 refine xloopL tt_ok [] [7] 1 [6] (fun vs => ((3 : Int) - Go.Eng.intOf (vs.headD .undef)).toNat) (fun vs => ∃ i : Nat, vs = [num i] ∧ i ≤ 3 ∧ ∀ j < i, okPart (v.part j) = true) (by omega) (by simp only [go_sem,reduceIte,zA,zB,zC,zD,zE,zF,reduceCtorEq]) (⟨0, rfl, Nat.zero_le _, fun j hj => absurd hj (Nat.not_lt_zero j)⟩) fun vs hI Z1 hZ1 => ?_
 obtain ⟨i, rfl, hi, hall⟩ := hI
 simp only [go_sem,reduceIte,zA,zB,zC,zD,zE,zF,reduceCtorEq]
 refine gif (fun hc8 => ?_) (fun hc8 => ?_)
 ·have hlt : i < 3 := by have := of_decide_eq_true hc8; omega
  have hix := arrIx v i hlt
  have hw := i64_succ i (by omega)
  simp only [hix,hw,go_sem,reduceIte,zA,zB,zC,zD,zE,zF,reduceCtorEq]
  refine gif (fun hb4_2 => ?_) (fun hb4_2 => ?_)
  ·have hres : false = v.ok := by
    cases ho : v.ok with
    | false => rfl
    | true =>
     have h1 := v.ok_iff.1 ho i hlt
     unfold okPart at h1
     simp only [Bool.and_eq_true,decide_eq_true_eq] at h1
     exfalso; simp_all <;> omega
   simp only [hix,hw,go_sem,reduceIte,zA,zB,zC,zD,zE,zF,reduceCtorEq]
   exact hK _ (congrArg bl hres)
  ·simp only [hix,hw,go_sem,reduceIte,zA,zB,zC,zD,zE,zF,reduceCtorEq]
   refine gif (fun hc15 => ?_) (fun hc15 => ?_)
   ·have hres : false = v.ok := by
     cases ho : v.ok with
     | false => rfl
     | true =>
      have h1 := v.ok_iff.1 ho i hlt
      unfold okPart at h1
      simp only [Bool.and_eq_true,decide_eq_true_eq] at h1
      exfalso; simp_all <;> omega
    simp only [hix,hw,go_sem,reduceIte,zA,zB,zC,zD,zE,zF,reduceCtorEq]
    exact hK _ (congrArg bl hres)
   ·simp only [hix,hw,go_sem,reduceIte,zA,zB,zC,zD,zE,zF,reduceCtorEq]
    refine hZ1 _ (endK (by omega) (by simp only [hix,hw,go_sem,reduceIte,zA,zB,zC,zD,zE,zF,reduceCtorEq]) ?_ ?_) <;> simp only [lks,lk,reduceIte,zE]
    ·refine ⟨i + 1, rfl, hlt, fun j hj => ?_⟩
     rcases Nat.lt_or_ge j i with h | h
     ·exact hall j h
     ·obtain rfl : j = i := by omega
      unfold okPart; simp_all <;> omega
    ·simp only [Go.Eng.intOf,List.headD_cons]; omega
 ·have hge : i = 3 := by have := of_decide_eq_false hc8; omega
  subst hge
  have hres : true = v.ok := (v.ok_iff.2 hall).symm
  simp only [go_sem,reduceIte,zA,zB,zC,zD,zE,zF,reduceCtorEq]
  exact hK _ (congrArg bl hres)
end Go.Proofs.YtefbaladomfccaaGreatDoor
end

section
namespace Go.Proofs.YtefbaladomfccaaGreatDoor
open Go.Eng
variable [Glob]
set_option maxHeartbeats 4000000
set_option maxRecDepth 100000
end Go.Proofs.YtefbaladomfccaaGreatDoor
end

section
namespace Go.Proofs.YtefbaladomfccaaGreatDoor
open Go.Eng
variable [Glob]
theorem seqI {P : Program} {T : TypeId} (hT : P.underlying T = some (.int .i64)) (d : Nat) (a b : Int) : scRunP P (Op.equalIn (d + 1) T (.int .i64 a) (.int .i64 b)) = some (a == b) := by
 rw [Op.equalIn, scRunP_bind, scRunP_underlying hT]
 rfl
theorem eqIn78 (d : Nat) (a b c e : Int) : scRunP Tryz.prog (Op.equalIn (d + 1 + 1) 82 (.agg #[.int .i64 a, .int .i64 b]) (.agg #[.int .i64 c, .int .i64 e])) = some (a == c && b == e) := by
 have q1 := seqI Tryz.underlying3 d a c
 have q2 := seqI Tryz.underlying3 d b e
 have hs : Tryz.prog.stoodInHeld 82 = false := by kernel_rfl
 have hp1 : ∀ x y, scRunP Tryz.prog (part 3 #[x, y] 0) = some x := fun x y => by kernel_rfl
 have hp2 : ∀ x y, scRunP Tryz.prog (part 3 #[x, y] 1) = some y := fun x y => by kernel_rfl
 rw [Op.equalIn, scRunP_bind, scRunP_underlying Tryz.underlying82]
 dsimp only [Option.bind_some]
 rw [scRunP_bind]
 show ((some Tryz.prog).bind _) = _
 rw [Option.bind_some, if_neg (by rw [hs]; simp)]
 rw [← Array.forIn_toList]
 have n1 : ("From" ≠ "_") := by decide
 have n2 : ("To" ≠ "_") := by decide
 have pr : ∀ {α : Type} (x : α), scRunP Tryz.prog (pure x : Sem α) = some x := fun x => rfl
 simp only [List.forIn_cons,List.forIn_nil,scRunP_bind,if_pos n1,if_pos n2,hp1,hp2,Option.bind_some,q1,pr]
 cases hac : (a == c)
 ·simp [pr, Option.bind_some]
 ·simp only [Bool.not_true,Bool.false_eq_true,if_false,pr,Option.bind_some,scRunP_bind,if_pos n2,hp2,q2,Bool.true_and]
  cases hbd : (b == e) <;> simp [pr, scRunP_bind]
theorem eq78 (u v : Spn) : scRunP Tryz.prog (Op.equal 82 (.agg #[.int .i64 u.lo, .int .i64 u.hi]) (.agg #[.int .i64 v.lo, .int .i64 v.hi])) = some (decide (u = v)) := by
 rw [show Op.equal 82 = Op.equalIn (9998 + 1 + 1) 82 from rfl, eqIn78]
 congr 1
 rw [Bool.eq_iff_iff]
 simp only [Bool.and_eq_true,beq_iff_eq,decide_eq_true_eq]
 exact ⟨fun h => Spn.ext' h.1 h.2, fun h => by subst h; exact ⟨rfl, rfl⟩⟩
theorem ev_neq78 (x y : Operand) (u v : Spn) : lift2 Tryz.prog (opB .neq 82 x y) (.agg [num u.lo, num u.hi]) (.agg [num v.lo, num v.hi]) = some (bl (!decide (u = v))) := by
 have : scRunP Tryz.prog (do eqGuard .neq 82 x y (.agg #[.int .i64 u.lo, .int .i64 u.hi]) (.agg #[.int .i64 v.lo, .int .i64 v.hi]); binOp .neq 82 (.agg #[.int .i64 u.lo, .int .i64 u.hi]) (.agg #[.int .i64 v.lo, .int .i64 v.hi])) = some (.bool (!decide (u = v))) := by
  have hg : scRunP Tryz.prog (eqGuard .neq 82 x y (.agg #[.int .i64 u.lo, .int .i64 u.hi]) (.agg #[.int .i64 v.lo, .int .i64 v.hi])) = some () := by kernel_rfl
  rw [scRunP_bind, hg, Option.bind_some]
  have hb : ∀ u v : Array Value, binOp .neq 82 (.agg u) (.agg v) = (Op.equal 82 (.agg u) (.agg v) >>= fun r => Pure.pure (Value.bool !r)) := fun u v => rfl
  rw [hb, scRunP_bind, eq78]; rfl
 simp only [lift2,toVal,allSc,opB]
 rw [this]; rfl
end Go.Proofs.YtefbaladomfccaaGreatDoor
end

section
namespace Go.Proofs.YtefbaladomfccaaGreatDoor
open Go.Eng
open Nat renaming reduceAdd → zA, reduceLT → zB, reduceLeDiff → zC, reduceMul → zD, reduceEqDiff → zE, reduceSub → zF
variable [Glob]
set_option maxHeartbeats 4000000
set_option maxRecDepth 100000
def Ver.pl (v : Ver) : Int := if v.ok = true then v.place else 0
def inSpn (p : Int) (x : Spn) : Bool := decide (x.lo ≤ p) && decide (p < x.hi)
theorem any_of {α : Type} {q : α → Bool} {l : List α} {i : Nat} {x : α} (h : l[i]? = some x) (hq : q x = true) : l.any q = true := List.any_eq_true.2 ⟨x, List.mem_of_getElem? h, hq⟩
theorem any_none {α : Type} {q : α → Bool} {l : List α} (h : ∀ j < l.length, ∀ x, l[j]? = some x → q x = false) : l.any q = false := by
 rw [List.any_eq_false]
 intro x hx
 obtain ⟨j, hj⟩ := List.mem_iff_getElem?.1 hx
 rw [h j (List.getElem?_eq_some_iff.1 hj).1 x hj]; simp
theorem has_eq (s : List Spn) (p : Int) : has s p = (decide (0 ≤ p) && decide (p < 1000000) && s.any (inSpn p)) := rfl
theorem list_eq_of {α : Type} {xs ys : List α} (hl : xs.length = ys.length) (h : ∀ j < xs.length, xs[j]? = ys[j]?) : xs = ys := by
 apply List.ext_getElem?
 intro j
 rcases Nat.lt_or_ge j xs.length with hj | hj
 ·exact h j hj
 ·rw [List.getElem?_eq_none hj, List.getElem?_eq_none (by omega)]
theorem cplace_ok (v : Ver) : ∃ r_, (fun w => w = .tup [num v.pl, num (if v.ok = true then 0 else 2)]) r_ ∧ FnOk Tryz.prog 61 [encVer v] r_ := by
 refine vfn tt_ok [] 13 [.tmp 2, .tmp 3] (fn := Tryz.f61) Tryz.func61 rfl Tryz.call61 ⟨rfl, rfl, by simp⟩ fun K hK => ?_
 simp only [encVer]
 simp only [go_sem,reduceIte,zA,zB,zC,zD,zE,zF,reduceCtorEq]
 refine cF (by have h := valid_ok v; simp only [encVer] at h; exact h) ?_
 rintro _ rfl
 simp only [go_sem,reduceIte,zA,zB,zC,zD,zE,zF,reduceCtorEq]
 refine gif (fun hc6 => ?_) (fun hc6 => ?_)
 ·have ho : v.ok = false := by simpa using hc6
  have hp : v.pl = 0 := by unfold Ver.pl; rw [ho]; rfl
  simp only [go_sem,reduceIte,zA,zB,zC,zD,zE,zF,reduceCtorEq]
  refine hK _ ?_
  rw [hp, ho]
  rfl
 ·have ho : v.ok = true := by simpa using hc6
  have hp : v.pl = v.place := if_pos ho
  obtain ⟨w1, w2, -, -⟩ := wrap_place ho
  simp only [w1,w2,go_sem,reduceIte,zA,zB,zC,zD,zE,zF,reduceCtorEq]
  refine hK _ ?_
  rw [hp, ho]
  rfl
theorem hasC_ok (p : Int) (x : Spn) : ∃ r_, (fun w => w = bl (inSpn p x)) r_ ∧ FnOkS Tryz.prog 143 [encSpn x, .ptr 0 0] ([.box [num p]]) r_ ([.box [num p]]) := by
 refine vfs tt_ok [] 14 [.tmp 3] (fn := Tryz.f143) Tryz.func143 rfl Tryz.call143 ⟨rfl, rfl, by simp⟩ fun K hK => ?_
 simp only [encSpn]
 simp only [go_sem,reduceIte,zA,zB,zC,zD,zE,zF,reduceCtorEq]
 refine gif (fun hb1_4 => ?_) (fun hb1_4 => ?_)
 ·simp only [go_sem,reduceIte,zA,zB,zC,zD,zE,zF,reduceCtorEq]
  refine hK _ _ ⟨congrArg bl ?_, rfl⟩
  unfold inSpn; simp_all <;> (intros; omega)
 ·simp only [go_sem,reduceIte,zA,zB,zC,zD,zE,zF,reduceCtorEq]
  refine hK _ _ ⟨congrArg bl ?_, rfl⟩
  unfold inSpn; simp_all <;> (intros; omega)
theorem idxSpn_ok (p : Int) (s : List Spn) (hl : s.length ≤ 1048576) : ∃ r_, (fun w => ∃ k : Int, w = num k ∧ decide (0 ≤ k) = s.any (inSpn p)) r_ ∧ FnOkS Tryz.prog 187 [encSet s, .clo (.func 143) [] [.ptr 0 0]] ([.box [num p]]) r_ ([.box [num p]]) := by
 refine vfs tt_ok [] 19 [.tmp 4] (fn := Tryz.f187) Tryz.func187 rfl Tryz.call187 ⟨rfl, rfl, by simp⟩ fun K hK => ?_
 simp only [encSet]
 simp only [List.length_map,go_sem,reduceIte,zA,zB,zC,zD,zE,zF,reduceCtorEq]
 refine xloopL tt_ok [] [8] 1 [0,1,7] (fun vs => ((s.length : Int) - Go.Eng.intOf (vs.headD .undef)).toNat) (fun vs => ∃ i : Nat, vs = [num i] ∧ i ≤ s.length ∧ ∀ j < i, ∀ x, s[j]? = some x → inSpn p x = false) (by omega) (by simp only [List.length_map,go_sem,reduceIte,zA,zB,zC,zD,zE,zF,reduceCtorEq]) (⟨0, rfl, Nat.zero_le _, fun j hj => absurd hj (Nat.not_lt_zero j)⟩) fun vs hI Z1 hZ1 => ?_
 obtain ⟨i, rfl, hi, hall⟩ := hI
 simp only [List.length_map,go_sem,reduceIte,zA,zB,zC,zD,zE,zF,reduceCtorEq]
 refine gif (fun hc9 => ?_) (fun hc9 => ?_)
 ·have hlt : i < s.length := by simpa using hc9
  have hw := i64_succ i (by omega)
  obtain ⟨x, hx⟩ : ∃ x, s[i]? = some x := ⟨_, List.getElem?_eq_getElem hlt⟩
  simp only [hw,List.getElem?_map,hx,encSpn,List.length_map,go_sem,reduceIte,zA,zB,zC,zD,zE,zF,reduceCtorEq]
  refine cS (by have h := hasC_ok p x; simp only [encSpn] at h; exact h) ?_
  rintro _ rfl
  simp only [hw,List.getElem?_map,hx,encSpn,List.length_map,go_sem,reduceIte,zA,zB,zC,zD,zE,zF,reduceCtorEq]
  refine gif (fun hc16 => ?_) (fun hc16 => ?_)
  ·have hres : decide (0 ≤ (i : Int)) = s.any (inSpn p) := by rw [any_of hx hc16]; exact decide_eq_true (Int.natCast_nonneg i)
   simp only [hw,List.getElem?_map,hx,encSpn,List.length_map,go_sem,reduceIte,zA,zB,zC,zD,zE,zF,reduceCtorEq]
   exact hK _ _ ⟨⟨_, rfl, hres⟩, rfl⟩
  ·simp only [hw,List.getElem?_map,hx,encSpn,List.length_map,go_sem,reduceIte,zA,zB,zC,zD,zE,zF,reduceCtorEq]
   refine hZ1 _ (endK (by omega) (by simp only [hw,List.getElem?_map,hx,encSpn,List.length_map,go_sem,reduceIte,zA,zB,zC,zD,zE,zF,reduceCtorEq]) ?_ ?_) <;> simp only [lks,lk,reduceIte,zE]
   ·refine ⟨i + 1, rfl, hlt, fun j hj => ?_⟩
    rcases Nat.lt_or_ge j i with h | h
    ·exact hall j h
    ·obtain rfl : j = i := by omega
     intro y hy
     rw [hx] at hy; cases hy; exact hc16
   ·simp only [Go.Eng.intOf,List.headD_cons]; omega
 ·have hge : ¬ i < s.length := by simpa using hc9
  have hres : decide (0 ≤ (-1 : Int)) = s.any (inSpn p) := (any_none fun j hj => hall j (by omega)).symm ▸ rfl
  simp only [List.length_map,go_sem,reduceIte,zA,zB,zC,zD,zE,zF,reduceCtorEq]
  exact hK _ _ ⟨⟨_, rfl, hres⟩, rfl⟩
theorem anySpn_ok (p : Int) (s : List Spn) (hl : s.length ≤ 1048576) : ∃ r_, (fun w => w = bl (s.any (inSpn p))) r_ ∧ FnOkS Tryz.prog 142 [encSet s, .clo (.func 143) [] [.ptr 0 0]] ([.box [num p]]) r_ ([.box [num p]]) := by
 refine vfs tt_ok [] 9 [.tmp 4] (fn := Tryz.f142) Tryz.func142 rfl Tryz.call142 ⟨rfl, rfl, by simp⟩ fun K hK => ?_
 simp only [encSet]
 simp only [go_sem,reduceIte,zA,zB,zC,zD,zE,zF,reduceCtorEq]
 refine cS (by have h := idxSpn_ok p s hl; simp only [encSet] at h; exact h) ?_
 rintro _ ⟨k, rfl, hk⟩
 simp only [go_sem,reduceIte,zA,zB,zC,zD,zE,zF,reduceCtorEq]
 exact hK _ _ ⟨congrArg bl hk, rfl⟩
theorem has_ok (s : List Spn) (p : Int) (hl : s.length ≤ 1048576) : ∃ r_, (fun w => w = bl (has s p)) r_ ∧ FnOk Tryz.prog 99 [encSet s, num p] r_ := by
 refine vfn tt_ok [] 16 [.tmp 4] (fn := Tryz.f99) Tryz.func99 rfl Tryz.call99 ⟨rfl, rfl, by simp⟩ fun K hK => ?_
 simp only [encSet]
 simp only [go_sem,reduceIte,zA,zB,zC,zD,zE,zF,reduceCtorEq]
 refine gif (fun hb1_2 => ?_) (fun hb1_2 => ?_)
 ·simp only [go_sem,reduceIte,zA,zB,zC,zD,zE,zF,reduceCtorEq]
  refine gif (fun hb1_6 => ?_) (fun hb1_6 => ?_)
  ·simp only [go_sem,reduceIte,zA,zB,zC,zD,zE,zF,reduceCtorEq]
   refine cS (by have h := anySpn_ok p s hl; simp only [encSet] at h; exact h) ?_
   rintro _ rfl
   simp only [go_sem,reduceIte,zA,zB,zC,zD,zE,zF,reduceCtorEq]
   refine hK _ (congrArg bl ?_)
   rw [has_eq]; simp_all <;> (intros; omega)
  ·simp only [go_sem,reduceIte,zA,zB,zC,zD,zE,zF,reduceCtorEq]
   refine hK _ (congrArg bl ?_)
   rw [has_eq]; simp_all <;> (intros; omega)
 ·simp only [go_sem,reduceIte,zA,zB,zC,zD,zE,zF,reduceCtorEq]
  refine hK _ (congrArg bl ?_)
  rw [has_eq]; simp_all <;> (intros; omega)
theorem setEq_ok (s t : List Spn) (hl : s.length ≤ 1048576) : ∃ r_, (fun w => w = bl (decide (s = t))) r_ ∧ FnOk Tryz.prog 75 [encSet s, encSet t] r_ := by
 refine vfn tt_ok [] 26 [.tmp 4] (fn := Tryz.f75) Tryz.func75 rfl Tryz.call75 ⟨rfl, rfl, by simp⟩ fun K hK => ?_
 simp only [encSet]
 simp only [List.length_map,ev_neq78,go_sem,reduceIte,zA,zB,zC,zD,zE,zF,reduceCtorEq]
 refine gif (fun hc10 => ?_) (fun hc10 => ?_)
 ·have hres : false = decide (s = t) := by
   refine (decide_eq_false fun e => ?_).symm
   subst e; simp at hc10
  simp only [List.length_map,ev_neq78,go_sem,reduceIte,zA,zB,zC,zD,zE,zF,reduceCtorEq]
  exact hK _ (congrArg bl hres)
 ·have hst : s.length = t.length := by have := hc10; simp at this; omega
  simp only [List.length_map,ev_neq78,go_sem,reduceIte,zA,zB,zC,zD,zE,zF,reduceCtorEq]
  refine xloopL tt_ok [] [13] 0 [0,1,10,12] (fun vs => ((s.length : Int) - Go.Eng.intOf (vs.headD .undef)).toNat) (fun vs => ∃ i : Nat, vs = [num i] ∧ i ≤ s.length ∧ ∀ j < i, s[j]? = t[j]?) (by omega) (by simp only [List.length_map,ev_neq78,go_sem,reduceIte,zA,zB,zC,zD,zE,zF,reduceCtorEq]) (⟨0, rfl, Nat.zero_le _, fun j hj => absurd hj (Nat.not_lt_zero j)⟩) fun vs hI Z1 hZ1 => ?_
  obtain ⟨i, rfl, hi, hall⟩ := hI
  simp only [List.length_map,ev_neq78,go_sem,reduceIte,zA,zB,zC,zD,zE,zF,reduceCtorEq]
  refine gif (fun hc14 => ?_) (fun hc14 => ?_)
  ·have hlt : i < s.length := by simpa using hc14
   have hw := i64_succ i (by omega)
   obtain ⟨x, hx⟩ : ∃ x, s[i]? = some x := ⟨_, List.getElem?_eq_getElem hlt⟩
   obtain ⟨y, hy⟩ : ∃ y, t[i]? = some y := ⟨_, List.getElem?_eq_getElem (by omega)⟩
   simp only [hw,List.getElem?_map,hx,hy,encSpn,List.length_map,ev_neq78,go_sem,reduceIte,zA,zB,zC,zD,zE,zF,reduceCtorEq]
   refine xmixL tt_ok mixed_ok [⟨.n, 0, [], [], []⟩, ⟨.n, 0, [], [], []⟩, ⟨.r, 0, [], [], []⟩, ⟨.r, 0, [], [], []⟩, ⟨.n, 0, [], [], []⟩, ⟨.n, 0, [], [], []⟩, ⟨.r, 0, [], [], []⟩, ⟨.r, 0, [], [], []⟩, ⟨.n, 0, [], [], []⟩] 0 (by kernel_rfl) ?_
   simp only [hw,List.getElem?_map,hx,hy,encSpn,List.length_map,ev_neq78,go_sem,reduceIte,zA,zB,zC,zD,zE,zF,reduceCtorEq]
   refine gif (fun hc24 => ?_) (fun hc24 => ?_)
   ·have hres : false = decide (s = t) := by
     refine (decide_eq_false fun e => ?_).symm
     subst e; rw [hx] at hy; cases hy; simp at hc24
    simp only [hw,List.getElem?_map,hx,hy,encSpn,List.length_map,ev_neq78,go_sem,reduceIte,zA,zB,zC,zD,zE,zF,reduceCtorEq]
    exact hK _ (congrArg bl hres)
   ·simp only [hw,List.getElem?_map,hx,hy,encSpn,List.length_map,ev_neq78,go_sem,reduceIte,zA,zB,zC,zD,zE,zF,reduceCtorEq]
    refine hZ1 _ (endK (by omega) (by simp only [hw,List.getElem?_map,hx,hy,encSpn,List.length_map,ev_neq78,go_sem,reduceIte,zA,zB,zC,zD,zE,zF,reduceCtorEq]) ?_ ?_) <;> simp only [lks,lk,reduceIte,zE]
    ·refine ⟨i + 1, rfl, hlt, fun j hj => ?_⟩
     rcases Nat.lt_or_ge j i with h | h
     ·exact hall j h
     ·obtain rfl : j = i := by omega
      rw [hx, hy]
      have := hc24
      simp_all
    ·simp only [Go.Eng.intOf,List.headD_cons]; omega
  ·have hge : ¬ i < s.length := by simpa using hc14
   have hres : true = decide (s = t) := (decide_eq_true (list_eq_of hst fun j hj => hall j (by omega))).symm
   simp only [List.length_map,ev_neq78,go_sem,reduceIte,zA,zB,zC,zD,zE,zF,reduceCtorEq]
   exact hK _ (congrArg bl hres)
end Go.Proofs.YtefbaladomfccaaGreatDoor
end
