/-
  READINGS: what the reading of an argument (DataW.trod) says of its cells, for types made of truth values, integers, strings, slices, structures.
  READINGS, B: the abstract values that a reading gives.
  THE DATA of types, and the abstract values that stand for them (law27).
  WEIGHTS: trees with their strings.
  READINGS of programs.
  CLOSING: what is common to the laws.
  PLAIN LAWS of chapter 32: sets of places, releases, what roots reach, canonical bytes. No program in sight.
  ENCODINGS of chapter 32's data.
  CONTRACTS: bytes of names, exactly.
  CONTRACTS: versions, places.
  CONTRACTS: comparing.
-/
import Derived.Test.YtefbaladomfccaaGreatDoorG1
import Derived.Test.YtefbaladomfccaaGreatDoorRows
import Derived.IntWalk
import Derived.WalkKit
import Derived.ProofKit
import Derived.OpenShut
import Derived.WideKeyArgs
import Derived.Deep.DeepHandedRow
import Derived.Sort.Walk0
set_option linter.all false
section
namespace Go.Proofs.YtefbaladomfccaaGreatDoor
open Go.Eng
variable [Glob]
section
variable {H : Type} {enc : TypeId × Value → H} {P : Program} {w : World} {sp : Nat → Bool} {held : Bool} {f : Nat} {T : TypeId} {cs : List Value} {d : DataW H} {p : List MemPlace}
theorem trod_bool (hT : P.underlying T = some .bool) (h : DataW.trod enc P w 0 sp held (f + 1) T cs = some (d, p)) : ∃ b, cs = [.bool b] ∧ d = .lit (.bool b) := by
 unfold DataW.trod at h
 rw [hT] at h
 split at h <;> simp_all
theorem trod_int {k : IntKind} (hT : P.underlying T = some (.int k)) (h : DataW.trod enc P w 0 sp held (f + 1) T cs = some (d, p)) : ∃ n, cs = [.int k n] ∧ d = .lit (.int k n) := by
 unfold DataW.trod at h
 rw [hT] at h
 split at h <;> simp_all
theorem trod_string (hT : P.underlying T = some .string) (h : DataW.trod enc P w 0 sp held (f + 1) T cs = some (d, p)) : ∃ s, cs = [.string s] ∧ d = .lit (.string s.data.toList) := by
 unfold DataW.trod at h
 rw [hT] at h
 split at h <;> simp_all
theorem mapM_get {α β : Type} {g : α → Option β} : ∀ {l : List α} {r : List β}, l.mapM g = some r → r.length = l.length ∧ ∀ (i : Nat) (b : β), r[i]? = some b → ∃ a : α, l[i]? = some a ∧ g a = some b
 | [], r, h => by simp at h; subst h; simp
 | a :: l, r, h => by
  rw [List.mapM_cons] at h
  cases h1 : g a with
  | none => rw [h1] at h; simp at h
  | some b =>
   rw [h1] at h
   cases h2 : l.mapM g with
   | none => rw [h2] at h; simp at h
   | some r' =>
    rw [h2] at h
    simp at h
    subst h
    obtain ⟨e1, e2⟩ := mapM_get h2
    refine ⟨by simp [e1], fun i b' hb => ?_⟩
    cases i with
    | zero => simp at hb; subst hb; exact ⟨a, rfl, h1⟩
    | succ i => simpa using e2 i b' (by simpa using hb)
theorem trod_slice {T' : TypeId} (hT : P.underlying T = some (.slice T')) (h : DataW.trod enc P w 0 sp held (f + 1) T cs = some (d, p)) :
  (cs = [.slice none 0 0] ∧ d = .nil) ∨ ∃ (a : Addr) (cap : Nat) (elems spare : List (DataW H)), cs = [.slice (some a) elems.length cap] ∧ d = .slice elems spare ∧ elems.length ≤ cap ∧
   ∀ (i : Nat) (e : DataW H), elems[i]? = some e → ∃ cs' p', w.cells? 0 (a.add (i * P.cellsOf T')) (P.cellsOf T') = some cs' ∧ DataW.trod enc P w 0 sp held f T' cs' = some (e, p') := by
 unfold DataW.trod at h
 rw [hT] at h
 split at h <;> try (simp at *; done)
 ·rename_i e' h1 h2
  simp at h
  exact .inl ⟨rfl, h.1.symm⟩
 ·rename_i e' a len cap h1
  obtain rfl : T' = e' := by simpa using h1
  refine .inr ?_
  dsimp only at h
  split at h
  ·rename_i hb
   cases h3 : (List.range len).mapM (fun i => (w.cells? 0 (a.add (i * P.cellsOf T')) (P.cellsOf T')).bind (DataW.trod enc P w 0 sp held f T')) with
   | none => rw [h3] at h; simp at h
   | some elems =>
    rw [h3] at h
    obtain ⟨e1, e2⟩ := mapM_get h3
    simp only [Option.bind_some,Option.map_eq_some_iff] at h
    obtain ⟨rest, -, h5⟩ := h
    simp only [Prod.mk.injEq] at h5
    have hl : elems.length = len := by simpa using e1
    refine ⟨a, cap, elems.map (·.1), rest.map (·.1), by rw [List.length_map, hl], h5.1.symm, by rw [List.length_map, hl]; exact hb.2.1, fun i e he => ?_⟩
    rw [List.getElem?_map, Option.map_eq_some_iff] at he
    obtain ⟨x, hx, rfl⟩ := he
    obtain ⟨j, hj, hg⟩ := e2 i x hx
    have hij : j = i := by
     obtain ⟨hlt, hv⟩ := List.getElem?_eq_some_iff.1 hj
     simpa using hv.symm
    subst hij
    rw [Option.bind_eq_some_iff] at hg
    obtain ⟨cs', hc, ht⟩ := hg
    exact ⟨cs', x.2, hc, ht⟩
  ·simp at h
theorem trod_struct {fs : Array Field} (hT : P.underlying T = some (.struct fs)) (h : DataW.trod enc P w 0 sp held (f + 1) T cs = some (d, p)) :
  cs.length = P.cellsOf T ∧ ∃ parts : List (DataW H), d = .agg parts ∧ parts.length = fs.size ∧
   ∀ (i : Nat) (e : DataW H), parts[i]? = some e → ∃ (fd : Field) (p' : List MemPlace), fs[i]? = some fd ∧ DataW.trod enc P w 0 sp held f fd.type ((cs.drop fd.offset).take (P.cellsOf fd.type)) = some (e, p') := by
 unfold DataW.trod at h
 rw [hT] at h
 split at h <;> try (simp at *; done)
 ·rename_i fs' h1
  obtain rfl : fs = fs' := by simpa using h1
  split at h
  ·rename_i hl
   refine ⟨hl, ?_⟩
   rw [Option.map_eq_some_iff] at h
   obtain ⟨xs, h3, h4⟩ := h
   simp only [Prod.mk.injEq] at h4
   obtain ⟨e1, e2⟩ := mapM_get h3
   refine ⟨xs.map (·.1), h4.1.symm, by rw [List.length_map, e1]; simp, fun i e he => ?_⟩
   rw [List.getElem?_map, Option.map_eq_some_iff] at he
   obtain ⟨x, hx, rfl⟩ := he
   obtain ⟨fd, hj, hg⟩ := e2 i x hx
   exact ⟨fd, x.2, by simpa using hj, hg⟩
  ·simp at h
end
end Go.Proofs.YtefbaladomfccaaGreatDoor
end

section
namespace Go.Proofs.YtefbaladomfccaaGreatDoor
open Go.Eng
variable [Glob]
def Rd (F : Addr → Option Value) (hg : Gl F) (vs : List V) (cs : List Value) : Prop := RepL ⟨F, fun _ _ => none, hg⟩ vs cs ∧ ∀ c ∈ cs, c.oneCell' = true
section
variable {F : Addr → Option Value} {hg : Gl F}
theorem rd_one {v : Value} (h : v.oneCell' = true) : Rd F hg [.sc v] [v] := ⟨.cons (.sc _ _) (.nil _), by simpa using h⟩
theorem rd_step {a b : List V} {cs : List Value} {off n : Nat} (h1 : Rd F hg a ((cs.drop off).take n)) (h2 : Rd F hg b (cs.drop (off + n))) : Rd F hg (a ++ b) (cs.drop off) := by
 have e : cs.drop off = (cs.drop off).take n ++ cs.drop (off + n) := by rw [← List.drop_drop, List.take_append_drop]
 rw [e]
 refine ⟨.append h1.1 h2.1, fun c hc => ?_⟩
 rcases List.mem_append.1 hc with hc | hc
 ·exact h1.2 c hc
 ·exact h2.2 c hc
theorem rd_end {cs : List Value} {off : Nat} (h : cs.length = off) : Rd F hg [] (cs.drop off) := by
 rw [List.drop_eq_nil_of_le (by omega)]
 exact ⟨.nil _, by simp⟩
theorem addr_add_add (a : Addr) (x y : Nat) : (a.add x).add y = a.add (x + y) := by
 unfold Addr.add
 by_cases hx : x = 0
 ·subst hx; simp
 ·by_cases hy : y = 0
  ·subst hy; simp
  ·simp [hx, hy, Nat.add_assoc]
theorem choose_list {α β : Type} {R : Nat → β → α → Prop} : ∀ {es : List β}, (∀ (i : Nat) (e : β), es[i]? = some e → ∃ a : α, R i e a) → ∃ l : List α, l.length = es.length ∧ ∀ (i : Nat) (e : β) (a : α), es[i]? = some e → l[i]? = some a → R i e a := by
 intro es
 induction es generalizing R with
 | nil => intro _; exact ⟨[], rfl, by simp⟩
 | cons e r ih =>
  intro h
  obtain ⟨a, ha⟩ := h 0 e rfl
  obtain ⟨l, hl, hr⟩ := ih (R := fun i => R (i + 1)) fun i e he => h (i + 1) e (by simpa using he)
  refine ⟨a :: l, by simp [hl], fun i e' a' he ha' => ?_⟩
  cases i with
  | zero => simp at he ha'; subst he; subst ha'; exact ha
  | succ i => exact hr i e' a' (by simpa using he) (by simpa using ha')
theorem sum_le_bulk {H α : Type} {g : α → Nat} : ∀ {l : List α} {es : List (DataW H)}, l.length = es.length → (∀ (i : Nat) (e : DataW H) (a : α), es[i]? = some e → l[i]? = some a → g a ≤ Rows.uptoBulk e) → sumBy g l ≤ Rows.uptoBulkAll es
 | [], [], _, _ => by simp [sumBy]
 | a :: l, e :: es, hl, h => by
  have h1 := h 0 e a rfl rfl
  have h2 := sum_le_bulk (l := l) (es := es) (g := g) (by simpa using hl) fun i e a he ha => h (i + 1) e a (by simpa using he) (by simpa using ha)
  simp only [sumBy,Rows.uptoBulkAll]; omega
 | [], _ :: _, hl, _ => by simp at hl
 | _ :: _, [], hl, _ => by simp at hl
theorem rd_slice {H : Type} {enc : TypeId × Value → H} {P : Program} {w : World} {sp : Nat → Bool} {held : Bool} {f : Nat} {T T' : TypeId} {α : Type} {row : α → V} {g : α → Nat} {n : Nat}
  (hF : F = w.cell?) (hT : P.underlying T = some (.slice T')) (hn : P.cellsOf T' = n)
  (hr : ∀ {cs : List Value} {d : DataW H} {p : List MemPlace}, DataW.trod enc P w 0 sp held f T' cs = some (d, p) → ∃ a : α, Rd F hg (row a).cells cs ∧ g a ≤ Rows.uptoBulk d)
  {cs : List Value} {d : DataW H} {p : List MemPlace} (h : DataW.trod enc P w 0 sp held (f + 1) T cs = some (d, p)) :
  ∃ l : List α, Rd F hg [.slice (l.map row)] cs ∧ sumBy g l + 1 ≤ Rows.uptoBulk d := by
 rcases trod_slice hT h with ⟨rfl, rfl⟩ | ⟨a, cap, elems, spare, rfl, rfl, hc, he⟩
 ·exact ⟨[], ⟨.cons (.slice _ [] none 0 0 default (fun _ _ => default) (by simp) (by simp) (by simp) (by simp) (by simp) (by simp)) (.nil _), by simp [Value.oneCell']⟩, by simp [sumBy, Rows.uptoBulk]⟩
 ·obtain ⟨l, hl, hR⟩ := choose_list (es := elems) (R := fun i e (x : α) => ∃ cs' : List Value, w.cells? 0 (a.add (i * P.cellsOf T')) (P.cellsOf T') = some cs' ∧ Rd F hg (row x).cells cs' ∧ g x ≤ Rows.uptoBulk e) fun i e hi => by
   obtain ⟨cs', p', h1, h2⟩ := he i e hi
   obtain ⟨x, h3, h4⟩ := hr h2
   exact ⟨x, cs', h1, h3, h4⟩
  rw [hn] at hR
  have key : ∀ (i : Nat) (x : α), l[i]? = some x → ∃ cs' : List Value, Rd F hg (row x).cells cs' ∧ (row x).cells.length = n ∧ ∀ (j : Nat) (c : Value), cs'[j]? = some c → F (a.add (i * n + j)) = some c := fun i x hx => by
   obtain ⟨e, hei⟩ : ∃ e, elems[i]? = some e := ⟨_, List.getElem?_eq_getElem (by rw [← hl]; exact (List.getElem?_eq_some_iff.1 hx).1)⟩
   obtain ⟨cs', h1, h2, -⟩ := hR i e x hei hx
   unfold World.cells? at h1
   rw [if_pos (Nat.zero_le _)] at h1
   obtain ⟨e1, e2⟩ := mapM_get h1
   refine ⟨cs', h2, by rw [h2.1.1, e1]; simp, fun j c hj => ?_⟩
   obtain ⟨k, hk, hc'⟩ := e2 j c hj
   have hkj : k = j := by
    obtain ⟨hlt, hv⟩ := List.getElem?_eq_some_iff.1 hk
    simpa using hv.symm
   subst hkj
   rw [addr_add_add] at hc'
   rw [hF]; exact hc'
  have cell : ∀ (i : Nat) (r : V) (j : Nat) (c : V), (l.map row)[i]? = some r → r.cells[j]? = some c → ∃ x, F (a.add (i * n + j)) = some x ∧ x.oneCell' = true ∧ Rep ⟨F, fun _ _ => none, hg⟩ c x := fun i r j c hi hj => by
   rw [List.getElem?_map, Option.map_eq_some_iff] at hi
   obtain ⟨x, hx, rfl⟩ := hi
   obtain ⟨cs', h2, -, h3⟩ := key i x hx
   obtain ⟨y, hy, hrep⟩ := h2.1.get hj
   exact ⟨y, h3 j y hy, h2.2 y (List.mem_of_getElem? hy), hrep⟩
  refine ⟨l, ⟨.cons ?_ (.nil _), by simp [Value.oneCell']⟩, ?_⟩
  ·have := Rep.slice ⟨F, fun _ _ => none, hg⟩ (l.map row) (some a) cap n a (fun i j => (F (a.add (i * n + j))).getD default) (fun _ => rfl) (by rw [List.length_map, hl]; exact hc)
    (fun i r hi => by
     rw [List.getElem?_map, Option.map_eq_some_iff] at hi
     obtain ⟨x, hx, rfl⟩ := hi
     obtain ⟨_, -, h, -⟩ := key i x hx
     exact h)
    (fun i r j c hi hj => by obtain ⟨x, h, -, -⟩ := cell i r j c hi hj; show F _ = some ((F _).getD _); rw [h]; rfl)
    (fun i r j c hi hj => by obtain ⟨x, h, h', -⟩ := cell i r j c hi hj; show Value.oneCell' ((F _).getD _) = true; rw [h]; exact h')
    (fun i r j c hi hj => by obtain ⟨x, h, -, h'⟩ := cell i r j c hi hj; show Rep _ c ((F _).getD _); rw [h]; exact h')
   rwa [List.length_map, hl] at this
  ·have := sum_le_bulk (g := g) hl fun i e x he hx => by obtain ⟨_, -, -, h⟩ := hR i e x he hx; exact h
   simp only [Rows.uptoBulk]; omega
end
def PartsE {H : Type} (enc : TypeId × Value → H) (P : Program) (w : World) (sp : Nat → Bool) (held : Bool) (f : Nat) (cs : List Value) : List Field → (List (DataW H) → Prop) → Prop
 | [], K => K []
 | fd :: r, K => ∃ (e : DataW H) (p : List MemPlace), DataW.trod enc P w 0 sp held f fd.type ((cs.drop fd.offset).take (P.cellsOf fd.type)) = some (e, p) ∧ PartsE enc P w sp held f cs r fun es => K (e :: es)
theorem partsE_of {H : Type} {enc : TypeId × Value → H} {P : Program} {w : World} {sp : Nat → Bool} {held : Bool} {f : Nat} {cs : List Value} : ∀ {fs : List Field} {K : List (DataW H) → Prop} {es : List (DataW H)}, es.length = fs.length →
  (∀ (i : Nat) (e : DataW H), es[i]? = some e → ∃ (fd : Field) (p' : List MemPlace), fs[i]? = some fd ∧ DataW.trod enc P w 0 sp held f fd.type ((cs.drop fd.offset).take (P.cellsOf fd.type)) = some (e, p')) → K es → PartsE enc P w sp held f cs fs K
 | [], K, [], _, _, hK => hK
 | fd :: r, K, e :: es, hl, h, hK => by
  obtain ⟨fd', p', h1, h2⟩ := h 0 e rfl
  obtain rfl : fd = fd' := by simpa using h1
  exact ⟨e, p', h2, partsE_of (es := es) (by simpa using hl) (fun i e he => by simpa using h (i + 1) e (by simpa using he)) hK⟩
 | [], _, _ :: _, hl, _, _ => by simp at hl
 | _ :: _, _, [], hl, _, _ => by simp at hl
theorem trod_parts {H : Type} {enc : TypeId × Value → H} {P : Program} {w : World} {sp : Nat → Bool} {held : Bool} {f : Nat} {T : TypeId} {cs : List Value} {d : DataW H} {p : List MemPlace} {fs : Array Field}
  (hT : P.underlying T = some (.struct fs)) (h : DataW.trod enc P w 0 sp held (f + 1) T cs = some (d, p)) : cs.length = P.cellsOf T ∧ PartsE enc P w sp held f cs fs.toList fun es => d = .agg es := by
 obtain ⟨h1, parts, h2, h3, h4⟩ := trod_struct hT h
 exact ⟨h1, partsE_of (by simpa using h3) (fun i e he => by simpa using h4 i e he) h2⟩
end Go.Proofs.YtefbaladomfccaaGreatDoor
end

section
namespace Go.Proofs.YtefbaladomfccaaGreatDoor
open Go.Eng
variable [Glob]
mutual
inductive Ty where
 | mk (kind : Int) (mod name : ByteArray) (args : List Ty) (flds : List Fd)
inductive Fd where
 | mk (name : ByteArray) (ty : Ty) (opt : Bool)
end
structure Lb where
 name : ByteArray
 var : ByteArray
 ty : Ty
 opt : Bool
inductive Ex where
 | mk (kind : Int) (mod name text : ByteArray) (num : Int) (types : List Ty) (labels : List Lb) (kids : List Ex)
structure Pm where
 name : ByteArray
 variance : Int
 bound : Ty
structure Im where
 path : ByteArray
 alias : ByteArray
structure Dc where
 kind : Int
 name : ByteArray
 exported : Bool
 deprecated : Bool
 note : ByteArray
 params : List Pm
 lower : Ty
 upper : Ty
 type : Ty
 expr : Ex
 mod : ByteArray
 target : ByteArray
structure Md where
 path : ByteArray
 imports : List Im
 decls : List Dc

mutual
def encTy : Ty → V
 | .mk k m n ts fs => .agg [.sc (.int .i64 k), .sc (.string m), .sc (.string n), .slice (encTys ts), .slice (encFds fs)]
def encTys : List Ty → List V
 | [] => []
 | t :: r => encTy t :: encTys r
def encFd : Fd → V
 | .mk n (.mk k m n' ts fs) o => .agg [.sc (.string n), .sc (.int .i64 k), .sc (.string m), .sc (.string n'), .slice (encTys ts), .slice (encFds fs), .sc (.bool o)]
def encFds : List Fd → List V
 | [] => []
 | f :: r => encFd f :: encFds r
end
def Fd.ty : Fd → Ty | .mk _ t _ => t
def Fd.name : Fd → ByteArray | .mk n _ _ => n
def Fd.opt : Fd → Bool | .mk _ _ o => o
def Ty.flds : Ty → List Fd | .mk _ _ _ _ fs => fs
def Ty.args : Ty → List Ty | .mk _ _ _ ts _ => ts
def Ty.kind : Ty → Int | .mk k _ _ _ _ => k
def Ty.mod : Ty → ByteArray | .mk _ m _ _ _ => m
def Ty.name : Ty → ByteArray | .mk _ _ n _ _ => n
def Ty.parts (t : Ty) : List Ty := t.args ++ t.flds.map Fd.ty
def tyCells (t : Ty) : List V := [.sc (.int .i64 t.kind), .sc (.string t.mod), .sc (.string t.name), .slice (encTys t.args), .slice (encFds t.flds)]
theorem encTy_eq (t : Ty) : encTy t = .agg (tyCells t) := by obtain ⟨k, m, n, ts, fs⟩ := t; rfl
theorem encTys_map (ts : List Ty) : encTys ts = ts.map encTy := by induction ts with | nil => rfl | cons t r ih => simp [encTys, ih]
theorem encFds_map (ts : List Fd) : encFds ts = ts.map encFd := by induction ts with | nil => rfl | cons t r ih => simp [encFds, ih]
theorem encFd_eq (f : Fd) : encFd f = .agg ([str f.name] ++ tyCells f.ty ++ [bl f.opt]) := by obtain ⟨n', ⟨k, m, n, ts, fs⟩, o⟩ := f; rfl
def encLb (l : Lb) : V := .agg ([str l.name, str l.var] ++ tyCells l.ty ++ [bl l.opt])
mutual
def encEx : Ex → V
 | .mk k m n t i ts ls ks => .agg [.sc (.int .i64 k), .sc (.string m), .sc (.string n), .sc (.string t), .sc (.int .i64 i), .slice (encTys ts), .slice (ls.map encLb), .slice (encExs ks)]
def encExs : List Ex → List V
 | [] => []
 | e :: r => encEx e :: encExs r
end
def Ex.kind : Ex → Int | .mk k _ _ _ _ _ _ _ => k
def Ex.mod : Ex → ByteArray | .mk _ m _ _ _ _ _ _ => m
def Ex.name : Ex → ByteArray | .mk _ _ n _ _ _ _ _ => n
def Ex.text : Ex → ByteArray | .mk _ _ _ t _ _ _ _ => t
def Ex.num : Ex → Int | .mk _ _ _ _ i _ _ _ => i
def Ex.types : Ex → List Ty | .mk _ _ _ _ _ ts _ _ => ts
def Ex.labels : Ex → List Lb | .mk _ _ _ _ _ _ ls _ => ls
def Ex.kids : Ex → List Ex | .mk _ _ _ _ _ _ _ ks => ks
theorem encExs_map (ts : List Ex) : encExs ts = ts.map encEx := by induction ts with | nil => rfl | cons t r ih => simp [encExs, ih]
def exCells (e : Ex) : List V := [.sc (.int .i64 e.kind), .sc (.string e.mod), .sc (.string e.name), .sc (.string e.text), .sc (.int .i64 e.num), .slice (encTys e.types), .slice (e.labels.map encLb), .slice (encExs e.kids)]
theorem encEx_eq (e : Ex) : encEx e = .agg (exCells e) := by obtain ⟨k, m, n, t, i, ts, ls, ks⟩ := e; rfl
def encPm (p : Pm) : V := .agg ([str p.name, num p.variance] ++ tyCells p.bound)
def encIm (i : Im) : V := .agg [str i.path, str i.alias]
def encDc (d : Dc) : V := .agg ([num d.kind, str d.name, bl d.exported, bl d.deprecated, str d.note, .slice (d.params.map encPm)] ++ tyCells d.lower ++ tyCells d.upper ++ tyCells d.type ++ exCells d.expr ++ [str d.mod, str d.target])
def encMd (m : Md) : V := .agg [str m.path, .slice (m.imports.map encIm), .slice (m.decls.map encDc)]
theorem len_encTy (t : Ty) : (encTy t).cells.length = 5 := by rw [encTy_eq]; rfl
theorem first_ty (ts : List Ty) (n : Nat) : firstOk (encTys ts) n 5 = true := by
 rw [encTys_map]; unfold firstOk; split
 ·rename_i h; simp at h; obtain ⟨t, -, rfl⟩ := h; simp [len_encTy]
 ·rfl
theorem length_encTys (ts : List Ty) : (encTys ts).length = ts.length := by simp [encTys_map]
theorem length_encFds (ts : List Fd) : (encFds ts).length = ts.length := by simp [encFds_map]
theorem length_encExs (ts : List Ex) : (encExs ts).length = ts.length := by simp [encExs_map]
theorem get_encTys (ts : List Ty) (i : Nat) : (encTys ts)[i]? = ts[i]?.map encTy := by simp [encTys_map]
theorem get_encFds (ts : List Fd) (i : Nat) : (encFds ts)[i]? = ts[i]?.map encFd := by simp [encFds_map]
theorem get_encExs (ts : List Ex) (i : Nat) : (encExs ts)[i]? = ts[i]?.map encEx := by simp [encExs_map]

mutual
def Ty.size : Ty → Nat
 | .mk _ _ _ ts fs => 1 + sizeTys ts + sizeFds fs
def sizeTys : List Ty → Nat
 | [] => 0
 | t :: r => t.size + sizeTys r
def Fd.size : Fd → Nat
 | .mk _ (.mk _ _ _ ts fs) _ => 1 + sizeTys ts + sizeFds fs
def sizeFds : List Fd → Nat
 | [] => 0
 | f :: r => f.size + sizeFds r
end
theorem Fd.size_ty (f : Fd) : f.size = f.ty.size := by obtain ⟨n', ⟨k, m, n, ts, fs⟩, o⟩ := f; rfl
theorem sizeTys_sum (ts : List Ty) : sizeTys ts = sumBy Ty.size ts := by induction ts with | nil => rfl | cons t r ih => simp [sizeTys, sumBy, ih]
theorem sizeFds_sum (ts : List Fd) : sizeFds ts = sumBy (fun f => f.ty.size) ts := by induction ts with | nil => rfl | cons t r ih => simp [sizeFds, sumBy, ih, Fd.size_ty]
theorem Ty.size_parts (t : Ty) : t.size = 1 + sumBy Ty.size t.parts := by
 obtain ⟨k, m, n, ts, fs⟩ := t
 simp only [Ty.size,Ty.parts,Ty.args,Ty.flds,sumBy_append,sumBy_map,sizeTys_sum,sizeFds_sum]; omega
theorem Ty.size_pos (t : Ty) : 0 < t.size := by rw [Ty.size_parts]; omega
end Go.Proofs.YtefbaladomfccaaGreatDoor
end

section
namespace Go.Proofs.YtefbaladomfccaaGreatDoor
open Go.Eng
variable [Glob]
mutual
def Ty.wt : Ty → Nat
 | .mk _ m n ts fs => 1 + m.size + n.size + wtTys ts + wtFds fs
def wtTys : List Ty → Nat
 | [] => 0
 | t :: r => t.wt + wtTys r
def Fd.wt : Fd → Nat
 | .mk n (.mk _ m n' ts fs) _ => 1 + n.size + m.size + n'.size + wtTys ts + wtFds fs
def wtFds : List Fd → Nat
 | [] => 0
 | f :: r => f.wt + wtFds r
end
theorem Fd.wt_eq (f : Fd) : f.wt = f.name.size + f.ty.wt := by
 obtain ⟨n', ⟨k, m, n, ts, fs⟩, o⟩ := f
 simp only [Fd.wt,Ty.wt,Fd.name,Fd.ty]; omega
theorem wtTys_sum (ts : List Ty) : wtTys ts = sumBy Ty.wt ts := by induction ts with | nil => rfl | cons t r ih => simp [wtTys, sumBy, ih]
theorem wtFds_sum (ts : List Fd) : wtFds ts = sumBy Fd.wt ts := by induction ts with | nil => rfl | cons t r ih => simp [wtFds, sumBy, ih]
theorem Ty.wt_eq (t : Ty) : t.wt = 1 + t.mod.size + t.name.size + sumBy Ty.wt t.args + sumBy Fd.wt t.flds := by
 obtain ⟨k, m, n, ts, fs⟩ := t
 simp only [Ty.wt,wtTys_sum,wtFds_sum,Ty.mod,Ty.name,Ty.args,Ty.flds]
theorem sumBy_le {α : Type} {g h : α → Nat} (hle : ∀ a, g a ≤ h a) (l : List α) : sumBy g l ≤ sumBy h l := by
 induction l with
 | nil => exact Nat.le_refl _
 | cons a r ih => simp only [sumBy]; have := hle a; omega
theorem Ty.wt_parts (t : Ty) : 1 + t.mod.size + t.name.size + sumBy Ty.wt t.parts ≤ t.wt := by
 rw [t.wt_eq, Ty.parts, sumBy_append, sumBy_map]
 have := sumBy_le (g := fun f : Fd => f.ty.wt) (h := Fd.wt) (fun f => by rw [f.wt_eq]; omega) t.flds
 omega
theorem Ty.size_le_wt' : ∀ (N : Nat) (t : Ty), t.size ≤ N → t.size ≤ t.wt := by
 intro N
 induction N with
 | zero => intro t h; have := t.size_pos; omega
 | succ N ih =>
  intro t hN
  have h1 := t.size_parts
  have h2 := t.wt_parts
  have gen : ∀ (l : List Ty), sumBy Ty.size l ≤ N → sumBy Ty.size l ≤ sumBy Ty.wt l := by
   intro l
   induction l with
   | nil => intro _; exact Nat.le_refl _
   | cons a r ihr =>
    intro hl
    simp only [sumBy] at hl ⊢
    have := ih a (by omega); have := ihr (by omega); omega
  have := gen t.parts (by omega)
  omega
theorem Ty.size_le_wt (t : Ty) : t.size ≤ t.wt := Ty.size_le_wt' _ t (Nat.le_refl _)
def Lb.wt (l : Lb) : Nat := 1 + l.name.size + l.var.size + l.ty.wt
mutual
def Ex.wt : Ex → Nat
 | .mk _ m n t _ ts ls ks => 1 + m.size + n.size + t.size + sumBy Ty.wt ts + sumBy Lb.wt ls + wtExs ks
def wtExs : List Ex → Nat
 | [] => 0
 | e :: r => e.wt + wtExs r
end
theorem wtExs_eq (ts : List Ex) : wtExs ts = sumBy Ex.wt ts := by induction ts with | nil => rfl | cons t r ih => simp [wtExs, sumBy, ih]
theorem Ex.wt_eq (t : Ex) : t.wt = 1 + t.mod.size + t.name.size + t.text.size + sumBy Ty.wt t.types + sumBy Lb.wt t.labels + sumBy Ex.wt t.kids := by
 obtain ⟨k, m, n, x, i, ts, ls, ks⟩ := t
 rw [Ex.wt, wtExs_eq]; rfl
def dcCells (d : Dc) : List V := [num d.kind, str d.name, bl d.exported, bl d.deprecated, str d.note, .slice (d.params.map encPm)] ++ tyCells d.lower ++ tyCells d.upper ++ tyCells d.type ++ exCells d.expr ++ [str d.mod, str d.target]
theorem encDc_eq (d : Dc) : encDc d = .agg (dcCells d) := rfl
def mdCells (m : Md) : List V := [str m.path, .slice (m.imports.map encIm), .slice (m.decls.map encDc)]
theorem encMd_eq (m : Md) : encMd m = .agg (mdCells m) := rfl
def Pm.wt (p : Pm) : Nat := 1 + p.name.size + p.bound.wt
def Im.wt (i : Im) : Nat := 1 + i.path.size + i.alias.size
def Dc.wt (d : Dc) : Nat := 1 + d.name.size + d.note.size + sumBy Pm.wt d.params + d.lower.wt + d.upper.wt + d.type.wt + d.expr.wt + d.mod.size + d.target.size
def Md.wt (m : Md) : Nat := 1 + m.path.size + sumBy Im.wt m.imports + sumBy Dc.wt m.decls
theorem Ty.wt_pos (t : Ty) : 1 ≤ t.wt := by rw [t.wt_eq]; omega
theorem Lb.wt_pos (t : Lb) : 1 ≤ t.wt := by unfold Lb.wt; omega
theorem Ex.wt_pos (t : Ex) : 1 ≤ t.wt := by rw [t.wt_eq]; omega
theorem Pm.wt_pos (t : Pm) : 1 ≤ t.wt := by unfold Pm.wt; omega
theorem Im.wt_pos (t : Im) : 1 ≤ t.wt := by unfold Im.wt; omega
theorem Dc.wt_pos (t : Dc) : 1 ≤ t.wt := by unfold Dc.wt; omega
theorem Md.wt_pos (t : Md) : 1 ≤ t.wt := by unfold Md.wt; omega
theorem Fd.wt_pos (t : Fd) : 1 ≤ t.wt := by rw [t.wt_eq]; have := t.ty.wt_pos; omega
theorem mem_sum {α : Type} (g : α → Nat) {l : List α} {x : α} (h : x ∈ l) : g x ≤ sumBy g l := by
 obtain ⟨i, hi⟩ := List.mem_iff_getElem?.1 h
 exact sumBy_mem g hi
theorem Ex.wt_kid {e k : Ex} (h : k ∈ e.kids) : k.wt < e.wt := by have := mem_sum Ex.wt h; rw [e.wt_eq]; omega
theorem Ex.wt_type {e : Ex} {t : Ty} (h : t ∈ e.types) : t.wt < e.wt := by have := mem_sum Ty.wt h; rw [e.wt_eq]; omega
theorem Ex.wt_label {e : Ex} {l : Lb} (h : l ∈ e.labels) : l.wt < e.wt := by have := mem_sum Lb.wt h; rw [e.wt_eq]; omega
theorem Ex.wt_lens (e : Ex) : e.types.length + e.labels.length + e.kids.length < e.wt := by
 have h1 := length_le_sum Ty.wt Ty.wt_pos e.types
 have h2 := length_le_sum Lb.wt Lb.wt_pos e.labels
 have h3 := length_le_sum Ex.wt Ex.wt_pos e.kids
 rw [e.wt_eq]; omega
theorem Ty.wt_arg {e k : Ty} (h : k ∈ e.args) : k.wt < e.wt := by have := mem_sum Ty.wt h; rw [e.wt_eq]; omega
theorem Ty.wt_fld {e : Ty} {k : Fd} (h : k ∈ e.flds) : k.ty.wt < e.wt := by have := mem_sum Fd.wt h; have h2 := k.wt_eq; rw [e.wt_eq]; omega
theorem Ty.wt_lens (e : Ty) : e.args.length + e.flds.length < e.wt := by
 have h1 := length_le_sum Ty.wt Ty.wt_pos e.args
 have h2 := length_le_sum Fd.wt Fd.wt_pos e.flds
 rw [e.wt_eq]; omega
end Go.Proofs.YtefbaladomfccaaGreatDoor
end

section
namespace Go.Proofs.YtefbaladomfccaaGreatDoor
open Go.Eng
set_option maxHeartbeats 4000000
set_option maxRecDepth 100000
theorem okWide_slice {P : Program} {W : World} {base : Nat} {T e : TypeId} {v : Value} (hT : P.underlying T = some (.slice e)) (h : Value.okWide P W .any base T v) : ∃ a l c, v = .slice a l c := by
 unfold Value.okWide at h
 rw [hT] at h
 unfold Cell.okWide at h
 rw [hT] at h
 cases v with
 | slice a l c => exact ⟨a, l, c, rfl⟩
 | _ => simp [Cell.ok, hT] at h
variable [Glob]
theorem c3 : Tryz.prog.cellsOf 3 = 1 := by kernel_rfl
theorem c4 : Tryz.prog.cellsOf 4 = 1 := by kernel_rfl
theorem c9 : Tryz.prog.cellsOf 9 = 1 := by kernel_rfl

section
variable {F : Addr → Option Value} {hg : Gl F} {H : Type} {enc : TypeId × Value → H} {w : World} {sp : Nat → Bool} {held : Bool} {f : Nat} {cs : List Value} {d : DataW H} {p : List MemPlace}
theorem rd_last {a : List V} {cs : List Value} {off n : Nat} (h1 : Rd F hg a ((cs.drop off).take n)) (h : cs.length = off + n) : Rd F hg a (cs.drop off) := by
 rwa [List.take_of_length_le (by simp; omega)] at h1
theorem rd_num (h : DataW.trod enc Tryz.prog w 0 sp held f 3 cs = some (d, p)) : ∃ n : Int, Rd F hg [num n] cs ∧ 1 ≤ Rows.uptoBulk d := by
 cases f with
 | zero => simp [DataW.trod] at h
 | succ f => obtain ⟨n, rfl, rfl⟩ := trod_int Tryz.underlying3 h; exact ⟨n, rd_one rfl, by simp [Rows.uptoBulk]⟩
theorem rd_str (h : DataW.trod enc Tryz.prog w 0 sp held f 9 cs = some (d, p)) : ∃ s : ByteArray, Rd F hg [str s] cs ∧ s.size + 1 ≤ Rows.uptoBulk d := by
 cases f with
 | zero => simp [DataW.trod] at h
 | succ f =>
  obtain ⟨n, rfl, rfl⟩ := trod_string Tryz.underlying9 h
  exact ⟨n, rd_one rfl, by simp only [Rows.uptoBulk,Array.length_toList]; exact Nat.le_refl _⟩
theorem rd_bl (h : DataW.trod enc Tryz.prog w 0 sp held f 4 cs = some (d, p)) : ∃ b : Bool, Rd F hg [bl b] cs := by
 cases f with
 | zero => simp [DataW.trod] at h
 | succ f => obtain ⟨n, rfl, -⟩ := trod_bool Tryz.underlying4 h; exact ⟨n, rd_one rfl⟩
theorem rd_sl {T T' : TypeId} {α : Type} {row : α → V} {g : α → Nat} {n : Nat} (hF : F = w.cell?) (hT : Tryz.prog.underlying T = some (.slice T')) (hn : Tryz.prog.cellsOf T' = n)
  (hr : ∀ f', f' < f → ∀ {cs : List Value} {d : DataW H} {p : List MemPlace}, DataW.trod enc Tryz.prog w 0 sp held f' T' cs = some (d, p) → ∃ a : α, Rd F hg (row a).cells cs ∧ g a ≤ Rows.uptoBulk d)
  (h : DataW.trod enc Tryz.prog w 0 sp held f T cs = some (d, p)) : ∃ l : List α, Rd F hg [.slice (l.map row)] cs ∧ sumBy g l + 1 ≤ Rows.uptoBulk d := by
 cases f with
 | zero => simp [DataW.trod] at h
 | succ f => exact rd_slice hF hT hn (fun h => hr f (Nat.lt_succ_self f) h) h

end
theorem c100 : Tryz.prog.cellsOf 100 = 1 := by kernel_rfl
theorem c101 : Tryz.prog.cellsOf 101 = 1 := by kernel_rfl
theorem c103 : Tryz.prog.cellsOf 103 = 5 := by kernel_rfl
theorem c269 : Tryz.prog.cellsOf 269 = 7 := by kernel_rfl
theorem c104 : Tryz.prog.cellsOf 104 = 1 := by kernel_rfl
theorem c105 : Tryz.prog.cellsOf 105 = 1 := by kernel_rfl
theorem c107 : Tryz.prog.cellsOf 107 = 8 := by kernel_rfl
theorem c89 : Tryz.prog.cellsOf 89 = 1 := by kernel_rfl
theorem c90 : Tryz.prog.cellsOf 90 = 1 := by kernel_rfl
theorem c92 : Tryz.prog.cellsOf 92 = 3 := by kernel_rfl
theorem c99 : Tryz.prog.cellsOf 99 = 1 := by kernel_rfl
theorem c109 : Tryz.prog.cellsOf 109 = 31 := by kernel_rfl
theorem c169 : Tryz.prog.cellsOf 169 = 7 := by kernel_rfl
theorem c271 : Tryz.prog.cellsOf 271 = 8 := by kernel_rfl
theorem c423 : Tryz.prog.cellsOf 423 = 2 := by kernel_rfl
section
variable [Glob] {F : Addr → Option Value} {hg : Gl F} {H : Type} {enc : TypeId × Value → H} {w : World} {sp : Nat → Bool} {held : Bool} {f : Nat} {cs : List Value} {d : DataW H} {p : List MemPlace}
theorem rd_ty (hF : F = w.cell?) : ∀ (f : Nat) {cs : List Value} {d : DataW H} {p : List MemPlace}, DataW.trod enc Tryz.prog w 0 sp held f 103 cs = some (d, p) → ∃ t : Ty, Rd F hg (encTy t).cells cs ∧ t.wt ≤ Rows.uptoBulk d := by
 intro f
 induction f using Nat.strongRecOn with
 | ind f ih =>
  intro cs d p h
  cases f with
  | zero => simp [DataW.trod] at h
  | succ f =>
   obtain ⟨hl, d0, p0, h0, d1, p1, h1, d2, p2, h2, d3, p3, h3, d4, p4, h4, rfl⟩ := trod_parts Tryz.underlying103 h
   simp only [c3,c9,c100,c101] at h0 h1 h2 h3 h4
   rw [c103] at hl
   obtain ⟨k, hk, -⟩ := rd_num (F := F) (hg := hg) h0
   obtain ⟨m, hm, s1⟩ := rd_str (F := F) (hg := hg) h1
   obtain ⟨n, hn, s2⟩ := rd_str (F := F) (hg := hg) h2
   obtain ⟨ts, hts, bts⟩ := rd_sl (F := F) (hg := hg) hF Tryz.underlying100 c103 (fun f' hf' {cs d p} h => ih f' (by omega) h) h3
   obtain ⟨fs, hfs, bfs⟩ := rd_sl (F := F) (hg := hg) (α := Fd) (row := encFd) (g := Fd.wt) hF Tryz.underlying101 c269 (fun f' hf' {cs d p} h => by
    cases f' with
    | zero => simp [DataW.trod] at h
    | succ f' =>
     obtain ⟨hl, d0, p0, h0, d1, p1, h1, d2, p2, h2, rfl⟩ := trod_parts Tryz.underlying269 h
     simp only [c4,c9,c103] at h0 h1 h2
     rw [c269] at hl
     obtain ⟨n, hn, s0⟩ := rd_str (F := F) (hg := hg) h0
     obtain ⟨t, ht, bt⟩ := ih f' (by omega) h1
     obtain ⟨b, hb⟩ := rd_bl (F := F) (hg := hg) h2
     rw [encTy_eq] at ht
     refine ⟨.mk n t b, ?_, ?_⟩
     ·rw [encFd_eq]
      show Rd F hg ([str n] ++ tyCells t ++ [bl b]) (cs.drop 0)
      rw [List.append_assoc]
      exact rd_step hn (rd_step ht (rd_last hb hl))
     ·rw [Fd.wt_eq]; simp only [Rows.uptoBulk,Rows.uptoBulkAll,Fd.ty,Fd.name]; omega) h4
   refine ⟨.mk k m n ts fs, ?_, ?_⟩
   ·rw [encTy_eq]
    simp only [tyCells,Ty.kind,Ty.mod,Ty.name,Ty.args,Ty.flds,encTys_map,encFds_map]
    exact rd_step (off := 0) hk (rd_step hm (rd_step hn (rd_step hts (rd_step hfs (rd_end hl)))))
   ·simp only [Rows.uptoBulk,Rows.uptoBulkAll,Ty.wt,wtTys_sum,wtFds_sum]; omega
theorem rd_lb (hF : F = w.cell?) (h : DataW.trod enc Tryz.prog w 0 sp held f 271 cs = some (d, p)) : ∃ x : Lb, Rd F hg (encLb x).cells cs ∧ x.wt ≤ Rows.uptoBulk d := by
 cases f with
 | zero => simp [DataW.trod] at h
 | succ f =>
  obtain ⟨hl, d0, p0, h0, d1, p1, h1, d2, p2, h2, d3, p3, h3, rfl⟩ := trod_parts Tryz.underlying271 h
  simp only [c4,c9,c103] at h0 h1 h2 h3
  rw [c271] at hl
  obtain ⟨n, hn, s0⟩ := rd_str (F := F) (hg := hg) h0
  obtain ⟨v, hv, s1⟩ := rd_str (F := F) (hg := hg) h1
  obtain ⟨t, ht, bt⟩ := rd_ty (hg := hg) hF _ h2
  obtain ⟨b, hb⟩ := rd_bl (F := F) (hg := hg) h3
  rw [encTy_eq] at ht
  refine ⟨⟨n, v, t, b⟩, ?_, ?_⟩
  ·show Rd F hg ([str n, str v] ++ tyCells t ++ [bl b]) (cs.drop 0)
   rw [List.append_assoc]
   exact rd_step (a := [str n]) hn (rd_step (a := [str v]) hv (rd_step (b := [bl b]) ht (rd_last hb hl)))
  ·simp only [Rows.uptoBulk,Rows.uptoBulkAll,Lb.wt]; omega
theorem rd_ex (hF : F = w.cell?) : ∀ (f : Nat) {cs : List Value} {d : DataW H} {p : List MemPlace}, DataW.trod enc Tryz.prog w 0 sp held f 107 cs = some (d, p) → ∃ t : Ex, Rd F hg (encEx t).cells cs ∧ t.wt ≤ Rows.uptoBulk d := by
 intro f
 induction f using Nat.strongRecOn with
 | ind f ih =>
  intro cs d p h
  cases f with
  | zero => simp [DataW.trod] at h
  | succ f =>
   obtain ⟨hl, d0, p0, h0, d1, p1, h1, d2, p2, h2, d3, p3, h3, d4, p4, h4, d5, p5, h5, d6, p6, h6, d7, p7, h7, rfl⟩ := trod_parts Tryz.underlying107 h
   simp only [c3,c9,c100,c104,c105] at h0 h1 h2 h3 h4 h5 h6 h7
   rw [c107] at hl
   obtain ⟨k, hk, -⟩ := rd_num (F := F) (hg := hg) h0
   obtain ⟨m, hm, s1⟩ := rd_str (F := F) (hg := hg) h1
   obtain ⟨n, hn, s2⟩ := rd_str (F := F) (hg := hg) h2
   obtain ⟨x, hx, s3⟩ := rd_str (F := F) (hg := hg) h3
   obtain ⟨i, hi, -⟩ := rd_num (F := F) (hg := hg) h4
   obtain ⟨ts, hts, bts⟩ := rd_sl (F := F) (hg := hg) hF Tryz.underlying100 c103 (fun f' _ {cs d p} h => rd_ty hF f' h) h5
   obtain ⟨ls, hls, bls⟩ := rd_sl (F := F) (hg := hg) hF Tryz.underlying104 c271 (fun f' _ {cs d p} h => rd_lb hF h) h6
   obtain ⟨ks, hks, bks⟩ := rd_sl (F := F) (hg := hg) hF Tryz.underlying105 c107 (fun f' hf' {cs d p} h => ih f' (by omega) h) h7
   refine ⟨.mk k m n x i ts ls ks, ?_, ?_⟩
   ·rw [encEx_eq]
    simp only [exCells,Ex.kind,Ex.mod,Ex.name,Ex.text,Ex.num,Ex.types,Ex.labels,Ex.kids,encTys_map,encExs_map]
    exact rd_step (off := 0) hk (rd_step hm (rd_step hn (rd_step hx (rd_step hi (rd_step hts (rd_step hls (rd_step hks (rd_end hl))))))))
   ·simp only [Rows.uptoBulk,Rows.uptoBulkAll,Ex.wt,wtExs_eq]; omega
theorem rd_pm (hF : F = w.cell?) (h : DataW.trod enc Tryz.prog w 0 sp held f 169 cs = some (d, p)) : ∃ x : Pm, Rd F hg (encPm x).cells cs ∧ x.wt ≤ Rows.uptoBulk d := by
 cases f with
 | zero => simp [DataW.trod] at h
 | succ f =>
  obtain ⟨hl, d0, p0, h0, d1, p1, h1, d2, p2, h2, rfl⟩ := trod_parts Tryz.underlying169 h
  simp only [c3,c9,c103] at h0 h1 h2
  rw [c169] at hl
  obtain ⟨n, hn, s0⟩ := rd_str (F := F) (hg := hg) h0
  obtain ⟨v, hv, -⟩ := rd_num (F := F) (hg := hg) h1
  obtain ⟨t, ht, bt⟩ := rd_ty (hg := hg) hF _ h2
  rw [encTy_eq] at ht
  refine ⟨⟨n, v, t⟩, ?_, ?_⟩
  ·show Rd F hg ([str n, num v] ++ tyCells t) (cs.drop 0)
   exact rd_step (a := [str n]) hn (rd_step (a := [num v]) hv (rd_last ht hl))
  ·simp only [Rows.uptoBulk,Rows.uptoBulkAll,Pm.wt]; omega
theorem rd_im (h : DataW.trod enc Tryz.prog w 0 sp held f 423 cs = some (d, p)) : ∃ x : Im, Rd F hg (encIm x).cells cs ∧ x.wt ≤ Rows.uptoBulk d := by
 cases f with
 | zero => simp [DataW.trod] at h
 | succ f =>
  obtain ⟨hl, d0, p0, h0, d1, p1, h1, rfl⟩ := trod_parts Tryz.underlying423 h
  simp only [c9] at h0 h1
  rw [c423] at hl
  obtain ⟨n, hn, s0⟩ := rd_str (F := F) (hg := hg) h0
  obtain ⟨v, hv, s1⟩ := rd_str (F := F) (hg := hg) h1
  refine ⟨⟨n, v⟩, ?_, ?_⟩
  ·exact rd_step (a := [str n]) (off := 0) hn (rd_last (a := [str v]) hv hl)
  ·simp only [Rows.uptoBulk,Rows.uptoBulkAll,Im.wt]; omega
theorem rd_dc (hF : F = w.cell?) (h : DataW.trod enc Tryz.prog w 0 sp held f 109 cs = some (d, p)) : ∃ x : Dc, Rd F hg (encDc x).cells cs ∧ x.wt ≤ Rows.uptoBulk d := by
 cases f with
 | zero => simp [DataW.trod] at h
 | succ f =>
  obtain ⟨hl, d0, p0, h0, d1, p1, h1, d2, p2, h2, d3, p3, h3, d4, p4, h4, d5, p5, h5, d6, p6, h6, d7, p7, h7, d8, p8, h8, d9, p9, h9, d10, p10, h10, d11, p11, h11, rfl⟩ := trod_parts Tryz.underlying109 h
  simp only [c3,c4,c9,c103,c107,c99] at h0 h1 h2 h3 h4 h5 h6 h7 h8 h9 h10 h11
  rw [c109] at hl
  obtain ⟨k, hk, -⟩ := rd_num (F := F) (hg := hg) h0
  obtain ⟨n, hn, s1⟩ := rd_str (F := F) (hg := hg) h1
  obtain ⟨x, hx⟩ := rd_bl (F := F) (hg := hg) h2
  obtain ⟨y, hy⟩ := rd_bl (F := F) (hg := hg) h3
  obtain ⟨o, ho, s4⟩ := rd_str (F := F) (hg := hg) h4
  obtain ⟨ps, hps, bps⟩ := rd_sl (F := F) (hg := hg) hF Tryz.underlying99 c169 (fun f' _ {cs d p} h => rd_pm hF h) h5
  obtain ⟨lo, hlo, blo⟩ := rd_ty (hg := hg) hF _ h6
  obtain ⟨up, hup, bup⟩ := rd_ty (hg := hg) hF _ h7
  obtain ⟨ty, hty, bty⟩ := rd_ty (hg := hg) hF _ h8
  obtain ⟨e, he, be⟩ := rd_ex (hg := hg) hF _ h9
  obtain ⟨m, hm, s10⟩ := rd_str (F := F) (hg := hg) h10
  obtain ⟨t, ht, s11⟩ := rd_str (F := F) (hg := hg) h11
  rw [encTy_eq] at hlo hup hty
  rw [encEx_eq] at he
  refine ⟨⟨k, n, x, y, o, ps, lo, up, ty, e, m, t⟩, ?_, ?_⟩
  ·show Rd F hg ([num k, str n, bl x, bl y, str o, .slice (ps.map encPm)] ++ tyCells lo ++ tyCells up ++ tyCells ty ++ exCells e ++ [str m, str t]) (cs.drop 0)
   simp only [List.append_assoc]
   exact rd_step (a := [num k]) hk (rd_step (a := [str n]) hn (rd_step (a := [bl x]) hx (rd_step (a := [bl y]) hy (rd_step (a := [str o]) ho (rd_step (a := [.slice (ps.map encPm)]) hps
    (rd_step hlo (rd_step hup (rd_step hty (rd_step he (rd_step (a := [str m]) hm (rd_last (a := [str t]) ht hl)))))))))))
  ·simp only [Rows.uptoBulk,Rows.uptoBulkAll,Dc.wt]; omega
theorem rd_md (hF : F = w.cell?) (h : DataW.trod enc Tryz.prog w 0 sp held f 92 cs = some (d, p)) : ∃ x : Md, Rd F hg (encMd x).cells cs ∧ x.wt ≤ Rows.uptoBulk d := by
 cases f with
 | zero => simp [DataW.trod] at h
 | succ f =>
  obtain ⟨hl, d0, p0, h0, d1, p1, h1, d2, p2, h2, rfl⟩ := trod_parts Tryz.underlying92 h
  simp only [c9,c89,c90] at h0 h1 h2
  rw [c92] at hl
  obtain ⟨n, hn, s0⟩ := rd_str (F := F) (hg := hg) h0
  obtain ⟨is, his, bis⟩ := rd_sl (F := F) (hg := hg) hF Tryz.underlying89 c423 (fun f' _ {cs d p} h => rd_im h) h1
  obtain ⟨ds, hds, bds⟩ := rd_sl (F := F) (hg := hg) hF Tryz.underlying90 c109 (fun f' _ {cs d p} h => rd_dc hF h) h2
  refine ⟨⟨n, is, ds⟩, ?_, ?_⟩
  ·exact rd_step (a := [str n]) (off := 0) hn (rd_step (a := [.slice (is.map encIm)]) his (rd_last (a := [.slice (ds.map encDc)]) hds hl))
  ·simp only [Rows.uptoBulk,Rows.uptoBulkAll,Md.wt]; omega
theorem rd_mds (hF : F = w.cell?) (h : DataW.trod enc Tryz.prog w 0 sp held f 23 cs = some (d, p)) : ∃ l : List Md, Rd F hg [.slice (l.map encMd)] cs ∧ sumBy Md.wt l + 1 ≤ Rows.uptoBulk d :=
 rd_sl (row := encMd) (g := Md.wt) hF Tryz.underlying23 c92 (fun f' _ {cs d p} h => rd_md hF h) h
end
theorem mds_B {l : List Md} (h : sumBy Md.wt l ≤ 1048576) : l.length ≤ 1048576 ∧ ∀ m ∈ l, m.wt ≤ 1048576 :=
 ⟨Nat.le_trans (length_le_sum Md.wt Md.wt_pos l) h, fun m hm => Nat.le_trans (mem_sum Md.wt hm) h⟩
end Go.Proofs.YtefbaladomfccaaGreatDoor
end

section
namespace Go.Proofs.YtefbaladomfccaaGreatDoor
open Go.Eng
set_option maxRecDepth 100000
open Go.ChangeShapes Go.WideShapes Go.ChangeAt Go.RowKit
@[reducible] def gOf (n : Int) : Glob := { n := n, κ := fun _ => none, ok := fun j b hb => (by cases hb), g := some 0, tabs := fun _ => none }
theorem cell_int {W : World} {v : Value} (hok : Cell.ok Tryz.prog W .any 0 3 v) : ∃ n : Int, v = .int .i64 n := by
 unfold Cell.ok at hok
 rw [Tryz.underlying3] at hok
 cases v with
 | int k n => exact ⟨n, by rw [show k = .i64 from hok.1]⟩
 | _ => exact hok.elim
theorem maxLen_at {W : World} (hS : W.ShapedOpen Tryz.prog) : ∃ n : Int, W.cell? ⟨0, 0, none⟩ = some (.int .i64 n) := by
 have h0 : (((begin Tryz.prog (fun _ _ => 0) default).world.heap[0]?).bind Obj.row?) = some (#[.int .i64 0], 3) := by kernel_rfl
 obtain ⟨cs, hc, hz, hr⟩ := hS.1 0 _ _ (of_decide_eq_true (by kernel_rfl)) h0
 obtain ⟨ts, h1, -, h3⟩ := hr (by kernel_rfl)
 obtain rfl : [3] = ts := Option.some.inj ((show Tryz.prog.cellTypes Tryz.prog.depth 3 = some [3] by kernel_rfl).symm.trans h1)
 have hz' : cs.size = 1 := hz
 obtain ⟨v, hv⟩ : ∃ v, cs[0]? = some v := ⟨cs[0], Array.getElem?_eq_getElem (by omega)⟩
 obtain ⟨u, hu, hok⟩ := h3 0 v hv
 obtain rfl : 3 = u := by simpa using hu
 obtain ⟨n, rfl⟩ := cell_int hok
 exact ⟨n, by simp [World.cell?, hc, hv]⟩
theorem post_kept {H : Type} {enc : TypeId × Value → H} {P : Program} {f : Func} {s : ChangeSpec} {apart fresh handsOn again : Bool} {W W' : World} {args : Array Value} {v : Value} {ds gs : List (DataW H)} {before pa pv : List MemPlace}
  (hW : DataW.Whole enc P f.params.toList s.vars apart W args.toList ds gs before)
  (hres : ∀ (b : Nat) (sp : Nat → Bool) (hd : Bool), DataW.TrodAll enc P W' b sp hd f.resultTypes.toList (v.resultList f.resultTypes.size) (s.fn H (ds ++ gs)).results [])
  (hargs : ∀ sp : Nat → Bool, (∀ p ∈ before, sp p.block = true) → DataW.TrodAll enc P W' 0 sp true f.params.toList args.toList (s.fn H (ds ++ gs)).args pa)
  (hvars : ∀ sp : Nat → Bool, (∀ p ∈ before, sp p.block = true) → DataW.TrodVars enc P W' sp s.vars (s.fn H (ds ++ gs)).vars pv)
  (hps : before = pa ++ pv) (hb : Below W.heap.size W W')
  (hok : ∀ (j : Nat) (t : TypeId) (r : Value), f.resultTypes[j]? = some t → (v.resultList f.resultTypes.size)[j]? = some r → Value.okWide P W' .any 0 t r) :
  s.post enc P f apart fresh handsOn again W args v W' := by
 have hlt := hW.lt
 refine ⟨ds, gs, before, [], pa, pv, hW, hres _ _ _, hargs _ (fun p hp => by simpa using hlt p hp), hvars _ (fun p hp => by simpa using hlt p hp), hb.frame _, fun _ => ?_⟩
 obtain ⟨_, _, _, _, _, hz, hn⟩ := hW
 refine ⟨hok, _, _, ([] ++ pa) ++ pv, ⟨[] ++ pa, pv, trodAll_append (hargs _ (fun _ _ => rfl)) (hres _ _ _), hvars _ (fun _ _ => rfl), rfl, fun b off hp => ?_, fun ha => ?_⟩, fun p hp _ => ?_⟩
 ·have hp' : MemPlace.cell b off ∈ before := by rw [hps]; simpa using hp
  rw [hb.frozen (show (⟨b, off, none⟩ : Addr).block < W.heap.size from hlt _ hp')]
  exact hz b off hp'
 ·have := hn ha
  rw [hps] at this
  simpa using this
 ·rw [hps]
  simpa using hp
theorem rep_sl {F : Addr → Option Value} [Glob] {hg : Gl F} {rows : List V} {a : Option Addr} {l c : Nat} (h : Rd F hg [.slice rows] (Value.slice a l c).cells.toList) : Rep ⟨F, fun _ _ => none, hg⟩ (.slice rows) (.slice a l c) := h.1.2 0 _ _ rfl rfl
end Go.Proofs.YtefbaladomfccaaGreatDoor
end

section
namespace Go.Proofs.YtefbaladomfccaaGreatDoor
structure Spn where
 lo : Int
 hi : Int
structure Ver where
 mj : Int
 mn : Int
 pt : Int
structure Rq where
 path : ByteArray
 set : List Spn
structure Rl where
 path : ByteArray
 ver : Ver
 reqs : List Rq
 ar : ByteArray
 itf : ByteArray
 ce : ByteArray
 yk : Bool
structure Sel where
 path : ByteArray
 ver : Ver
theorem Ver.ext' {a b : Ver} (h1 : a.mj = b.mj) (h2 : a.mn = b.mn) (h3 : a.pt = b.pt) : a = b := by cases a; cases b; simp_all
theorem Spn.ext' {a b : Spn} (h1 : a.lo = b.lo) (h2 : a.hi = b.hi) : a = b := by cases a; cases b; simp_all
instance : DecidableEq Spn := fun a b => if h : a.lo = b.lo ∧ a.hi = b.hi then .isTrue (Spn.ext' h.1 h.2) else .isFalse fun e => h (by subst e; exact ⟨rfl, rfl⟩)
theorem Sel.ext' {a b : Sel} (h1 : a.path = b.path) (h2 : a.ver = b.ver) : a = b := by cases a; cases b; simp_all
instance : DecidableEq Ver := fun a b => if h : a.mj = b.mj ∧ a.mn = b.mn ∧ a.pt = b.pt then .isTrue (Ver.ext' h.1 h.2.1 h.2.2) else .isFalse fun e => h (by subst e; exact ⟨rfl, rfl, rfl⟩)
instance : DecidableEq Sel := fun a b => if h : a.path = b.path ∧ a.ver = b.ver then .isTrue (Sel.ext' h.1 h.2) else .isFalse fun e => h (by subst e; exact ⟨rfl, rfl⟩)
def Rl.key (r : Rl) : Sel := ⟨r.path, r.ver⟩
def Ver.place (v : Ver) : Int := 1000 * v.mn + v.pt
def has (s : List Spn) (p : Int) : Bool := decide (0 ≤ p) && decide (p < 1000000) && s.any fun x => decide (x.lo ≤ p) && decide (p < x.hi)
def hits (q : Rq) (r : Rl) : Bool := decide (q.path = r.path) && has q.set r.ver.place
inductive Rch (l : List Rl) (roots : List Rq) : Rl → Prop
 | root (q : Rq) (r : Rl) (hq : q ∈ roots) (hr : r ∈ l) (h : hits q r = true) : Rch l roots r
 | step (a : Rl) (q : Rq) (r : Rl) (ha : Rch l roots a) (hq : q ∈ a.reqs) (hr : r ∈ l) (h : hits q r = true) : Rch l roots r
theorem Rch.mem {l : List Rl} {roots : List Rq} {r : Rl} (h : Rch l roots r) : r ∈ l := by cases h <;> assumption
theorem Rch.mono {l : List Rl} {roots more : List Rq} (hm : ∀ q ∈ roots, q ∈ more) {r : Rl} (h : Rch l roots r) : Rch l more r := by
 induction h with
 | root q r hq hr h => exact .root q r (hm q hq) hr h
 | step a q r _ hq hr h ih => exact .step a q r ih hq hr h
inductive Need (l : List Rl) (roots : List Rq) : ByteArray → Prop
 | root (q : Rq) (hq : q ∈ roots) : Need l roots q.path
 | step (a : Rl) (q : Rq) (ha : a ∈ l) (hn : Need l roots a.path) (hq : q ∈ a.reqs) : Need l roots q.path
theorem Rch.sub {l m : List Rl} {roots : List Rq} (hlm : ∀ r ∈ l, r ∈ m) {r : Rl} (h : Rch l roots r) : Rch m roots r := by
 induction h with
 | root q r hq hr h => exact .root q r hq (hlm r hr) h
 | step a q r _ hq hr h ih => exact .step a q r ih hq (hlm r hr) h
end Go.Proofs.YtefbaladomfccaaGreatDoor
end

section
namespace Go.Proofs.YtefbaladomfccaaGreatDoor
open Go.Eng
variable [Glob]
def encSpn (s : Spn) : V := .agg [num s.lo, num s.hi]
def encSet (l : List Spn) : V := .slice (l.map encSpn)
def encRq (q : Rq) : V := .agg [str q.path, encSet q.set]
def encRqs (l : List Rq) : V := .slice (l.map encRq)
def encSel (s : Sel) : V := .agg [str s.path, num s.ver.mj, num s.ver.mn, num s.ver.pt]
def encSels (l : List Sel) : V := .slice (l.map encSel)
def rlCells (r : Rl) : List V := [str r.path, num r.ver.mj, num r.ver.mn, num r.ver.pt, encRqs r.reqs, str r.ar, str r.itf, str r.ce, bl r.yk]
def encRl (r : Rl) : V := .agg (rlCells r)
def encRls (l : List Rl) : V := .slice (l.map encRl)
attribute [go_sem] encSet encRqs encSels encRls
end Go.Proofs.YtefbaladomfccaaGreatDoor
end

section
namespace Go.Proofs.YtefbaladomfccaaGreatDoor
open Go.Eng
open Nat renaming reduceAdd → zA, reduceLT → zB, reduceLeDiff → zC, reduceMul → zD, reduceEqDiff → zE, reduceSub → zF
variable [Glob]
set_option maxHeartbeats 4000000
set_option maxRecDepth 100000
theorem ne_get {s e : ByteArray} (he : e.size = 0) (h : (!(s.toList == e.toList)) = true) : ∃ c, s[0]? = some c := by
 refine get_byte (s := s) (i := 0) ?_
 rcases Nat.eq_zero_or_pos s.size with hz | hz
 ·exfalso
  have e1 : s.toList = e.toList := by
   rw [ByteArray.toList_eq, ByteArray.toList_eq]
   have a1 : s.data.toList = [] := by simpa [← List.length_eq_zero_iff, Array.length_toList] using hz
   have a2 : e.data.toList = [] := by simpa [← List.length_eq_zero_iff, Array.length_toList] using he
   rw [a1, a2]
  rw [e1] at h; simp at h
 ·exact hz
def isSm (c : Int) : Bool := decide (97 ≤ c) && decide (c ≤ 122)
def isCp (c : Int) : Bool := decide (65 ≤ c) && decide (c ≤ 90)
def isDg (c : Int) : Bool := decide (48 ≤ c) && decide (c ≤ 57)
def isWd (c : Int) : Bool := isSm c || isCp c || isDg c || decide (c = 95)
def isSd (c : Int) : Bool := isSm c || isDg c
def allP (p : Int → Bool) (s : ByteArray) : Bool := s.data.toList.all fun b => p b.toNat
def byteAt (s : ByteArray) (i : Nat) : Int := match s[i]? with | some c => c.toNat | none => 0
theorem byte_get {s : ByteArray} {i : Nat} {c : UInt8} (h : s[i]? = some c) : s.data.toList[i]? = some c := by
 obtain ⟨h1, h2⟩ := getElem?_eq_some_iff.1 h
 have h3 : i < s.data.toList.length := by simpa using h1
 rw [List.getElem?_eq_getElem h3]
 exact congrArg some (by rw [Array.getElem_toList]; exact h2)
theorem byteAt_of {s : ByteArray} {i : Nat} {c : UInt8} (h : s[i]? = some c) : byteAt s i = c.toNat := by unfold byteAt; rw [h]
theorem allP_true {p : Int → Bool} {s : ByteArray} (h : ∀ j < s.size, ∀ b, s[j]? = some b → p b.toNat = true) : allP p s = true := by
 refine List.all_eq_true.2 fun b hb => ?_
 obtain ⟨j, hj⟩ := List.mem_iff_getElem?.1 hb
 have h1 : j < s.size := by have := (List.getElem?_eq_some_iff.1 hj).1; simpa using this
 obtain ⟨c, hc⟩ := get_byte h1
 have := byte_get hc
 rw [hj] at this; cases this
 exact h j h1 b hc
theorem allP_false {p : Int → Bool} {s : ByteArray} {j : Nat} {b : UInt8} (h : s[j]? = some b) (hp : p b.toNat = false) : allP p s = false := by
 have hm := List.mem_of_getElem? (byte_get h)
 cases ha : allP p s with
 | false => rfl
 | true => have := List.all_eq_true.1 ha b hm; rw [hp] at this; cases this
theorem size_ne {s e : ByteArray} (he : e.size = 0) (h : (!(s.toList == e.toList)) = true) : 1 ≤ s.size := by
 obtain ⟨c, hc⟩ := ne_get he h
 exact (getElem?_eq_some_iff.1 hc).1
theorem size_eq0 {s e : ByteArray} (he : e.size = 0) (h : (!(s.toList == e.toList)) = false) : s.size = 0 := by
 have e1 : s.toList = e.toList := by simpa using h
 rw [ByteArray.toList_eq, ByteArray.toList_eq] at e1
 have := congrArg List.length e1
 simp only [Array.length_toList] at this
 exact Eq.trans this he
theorem small_ex (c : Int) : ∃ r_, (fun w => w = bl (isSm c)) r_ ∧ FnOk Tryz.prog 172 [.sc (.int .u8 c)] r_ := by
 refine vfn tt_ok [] 9 [.tmp 2] (fn := Tryz.f172) Tryz.func172 rfl Tryz.call172 ⟨rfl, rfl, by simp⟩ fun K hK => ?_
 simp only [go_sem,reduceIte,zA,zB,zC,zD,zE,zF,reduceCtorEq]
 refine gif (fun hb1_2 => ?_) (fun hb1_2 => ?_)
 ·simp only [go_sem,reduceIte,zA,zB,zC,zD,zE,zF,reduceCtorEq]
  exact hK _ (congrArg bl (by simp_all [isSm] <;> (intros; omega)))
 ·simp only [go_sem,reduceIte,zA,zB,zC,zD,zE,zF,reduceCtorEq]
  exact hK _ (congrArg bl (by simp_all [isSm] <;> (intros; omega)))
theorem capital_ex (c : Int) : ∃ r_, (fun w => w = bl (isCp c)) r_ ∧ FnOk Tryz.prog 270 [.sc (.int .u8 c)] r_ := by
 refine vfn tt_ok [] 9 [.tmp 2] (fn := Tryz.f270) Tryz.func270 rfl Tryz.call270 ⟨rfl, rfl, by simp⟩ fun K hK => ?_
 simp only [go_sem,reduceIte,zA,zB,zC,zD,zE,zF,reduceCtorEq]
 refine gif (fun hb1_2 => ?_) (fun hb1_2 => ?_)
 ·simp only [go_sem,reduceIte,zA,zB,zC,zD,zE,zF,reduceCtorEq]
  exact hK _ (congrArg bl (by simp_all [isCp] <;> (intros; omega)))
 ·simp only [go_sem,reduceIte,zA,zB,zC,zD,zE,zF,reduceCtorEq]
  exact hK _ (congrArg bl (by simp_all [isCp] <;> (intros; omega)))
theorem digit_ex (c : Int) : ∃ r_, (fun w => w = bl (isDg c)) r_ ∧ FnOk Tryz.prog 173 [.sc (.int .u8 c)] r_ := by
 refine vfn tt_ok [] 9 [.tmp 2] (fn := Tryz.f173) Tryz.func173 rfl Tryz.call173 ⟨rfl, rfl, by simp⟩ fun K hK => ?_
 simp only [go_sem,reduceIte,zA,zB,zC,zD,zE,zF,reduceCtorEq]
 refine gif (fun hb1_2 => ?_) (fun hb1_2 => ?_)
 ·simp only [go_sem,reduceIte,zA,zB,zC,zD,zE,zF,reduceCtorEq]
  exact hK _ (congrArg bl (by simp_all [isDg] <;> (intros; omega)))
 ·simp only [go_sem,reduceIte,zA,zB,zC,zD,zE,zF,reduceCtorEq]
  exact hK _ (congrArg bl (by simp_all [isDg] <;> (intros; omega)))
theorem word_ex (c : Int) : ∃ r_, (fun w => w = bl (isWd c)) r_ ∧ FnOk Tryz.prog 221 [.sc (.int .u8 c)] r_ := by
 refine vfn tt_ok [] 17 [.tmp 2] (fn := Tryz.f221) Tryz.func221 rfl Tryz.call221 ⟨rfl, rfl, by simp⟩ fun K hK => ?_
 simp only [go_sem,reduceIte,zA,zB,zC,zD,zE,zF,reduceCtorEq]
 refine cF (small_ex _) ?_
 rintro _ rfl
 simp only [go_sem,reduceIte,zA,zB,zC,zD,zE,zF,reduceCtorEq]
 refine gif (fun hb1_2 => ?_) (fun hb1_2 => ?_)
 ·simp only [go_sem,reduceIte,zA,zB,zC,zD,zE,zF,reduceCtorEq]
  exact hK _ (congrArg bl (by simp_all [isWd]))
 ·simp only [go_sem,reduceIte,zA,zB,zC,zD,zE,zF,reduceCtorEq]
  refine cF (capital_ex _) ?_
  rintro _ rfl
  simp only [go_sem,reduceIte,zA,zB,zC,zD,zE,zF,reduceCtorEq]
  refine gif (fun hb1_6 => ?_) (fun hb1_6 => ?_)
  ·simp only [go_sem,reduceIte,zA,zB,zC,zD,zE,zF,reduceCtorEq]
   exact hK _ (congrArg bl (by simp_all [isWd]))
  ·simp only [go_sem,reduceIte,zA,zB,zC,zD,zE,zF,reduceCtorEq]
   refine cF (digit_ex _) ?_
   rintro _ rfl
   simp only [go_sem,reduceIte,zA,zB,zC,zD,zE,zF,reduceCtorEq]
   refine gif (fun hb1_10 => ?_) (fun hb1_10 => ?_)
   ·simp only [go_sem,reduceIte,zA,zB,zC,zD,zE,zF,reduceCtorEq]
    exact hK _ (congrArg bl (by simp_all [isWd]))
   ·simp only [go_sem,reduceIte,zA,zB,zC,zD,zE,zF,reduceCtorEq]
    exact hK _ (congrArg bl (by simp_all [isWd]))
theorem sd_ex (c : Int) : ∃ r_, (fun w => w = bl (isSd c)) r_ ∧ FnOk Tryz.prog 171 [.sc (.int .u8 c)] r_ := by
 refine vfn tt_ok [] 9 [.tmp 2] (fn := Tryz.f171) Tryz.func171 rfl Tryz.call171 ⟨rfl, rfl, by simp⟩ fun K hK => ?_
 simp only [go_sem,reduceIte,zA,zB,zC,zD,zE,zF,reduceCtorEq]
 refine cF (small_ex _) ?_
 rintro _ rfl
 simp only [go_sem,reduceIte,zA,zB,zC,zD,zE,zF,reduceCtorEq]
 refine gif (fun hb1_2 => ?_) (fun hb1_2 => ?_)
 ·simp only [go_sem,reduceIte,zA,zB,zC,zD,zE,zF,reduceCtorEq]
  exact hK _ (congrArg bl (by simp_all [isSd]))
 ·simp only [go_sem,reduceIte,zA,zB,zC,zD,zE,zF,reduceCtorEq]
  refine cF (digit_ex _) ?_
  rintro _ rfl
  simp only [go_sem,reduceIte,zA,zB,zC,zD,zE,zF,reduceCtorEq]
  exact hK _ (congrArg bl (by simp_all [isSd]))
theorem all_ex (g : FuncId) (p : Int → Bool) (hg : ∀ c : Int, ∃ r, (fun v => v = bl (p c)) r ∧ FnOk Tryz.prog g [.sc (.int .u8 c)] r) (s : ByteArray) (hs : s.size ≤ 1048576) : ∃ r_, (fun w => w = bl (allP p s)) r_ ∧ FnOk Tryz.prog 170 [str s, .sc (.func (.func g) #[] #[])] r_ := by
 refine vfn tt_ok [] 18 [.tmp 4] (fn := Tryz.f170) Tryz.func170 rfl Tryz.call170 ⟨rfl, rfl, by simp⟩ fun K hK => ?_
 have hT9 : Tryz.prog.underlying 9 = some .string := by kernel_rfl
 have sl : ∀ (a : ByteArray) (ty : TypeId), liftL Tryz.prog (Builtin.len_ #[9] ty) [.sc (.string a)] = some (num a.size) := fun a ty => ev_slen (P := Tryz.prog) (tt := tt) (T := 9) a hT9 ty
 simp only [sl,go_sem,reduceIte,zA,zB,zC,zD,zE,zF,reduceCtorEq]
 refine xloopL tt_ok [] [8] 0 [0,1,7] (fun vs => ((s.size : Int) - Go.Eng.intOf (vs.headD .undef)).toNat) (fun vs => ∃ i : Nat, vs = [num i] ∧ i ≤ s.size ∧ ∀ j < i, ∀ b, s[j]? = some b → p b.toNat = true) (by omega) (by simp only [sl,go_sem,reduceIte,zA,zB,zC,zD,zE,zF,reduceCtorEq]) (⟨0, rfl, Nat.zero_le _, fun j hj => absurd hj (Nat.not_lt_zero j)⟩) fun vs hI Z1 hZ1 => ?_
 obtain ⟨i, rfl, hi, hno⟩ := hI
 simp only [sl,go_sem,reduceIte,zA,zB,zC,zD,zE,zF,reduceCtorEq]
 refine gif (fun hc9 => ?_) (fun hc9 => ?_)
 ·have hlt : i < s.size := by simpa using hc9
  have hw := i64_succ i (by omega)
  obtain ⟨c, hcb⟩ := get_byte (s := s) (i := i) hlt
  have hix := ev_index (P := Tryz.prog) s hT9 .i64 (i : Int) (by omega) (c := c) (show s[((i : Nat) : Int).toNat]? = some c from hcb)
  simp only [hw,hix,sl,go_sem,reduceIte,zA,zB,zC,zD,zE,zF,reduceCtorEq]
  refine cF (hg _) ?_
  rintro _ rfl
  simp only [hw,hix,sl,go_sem,reduceIte,zA,zB,zC,zD,zE,zF,reduceCtorEq]
  refine gif (fun hc16 => ?_) (fun hc16 => ?_)
  ·have hres : false = allP p s := (allP_false hcb (by simpa using hc16)).symm
   simp only [hw,hix,sl,go_sem,reduceIte,zA,zB,zC,zD,zE,zF,reduceCtorEq]
   exact hK _ (congrArg bl hres)
  ·simp only [hw,hix,sl,go_sem,reduceIte,zA,zB,zC,zD,zE,zF,reduceCtorEq]
   refine hZ1 _ (endK (by omega) (by simp only [hw,hix,sl,go_sem,reduceIte,zA,zB,zC,zD,zE,zF,reduceCtorEq]) ?_ ?_) <;> simp only [lks,lk,reduceIte,zE]
   ·refine ⟨i + 1, rfl, hlt, fun j hj b hb => ?_⟩
    rcases Nat.lt_or_ge j i with h | h
    ·exact hno j h b hb
    ·obtain rfl : j = i := by omega
     rw [hcb] at hb; cases hb; simpa using hc16
   ·simp only [Go.Eng.intOf,List.headD_cons]; omega
 ·have hge : ¬ i < s.size := by simpa using hc9
  have hres : true = allP p s := (allP_true fun j hj b hb => hno j (by omega) b hb).symm
  simp only [sl,go_sem,reduceIte,zA,zB,zC,zD,zE,zF,reduceCtorEq]
  exact hK _ (congrArg bl hres)
end Go.Proofs.YtefbaladomfccaaGreatDoor
end

section
namespace Go.Proofs.YtefbaladomfccaaGreatDoor
open Go.Eng
variable [Glob]
set_option maxHeartbeats 4000000
set_option maxRecDepth 100000
def okPart (n : Int) : Bool := decide (0 ≤ n) && decide (n ≤ 999)
def Ver.ok (v : Ver) : Bool := okPart v.mj && okPart v.mn && okPart v.pt
def ltB (a b : ByteArray) : Bool := Op.bytesLess a.toList b.toList
theorem str_beq (a b : ByteArray) : (a.toList == b.toList) = decide (a = b) := by
 rw [Bool.eq_iff_iff, beq_iff_eq, decide_eq_true_eq]
 refine ⟨fun h => ?_, fun h => by rw [h]⟩
 rw [ByteArray.toList_eq, ByteArray.toList_eq] at h
 cases a; cases b; congr 1; exact Array.toList_inj.1 h
theorem ltB_eq (a b : ByteArray) : ltB a b = decide (a.data.toList < b.data.toList) := by
 unfold ltB
 rw [Proofs.bytesLess_eq, ByteArray.toList_eq, ByteArray.toList_eq]
end Go.Proofs.YtefbaladomfccaaGreatDoor
end

section
namespace Go.Proofs.YtefbaladomfccaaGreatDoor
open Go.Eng
variable [Glob]
set_option maxHeartbeats 4000000
set_option maxRecDepth 100000
end Go.Proofs.YtefbaladomfccaaGreatDoor
end
