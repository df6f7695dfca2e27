/-
  READINGS: what the reading of an argument (DataW.trod) says of its cells, for types made of truth values, integers, strings, slices, structures.
  READINGS, B: the abstract values that a reading gives.
  THE DATA of types, and the abstract values that stand for them (law27).
  WEIGHTS: trees with their strings.
  PLAIN LAWS of chapter 32: sets of places, releases, what roots reach, canonical bytes. No program in sight.
  ENCODINGS of chapter 32's data.
  CONTRACTS: bytes of names, exactly.
  CONTRACTS: versions, places.
  CONTRACTS: comparing.
  EQUALITY of structs of chapter 32: spans, numbers, what is selected.
  CONTRACTS: places, sets of places.
-/
import Derived.Test.YtefbaladomfccaaGreatDoorJ1
import Derived.Test.YtefbaladomfccaaGreatDoorRows
import Derived.IntWalk
import Derived.Sort.Walk0
set_option linter.all false
section
namespace Go.Proofs.YtefbaladomfccaaGreatDoor
open Go.Eng
variable [aK]
section
variable {H : Type} {enc : TypeId × Value → H} {P : Program} {w : World} {sp : Nat → Bool} {held : Bool} {f : Nat} {T : TypeId} {cs : List Value} {d : DataW H} {p : List MemPlace}
theorem trod_bool (hT : P.underlying T = some .bool) (h : DataW.trod enc P w 0 sp held (f + 1) T cs = some (d, p)) : ∃ b, cs = [.bool b] ∧ d = .lit (.bool b) := by
 unfold DataW.trod at h
 rw [hT] at h
 split at h <;> simp_all
theorem trod_int {k : IntKind} (hT : P.underlying T = some (.int k)) (h : DataW.trod enc P w 0 sp held (f + 1) T cs = some (d, p)) : ∃ n, cs = [.int k n] ∧ d = .lit (.int k n) := by
 unfold DataW.trod at h
 rw [hT] at h
 split at h <;> simp_all
theorem trod_string (hT : P.underlying T = some .string) (h : DataW.trod enc P w 0 sp held (f + 1) T cs = some (d, p)) : ∃ s, cs = [.string s] ∧ d = .lit (.string s.data.toList) := by
 unfold DataW.trod at h
 rw [hT] at h
 split at h <;> simp_all
theorem o5 {α β : Type} {g : α → Option β} : ∀ {l : List α} {r : List β}, l.mapM g = some r → r.length = l.length ∧ ∀ (i : Nat) (b : β), r[i]? = some b → ∃ a : α, l[i]? = some a ∧ g a = some b
 | [], r, h => by simp at h; subst h; simp
 | a :: l, r, h => by
  rw [List.mapM_cons] at h
  cases h1 : g a with
  | none => rw [h1] at h; simp at h
  | some b =>
   rw [h1] at h
   cases h2 : l.mapM g with
   | none => rw [h2] at h; simp at h
   | some r' =>
    rw [h2] at h
    simp at h
    subst h
    obtain ⟨e1, e2⟩ := o5 h2
    refine ⟨by simp [e1], fun i b' hb => ?_⟩
    cases i with
    | zero => simp at hb; subst hb; exact ⟨a, rfl, h1⟩
    | succ i => simpa using e2 i b' (by simpa using hb)
theorem trod_slice {T' : TypeId} (hT : P.underlying T = some (.slice T')) (h : DataW.trod enc P w 0 sp held (f + 1) T cs = some (d, p)) :
  (cs = [.slice none 0 0] ∧ d = .nil) ∨ ∃ (a : Addr) (cap : Nat) (elems spare : List (DataW H)), cs = [.slice (some a) elems.length cap] ∧ d = .slice elems spare ∧ elems.length ≤ cap ∧
   ∀ (i : Nat) (e : DataW H), elems[i]? = some e → ∃ nh p', w.cells? 0 (a.add (i * P.cellsOf T')) (P.cellsOf T') = some nh ∧ DataW.trod enc P w 0 sp held f T' nh = some (e, p') := by
 unfold DataW.trod at h
 rw [hT] at h
 split at h <;> try (simp at *; done)
 ·rename_i e' h1 h2
  simp at h
  exact .inl ⟨rfl, h.1.symm⟩
 ·rename_i e' a len cap h1
  obtain rfl : T' = e' := by simpa using h1
  refine .inr ?_
  dsimp only at h
  split at h
  ·rename_i hb
   cases h3 : (List.range len).mapM (fun i => (w.cells? 0 (a.add (i * P.cellsOf T')) (P.cellsOf T')).bind (DataW.trod enc P w 0 sp held f T')) with
   | none => rw [h3] at h; simp at h
   | some elems =>
    rw [h3] at h
    obtain ⟨e1, e2⟩ := o5 h3
    simp only [Option.bind_some,Option.map_eq_some_iff] at h
    obtain ⟨rest, -, h5⟩ := h
    simp only [Prod.mk.injEq] at h5
    have hl : elems.length = len := by simpa using e1
    refine ⟨a, cap, elems.map (·.1), rest.map (·.1), by rw [List.length_map, hl], h5.1.symm, by rw [List.length_map, hl]; exact hb.2.1, fun i e he => ?_⟩
    rw [List.getElem?_map, Option.map_eq_some_iff] at he
    obtain ⟨x, hx, rfl⟩ := he
    obtain ⟨j, hj, hg⟩ := e2 i x hx
    have qW : j = i := by
     obtain ⟨aL, hv⟩ := List.getElem?_eq_some_iff.1 hj
     simpa using hv.symm
    subst qW
    rw [Option.bind_eq_some_iff] at hg
    obtain ⟨nh, hc, ht⟩ := hg
    exact ⟨nh, x.2, hc, ht⟩
  ·simp at h
theorem trod_struct {fs : Array Field} (hT : P.underlying T = some (.struct fs)) (h : DataW.trod enc P w 0 sp held (f + 1) T cs = some (d, p)) :
  cs.length = P.cellsOf T ∧ ∃ parts : List (DataW H), d = .agg parts ∧ parts.length = fs.size ∧
   ∀ (i : Nat) (e : DataW H), parts[i]? = some e → ∃ (fd : Field) (p' : List MemPlace), fs[i]? = some fd ∧ DataW.trod enc P w 0 sp held f fd.type ((cs.drop fd.offset).take (P.cellsOf fd.type)) = some (e, p') := by
 unfold DataW.trod at h
 rw [hT] at h
 split at h <;> try (simp at *; done)
 ·rename_i YL h1
  obtain rfl : fs = YL := by simpa using h1
  split at h
  ·rename_i hl
   refine ⟨hl, ?_⟩
   rw [Option.map_eq_some_iff] at h
   obtain ⟨xs, h3, h4⟩ := h
   simp only [Prod.mk.injEq] at h4
   obtain ⟨e1, e2⟩ := o5 h3
   refine ⟨xs.map (·.1), h4.1.symm, by rw [List.length_map, e1]; simp, fun i e he => ?_⟩
   rw [List.getElem?_map, Option.map_eq_some_iff] at he
   obtain ⟨x, hx, rfl⟩ := he
   obtain ⟨fd, hj, hg⟩ := e2 i x hx
   exact ⟨fd, x.2, by simpa using hj, hg⟩
  ·simp at h
end
end Go.Proofs.YtefbaladomfccaaGreatDoor
end

section
namespace Go.Proofs.YtefbaladomfccaaGreatDoor
open Go.Eng
variable [aK]
def Rd (F : Addr → Option Value) (hg : Gl F) (vs : List V) (cs : List Value) : Prop := aV ⟨F, fun _ _ => none, hg⟩ vs cs ∧ ∀ c ∈ cs, c.oneCell' = true
section
variable {F : Addr → Option Value} {hg : Gl F}
theorem Bp {v : Value} (h : v.oneCell' = true) : Rd F hg [.sc v] [v] := ⟨.cons (.sc _ _) (.nil _), by simpa using h⟩
theorem ba {a b : List V} {cs : List Value} {off n : Nat} (h1 : Rd F hg a ((cs.drop off).take n)) (h2 : Rd F hg b (cs.drop (off + n))) : Rd F hg (a ++ b) (cs.drop off) := by
 have e : cs.drop off = (cs.drop off).take n ++ cs.drop (off + n) := by rw [← List.drop_drop, List.take_append_drop]
 rw [e]
 refine ⟨.append h1.1 h2.1, fun c hc => ?_⟩
 rcases List.mem_append.1 hc with hc | hc
 ·exact h1.2 c hc
 ·exact h2.2 c hc
theorem Hx {cs : List Value} {off : Nat} (h : cs.length = off) : Rd F hg [] (cs.drop off) := by
 rw [List.drop_eq_nil_of_le (by omega)]
 exact ⟨.nil _, by simp⟩
theorem w4 (a : Addr) (x y : Nat) : (a.add x).add y = a.add (x + y) := by
 unfold Addr.add
 by_cases hx : x = 0
 ·subst hx; simp
 ·by_cases hy : y = 0
  ·subst hy; simp
  ·simp [hx, hy, Nat.add_assoc]
theorem yO {α β : Type} {R : Nat → β → α → Prop} : ∀ {es : List β}, (∀ (i : Nat) (e : β), es[i]? = some e → ∃ a : α, R i e a) → ∃ l : List α, l.length = es.length ∧ ∀ (i : Nat) (e : β) (a : α), es[i]? = some e → l[i]? = some a → R i e a := by
 intro es
 induction es generalizing R with
 | nil => intro _; exact ⟨[], rfl, by simp⟩
 | cons e r ih =>
  intro h
  obtain ⟨a, ha⟩ := h 0 e rfl
  obtain ⟨l, hl, hr⟩ := ih (R := fun i => R (i + 1)) fun i e he => h (i + 1) e (by simpa using he)
  refine ⟨a :: l, by simp [hl], fun i e' a' he RE => ?_⟩
  cases i with
  | zero => simp at he RE; subst he; subst RE; exact ha
  | succ i => exact hr i e' a' (by simpa using he) (by simpa using RE)
theorem qO {H α : Type} {g : α → Nat} : ∀ {l : List α} {es : List (DataW H)}, l.length = es.length → (∀ (i : Nat) (e : DataW H) (a : α), es[i]? = some e → l[i]? = some a → g a ≤ Rows.uptoBulk e) → ak g l ≤ Rows.uptoBulkAll es
 | [], [], _, _ => by simp [ak]
 | a :: l, e :: es, hl, h => by
  have h1 := h 0 e a rfl rfl
  have h2 := qO (l := l) (es := es) (g := g) (by simpa using hl) fun i e a he ha => h (i + 1) e a (by simpa using he) (by simpa using ha)
  simp only [ak,Rows.uptoBulkAll]; omega
 | [], _ :: _, hl, _ => by simp at hl
 | _ :: _, [], hl, _ => by simp at hl
theorem Hy {H : Type} {enc : TypeId × Value → H} {P : Program} {w : World} {sp : Nat → Bool} {held : Bool} {f : Nat} {T T' : TypeId} {α : Type} {row : α → V} {g : α → Nat} {n : Nat}
  (hF : F = w.cell?) (hT : P.underlying T = some (.slice T')) (hn : P.cellsOf T' = n)
  (hr : ∀ {cs : List Value} {d : DataW H} {p : List MemPlace}, DataW.trod enc P w 0 sp held f T' cs = some (d, p) → ∃ a : α, Rd F hg (row a).cells cs ∧ g a ≤ Rows.uptoBulk d)
  {cs : List Value} {d : DataW H} {p : List MemPlace} (h : DataW.trod enc P w 0 sp held (f + 1) T cs = some (d, p)) :
  ∃ l : List α, Rd F hg [.slice (l.map row)] cs ∧ ak g l + 1 ≤ Rows.uptoBulk d := by
 rcases trod_slice hT h with ⟨rfl, rfl⟩ | ⟨a, cap, elems, spare, rfl, rfl, hc, he⟩
 ·exact ⟨[], ⟨.cons (.slice _ [] none 0 0 default (fun _ _ => default) (by simp) (by simp) (by simp) (by simp) (by simp) (by simp)) (.nil _), by simp [Value.oneCell']⟩, by simp [ak, Rows.uptoBulk]⟩
 ·obtain ⟨l, hl, hR⟩ := yO (es := elems) (R := fun i e (x : α) => ∃ nh : List Value, w.cells? 0 (a.add (i * P.cellsOf T')) (P.cellsOf T') = some nh ∧ Rd F hg (row x).cells nh ∧ g x ≤ Rows.uptoBulk e) fun i e hi => by
   obtain ⟨nh, p', h1, h2⟩ := he i e hi
   obtain ⟨x, h3, h4⟩ := hr h2
   exact ⟨x, nh, h1, h3, h4⟩
  rw [hn] at hR
  have key : ∀ (i : Nat) (x : α), l[i]? = some x → ∃ nh : List Value, Rd F hg (row x).cells nh ∧ (row x).cells.length = n ∧ ∀ (j : Nat) (c : Value), nh[j]? = some c → F (a.add (i * n + j)) = some c := fun i x hx => by
   obtain ⟨e, hei⟩ : ∃ e, elems[i]? = some e := ⟨_, List.getElem?_eq_getElem (by rw [← hl]; exact (List.getElem?_eq_some_iff.1 hx).1)⟩
   obtain ⟨nh, h1, h2, -⟩ := hR i e x hei hx
   unfold World.cells? at h1
   rw [if_pos (Nat.zero_le _)] at h1
   obtain ⟨e1, e2⟩ := o5 h1
   refine ⟨nh, h2, by rw [h2.1.1, e1]; simp, fun j c hj => ?_⟩
   obtain ⟨k, hk, LX⟩ := e2 j c hj
   have hkj : k = j := by
    obtain ⟨aL, hv⟩ := List.getElem?_eq_some_iff.1 hk
    simpa using hv.symm
   subst hkj
   rw [w4] at LX
   rw [hF]; exact LX
  have cell : ∀ (i : Nat) (r : V) (j : Nat) (c : V), (l.map row)[i]? = some r → r.cells[j]? = some c → ∃ x, F (a.add (i * n + j)) = some x ∧ x.oneCell' = true ∧ a8 ⟨F, fun _ _ => none, hg⟩ c x := fun i r j c hi hj => by
   rw [List.getElem?_map, Option.map_eq_some_iff] at hi
   obtain ⟨x, hx, rfl⟩ := hi
   obtain ⟨nh, h2, -, h3⟩ := key i x hx
   obtain ⟨y, hy, mY⟩ := h2.1.get hj
   exact ⟨y, h3 j y hy, h2.2 y (List.mem_of_getElem? hy), mY⟩
  refine ⟨l, ⟨.cons ?_ (.nil _), by simp [Value.oneCell']⟩, ?_⟩
  ·have := a8.slice ⟨F, fun _ _ => none, hg⟩ (l.map row) (some a) cap n a (fun i j => (F (a.add (i * n + j))).getD default) (fun _ => rfl) (by rw [List.length_map, hl]; exact hc)
    (fun i r hi => by
     rw [List.getElem?_map, Option.map_eq_some_iff] at hi
     obtain ⟨x, hx, rfl⟩ := hi
     obtain ⟨_, -, h, -⟩ := key i x hx
     exact h)
    (fun i r j c hi hj => by obtain ⟨x, h, -, -⟩ := cell i r j c hi hj; show F _ = some ((F _).getD _); rw [h]; rfl)
    (fun i r j c hi hj => by obtain ⟨x, h, h', -⟩ := cell i r j c hi hj; show Value.oneCell' ((F _).getD _) = true; rw [h]; exact h')
    (fun i r j c hi hj => by obtain ⟨x, h, -, h'⟩ := cell i r j c hi hj; show a8 _ c ((F _).getD _); rw [h]; exact h')
   rwa [List.length_map, hl] at this
  ·have := qO (g := g) hl fun i e x he hx => by obtain ⟨_, -, -, h⟩ := hR i e x he hx; exact h
   simp only [Rows.uptoBulk]; omega
end
def Bq {H : Type} (enc : TypeId × Value → H) (P : Program) (w : World) (sp : Nat → Bool) (held : Bool) (f : Nat) (cs : List Value) : List Field → (List (DataW H) → Prop) → Prop
 | [], K => K []
 | fd :: r, K => ∃ (e : DataW H) (p : List MemPlace), DataW.trod enc P w 0 sp held f fd.type ((cs.drop fd.offset).take (P.cellsOf fd.type)) = some (e, p) ∧ Bq enc P w sp held f cs r fun es => K (e :: es)
theorem u4 {H : Type} {enc : TypeId × Value → H} {P : Program} {w : World} {sp : Nat → Bool} {held : Bool} {f : Nat} {cs : List Value} : ∀ {fs : List Field} {K : List (DataW H) → Prop} {es : List (DataW H)}, es.length = fs.length →
  (∀ (i : Nat) (e : DataW H), es[i]? = some e → ∃ (fd : Field) (p' : List MemPlace), fs[i]? = some fd ∧ DataW.trod enc P w 0 sp held f fd.type ((cs.drop fd.offset).take (P.cellsOf fd.type)) = some (e, p')) → K es → Bq enc P w sp held f cs fs K
 | [], K, [], _, _, hK => hK
 | fd :: r, K, e :: es, hl, h, hK => by
  obtain ⟨fd', p', h1, h2⟩ := h 0 e rfl
  obtain rfl : fd = fd' := by simpa using h1
  exact ⟨e, p', h2, u4 (es := es) (by simpa using hl) (fun i e he => by simpa using h (i + 1) e (by simpa using he)) hK⟩
 | [], _, _ :: _, hl, _, _ => by simp at hl
 | _ :: _, _, [], hl, _, _ => by simp at hl
theorem cN {H : Type} {enc : TypeId × Value → H} {P : Program} {w : World} {sp : Nat → Bool} {held : Bool} {f : Nat} {T : TypeId} {cs : List Value} {d : DataW H} {p : List MemPlace} {fs : Array Field}
  (hT : P.underlying T = some (.struct fs)) (h : DataW.trod enc P w 0 sp held (f + 1) T cs = some (d, p)) : cs.length = P.cellsOf T ∧ Bq enc P w sp held f cs fs.toList fun es => d = .agg es := by
 obtain ⟨h1, parts, h2, h3, h4⟩ := trod_struct hT h
 exact ⟨h1, u4 (by simpa using h3) (fun i e he => by simpa using h4 i e he) h2⟩
end Go.Proofs.YtefbaladomfccaaGreatDoor
end

section
namespace Go.Proofs.YtefbaladomfccaaGreatDoor
open Go.Eng
variable [aK]
mutual
inductive Ty where
 | mk (kind : Int) (mod name : ByteArray) (args : List Ty) (aO : List Fd)
inductive Fd where
 | mk (name : ByteArray) (ty : Ty) (opt : Bool)
end
structure Lb where
 name : ByteArray
 var : ByteArray
 ty : Ty
 opt : Bool
inductive Ex where
 | mk (kind : Int) (mod name text : ByteArray) (num : Int) (types : List Ty) (labels : List Lb) (kids : List Ex)
structure Pm where
 name : ByteArray
 Hz : Int
 bound : Ty
structure Im where
 path : ByteArray
 alias : ByteArray
structure Dc where
 kind : Int
 name : ByteArray
 exported : Bool
 deprecated : Bool
 note : ByteArray
 params : List Pm
 lower : Ty
 upper : Ty
 type : Ty
 expr : Ex
 mod : ByteArray
 target : ByteArray
structure Md where
 path : ByteArray
 imports : List Im
 decls : List Dc

mutual
def du : Ty → V
 | .mk k m n ts fs => .agg [.sc (.int .i64 k), .sc (.string m), .sc (.string n), .slice (cB ts), .slice (j6 fs)]
def cB : List Ty → List V
 | [] => []
 | t :: r => du t :: cB r
def u5 : Fd → V
 | .mk n (.mk k m n' ts fs) o => .agg [.sc (.string n), .sc (.int .i64 k), .sc (.string m), .sc (.string n'), .slice (cB ts), .slice (j6 fs), .sc (.bool o)]
def j6 : List Fd → List V
 | [] => []
 | f :: r => u5 f :: j6 r
end
def Fd.ty : Fd → Ty | .mk _ t _ => t
def Fd.name : Fd → ByteArray | .mk n _ _ => n
def Fd.opt : Fd → Bool | .mk _ _ o => o
def Ty.aO : Ty → List Fd | .mk _ _ _ _ fs => fs
def Ty.args : Ty → List Ty | .mk _ _ _ ts _ => ts
def Ty.kind : Ty → Int | .mk k _ _ _ _ => k
def Ty.mod : Ty → ByteArray | .mk _ m _ _ _ => m
def Ty.name : Ty → ByteArray | .mk _ _ n _ _ => n
def Ty.parts (t : Ty) : List Ty := t.args ++ t.aO.map Fd.ty
def ai (t : Ty) : List V := [.sc (.int .i64 t.kind), .sc (.string t.mod), .sc (.string t.name), .slice (cB t.args), .slice (j6 t.aO)]
theorem bo (t : Ty) : du t = .agg (ai t) := by obtain ⟨k, m, n, ts, fs⟩ := t; rfl
theorem bH (ts : List Ty) : cB ts = ts.map du := by induction ts with | nil => rfl | cons t r ih => simp [cB, ih]
theorem nN (ts : List Fd) : j6 ts = ts.map u5 := by induction ts with | nil => rfl | cons t r ih => simp [j6, ih]
theorem eY (f : Fd) : u5 f = .agg ([str f.name] ++ ai f.ty ++ [bl f.opt]) := by obtain ⟨n', ⟨k, m, n, ts, fs⟩, o⟩ := f; rfl
def nt (l : Lb) : V := .agg ([str l.name, str l.var] ++ ai l.ty ++ [bl l.opt])
mutual
def iR : Ex → V
 | .mk k m n t i ts ls ks => .agg [.sc (.int .i64 k), .sc (.string m), .sc (.string n), .sc (.string t), .sc (.int .i64 i), .slice (cB ts), .slice (ls.map nt), .slice (fj ks)]
def fj : List Ex → List V
 | [] => []
 | e :: r => iR e :: fj r
end
def Ex.kind : Ex → Int | .mk k _ _ _ _ _ _ _ => k
def Ex.mod : Ex → ByteArray | .mk _ m _ _ _ _ _ _ => m
def Ex.name : Ex → ByteArray | .mk _ _ n _ _ _ _ _ => n
def Ex.text : Ex → ByteArray | .mk _ _ _ t _ _ _ _ => t
def Ex.num : Ex → Int | .mk _ _ _ _ i _ _ _ => i
def Ex.types : Ex → List Ty | .mk _ _ _ _ _ ts _ _ => ts
def Ex.labels : Ex → List Lb | .mk _ _ _ _ _ _ ls _ => ls
def Ex.kids : Ex → List Ex | .mk _ _ _ _ _ _ _ ks => ks
theorem nO (ts : List Ex) : fj ts = ts.map iR := by induction ts with | nil => rfl | cons t r ih => simp [fj, ih]
def al (e : Ex) : List V := [.sc (.int .i64 e.kind), .sc (.string e.mod), .sc (.string e.name), .sc (.string e.text), .sc (.int .i64 e.num), .slice (cB e.types), .slice (e.labels.map nt), .slice (fj e.kids)]
theorem bJ (e : Ex) : iR e = .agg (al e) := by obtain ⟨k, m, n, t, i, ts, ls, ks⟩ := e; rfl
def qP (p : Pm) : V := .agg ([str p.name, num p.Hz] ++ ai p.bound)
def yP (i : Im) : V := .agg [str i.path, str i.alias]
def fe (d : Dc) : V := .agg ([num d.kind, str d.name, bl d.exported, bl d.deprecated, str d.note, .slice (d.params.map qP)] ++ ai d.lower ++ ai d.upper ++ ai d.type ++ al d.expr ++ [str d.mod, str d.target])
def dv (m : Md) : V := .agg [str m.path, .slice (m.imports.map yP), .slice (m.decls.map fe)]
theorem EM (t : Ty) : (du t).cells.length = 5 := by rw [bo]; rfl
theorem kq (ts : List Ty) (n : Nat) : cd (cB ts) n 5 = true := by
 rw [bH]; unfold cd; split
 ·rename_i h; simp at h; obtain ⟨t, -, rfl⟩ := h; simp [EM]
 ·rfl
theorem bu (ts : List Ty) : (cB ts).length = ts.length := by simp [bH]
theorem aI (ts : List Fd) : (j6 ts).length = ts.length := by simp [nN]
theorem aw (ts : List Ex) : (fj ts).length = ts.length := by simp [nO]
theorem nP (ts : List Ty) (i : Nat) : (cB ts)[i]? = ts[i]?.map du := by simp [bH]
theorem dn (ts : List Fd) (i : Nat) : (j6 ts)[i]? = ts[i]?.map u5 := by simp [nN]
theorem ez (ts : List Ex) (i : Nat) : (fj ts)[i]? = ts[i]?.map iR := by simp [nO]

mutual
def Ty.size : Ty → Nat
 | .mk _ _ _ ts fs => 1 + o6 ts + o7 fs
def o6 : List Ty → Nat
 | [] => 0
 | t :: r => t.size + o6 r
def Fd.size : Fd → Nat
 | .mk _ (.mk _ _ _ ts fs) _ => 1 + o6 ts + o7 fs
def o7 : List Fd → Nat
 | [] => 0
 | f :: r => f.size + o7 r
end
theorem Fd.KI (f : Fd) : f.size = f.ty.size := by obtain ⟨n', ⟨k, m, n, ts, fs⟩, o⟩ := f; rfl
theorem yQ (ts : List Ty) : o6 ts = ak Ty.size ts := by induction ts with | nil => rfl | cons t r ih => simp [o6, ak, ih]
theorem yR (ts : List Fd) : o7 ts = ak (fun f => f.ty.size) ts := by induction ts with | nil => rfl | cons t r ih => simp [o7, ak, ih, Fd.KI]
theorem Ty.nQ (t : Ty) : t.size = 1 + ak Ty.size t.parts := by
 obtain ⟨k, m, n, ts, fs⟩ := t
 simp only [Ty.size,Ty.parts,Ty.args,Ty.aO,ew,uZ,yQ,yR]; omega
theorem Ty.size_pos (t : Ty) : 0 < t.size := by rw [Ty.nQ]; omega
end Go.Proofs.YtefbaladomfccaaGreatDoor
end

section
namespace Go.Proofs.YtefbaladomfccaaGreatDoor
open Go.Eng
variable [aK]
mutual
def Ty.wt : Ty → Nat
 | .mk _ m n ts fs => 1 + m.size + n.size + yS ts + yU fs
def yS : List Ty → Nat
 | [] => 0
 | t :: r => t.wt + yS r
def Fd.wt : Fd → Nat
 | .mk n (.mk _ m n' ts fs) _ => 1 + n.size + m.size + n'.size + yS ts + yU fs
def yU : List Fd → Nat
 | [] => 0
 | f :: r => f.wt + yU r
end
theorem Fd.ij (f : Fd) : f.wt = f.name.size + f.ty.wt := by
 obtain ⟨n', ⟨k, m, n, ts, fs⟩, o⟩ := f
 simp only [Fd.wt,Ty.wt,Fd.name,Fd.ty]; omega
theorem u6 (ts : List Ty) : yS ts = ak Ty.wt ts := by induction ts with | nil => rfl | cons t r ih => simp [yS, ak, ih]
theorem u7 (ts : List Fd) : yU ts = ak Fd.wt ts := by induction ts with | nil => rfl | cons t r ih => simp [yU, ak, ih]
theorem Ty.ij (t : Ty) : t.wt = 1 + t.mod.size + t.name.size + ak Ty.wt t.args + ak Fd.wt t.aO := by
 obtain ⟨k, m, n, ts, fs⟩ := t
 simp only [Ty.wt,u6,u7,Ty.mod,Ty.name,Ty.args,Ty.aO]
theorem sL {α : Type} {g h : α → Nat} (hle : ∀ a, g a ≤ h a) (l : List α) : ak g l ≤ ak h l := by
 induction l with
 | nil => exact Nat.le_refl _
 | cons a r ih => simp only [ak]; have := hle a; omega
theorem Ty.HA (t : Ty) : 1 + t.mod.size + t.name.size + ak Ty.wt t.parts ≤ t.wt := by
 rw [t.ij, Ty.parts, ew, uZ]
 have := sL (g := fun f : Fd => f.ty.wt) (h := Fd.wt) (fun f => by rw [f.ij]; omega) t.aO
 omega
theorem Ty.yV : ∀ (N : Nat) (t : Ty), t.size ≤ N → t.size ≤ t.wt := by
 intro N
 induction N with
 | zero => intro t h; have := t.size_pos; omega
 | succ N ih =>
  intro t hN
  have h1 := t.nQ
  have h2 := t.HA
  have gen : ∀ (l : List Ty), ak Ty.size l ≤ N → ak Ty.size l ≤ ak Ty.wt l := by
   intro l
   induction l with
   | nil => intro _; exact Nat.le_refl _
   | cons a r ihr =>
    intro hl
    simp only [ak] at hl ⊢
    have := ih a (by omega); have := ihr (by omega); omega
  have := gen t.parts (by omega)
  omega
theorem Ty.b6 (t : Ty) : t.size ≤ t.wt := Ty.yV _ t (Nat.le_refl _)
def Lb.wt (l : Lb) : Nat := 1 + l.name.size + l.var.size + l.ty.wt
mutual
def Ex.wt : Ex → Nat
 | .mk _ m n t _ ts ls ks => 1 + m.size + n.size + t.size + ak Ty.wt ts + ak Lb.wt ls + o8 ks
def o8 : List Ex → Nat
 | [] => 0
 | e :: r => e.wt + o8 r
end
theorem yW (ts : List Ex) : o8 ts = ak Ex.wt ts := by induction ts with | nil => rfl | cons t r ih => simp [o8, ak, ih]
theorem Ex.ij (t : Ex) : t.wt = 1 + t.mod.size + t.name.size + t.text.size + ak Ty.wt t.types + ak Lb.wt t.labels + ak Ex.wt t.kids := by
 obtain ⟨k, m, n, x, i, ts, ls, ks⟩ := t
 rw [Ex.wt, yW]; rfl
def aG (d : Dc) : List V := [num d.kind, str d.name, bl d.exported, bl d.deprecated, str d.note, .slice (d.params.map qP)] ++ ai d.lower ++ ai d.upper ++ ai d.type ++ al d.expr ++ [str d.mod, str d.target]
theorem aD (d : Dc) : fe d = .agg (aG d) := rfl
def bm (m : Md) : List V := [str m.path, .slice (m.imports.map yP), .slice (m.decls.map fe)]
theorem aW (m : Md) : dv m = .agg (bm m) := rfl
def Pm.wt (p : Pm) : Nat := 1 + p.name.size + p.bound.wt
def Im.wt (i : Im) : Nat := 1 + i.path.size + i.alias.size
def Dc.wt (d : Dc) : Nat := 1 + d.name.size + d.note.size + ak Pm.wt d.params + d.lower.wt + d.upper.wt + d.type.wt + d.expr.wt + d.mod.size + d.target.size
def Md.wt (m : Md) : Nat := 1 + m.path.size + ak Im.wt m.imports + ak Dc.wt m.decls
theorem Ty.cO (t : Ty) : 1 ≤ t.wt := by rw [t.ij]; omega
theorem Lb.cO (t : Lb) : 1 ≤ t.wt := by unfold Lb.wt; omega
theorem Ex.cO (t : Ex) : 1 ≤ t.wt := by rw [t.ij]; omega
theorem Pm.cO (t : Pm) : 1 ≤ t.wt := by unfold Pm.wt; omega
theorem Im.cO (t : Im) : 1 ≤ t.wt := by unfold Im.wt; omega
theorem Dc.cO (t : Dc) : 1 ≤ t.wt := by unfold Dc.wt; omega
theorem Md.cO (t : Md) : 1 ≤ t.wt := by unfold Md.wt; omega
theorem Fd.cO (t : Fd) : 1 ≤ t.wt := by rw [t.ij]; have := t.ty.cO; omega
theorem gS {α : Type} (g : α → Nat) {l : List α} {x : α} (h : x ∈ l) : g x ≤ ak g l := by
 obtain ⟨i, hi⟩ := List.mem_iff_getElem?.1 h
 exact EL g hi
theorem Ex.sM {e k : Ex} (h : k ∈ e.kids) : k.wt < e.wt := by have := gS Ex.wt h; rw [e.ij]; omega
theorem Ex.Dj {e : Ex} {t : Ty} (h : t ∈ e.types) : t.wt < e.wt := by have := gS Ty.wt h; rw [e.ij]; omega
theorem Ex.HB {e : Ex} {l : Lb} (h : l ∈ e.labels) : l.wt < e.wt := by have := gS Lb.wt h; rw [e.ij]; omega
theorem Ex.mR (e : Ex) : e.types.length + e.labels.length + e.kids.length < e.wt := by
 have h1 := bs Ty.wt Ty.cO e.types
 have h2 := bs Lb.wt Lb.cO e.labels
 have h3 := bs Ex.wt Ex.cO e.kids
 rw [e.ij]; omega
theorem Ty.OL {e k : Ty} (h : k ∈ e.args) : k.wt < e.wt := by have := gS Ty.wt h; rw [e.ij]; omega
theorem Ty.OM {e : Ty} {k : Fd} (h : k ∈ e.aO) : k.ty.wt < e.wt := by have := gS Fd.wt h; have h2 := k.ij; rw [e.ij]; omega
theorem Ty.mR (e : Ty) : e.args.length + e.aO.length < e.wt := by
 have h1 := bs Ty.wt Ty.cO e.args
 have h2 := bs Fd.wt Fd.cO e.aO
 rw [e.ij]; omega
end Go.Proofs.YtefbaladomfccaaGreatDoor
end

section
namespace Go.Proofs.YtefbaladomfccaaGreatDoor
structure cj where
 lo : Int
 hi : Int
def mS (x : cj) : Option cj := if max x.lo 0 < min x.hi 1000000 then some ⟨max x.lo 0, min x.hi 1000000⟩ else none
def clip (s : List cj) : List cj := s.filterMap mS
def w5 : List cj → cj → List cj
 | [], x => [x]
 | y :: r, x => if y.lo ≤ x.lo then y :: w5 r x else x :: y :: r
def ef (out : List cj) (x : cj) : List cj := match out.getLast? with
 | some y => if x.lo ≤ y.hi then out.dropLast ++ [⟨y.lo, max y.hi x.hi⟩] else out ++ [x]
 | none => [x]
def merge (l : List cj) : List cj := l.foldl ef []
def canon (s : List cj) : List cj := merge ((clip s).foldl w5 [])
def gB (l : List cj) : Prop := l.Pairwise fun a b => a.lo ≤ b.lo
theorem Br (out : List cj) (x y : cj) (h : x.lo = y.lo) (hx : x.lo ≤ x.hi) (hy : y.lo ≤ y.hi) : ef (ef out x) y = ef (ef out y) x := by
 unfold ef
 cases hl : out.getLast? with
 | none =>
  simp only [List.getLast?_singleton,List.dropLast_singleton,List.nil_append]
  rw [if_pos (by omega), if_pos (by omega)]
  simp only [h,Int.max_comm]
 | some z =>
  dsimp only
  by_cases hz : x.lo ≤ z.hi
  ·rw [if_pos hz, if_pos (by omega)]
   simp only [List.getLast?_append,List.getLast?_singleton,Option.some_or,List.dropLast_concat]
   rw [if_pos (by omega), if_pos (by omega)]
   simp only [Int.max_assoc,Int.max_comm x.hi]
  ·rw [if_neg hz, if_neg (by omega)]
   simp only [List.getLast?_append,List.getLast?_singleton,Option.some_or,List.dropLast_concat]
   rw [if_pos (by omega), if_pos (by omega)]
   simp only [h,Int.max_comm]
theorem qQ (x : cj) : ∀ (p : List cj) (out : List cj), (∀ y ∈ p, y.lo = x.lo ∧ y.lo ≤ y.hi) → x.lo ≤ x.hi → (p ++ [x]).foldl ef out = (x :: p).foldl ef out
 | [], out, _, _ => rfl
 | y :: r, out, h, hx => by
  have h1 := h y (by simp)
  rw [List.cons_append, List.foldl_cons, qQ x r _ (fun z hz => h z (by simp [hz])) hx]
  simp only [List.foldl_cons]
  rw [Br out y x h1.1 h1.2 hx]
theorem sN : ∀ (l m : List cj) (out : List cj), l.Perm m → gB l → gB m → (∀ x ∈ l, x.lo ≤ x.hi) → l.foldl ef out = m.foldl ef out
 | [], m, out, hp, _, _, _ => by rw [hp.nil_eq]
 | x :: t, m, out, hp, hl, hm, hw => by
  have hxm : x ∈ m := hp.subset (by simp)
  obtain ⟨p, q, rfl⟩ := List.append_of_mem hxm
  have hpe : ∀ y ∈ p, y.lo = x.lo ∧ y.lo ≤ y.hi := fun y hy => by
   have Ni : y ∈ x :: t := hp.symm.subset (by simp [hy])
   have h1 : y.lo ≤ x.lo := (List.pairwise_append.1 hm).2.2 y hy x (by simp)
   have h2 : x.lo ≤ y.lo := by
    rcases List.mem_cons.1 Ni with rfl | h
    ·omega
    ·exact (List.pairwise_cons.1 hl).1 y h
   exact ⟨by omega, hw y Ni⟩
  have hx := hw x (by simp)
  have e : (p ++ x :: q).foldl ef out = (x :: (p ++ q)).foldl ef out := by
   rw [show p ++ x :: q = (p ++ [x]) ++ q by simp, List.foldl_append, qQ x p out hpe hx, ← List.foldl_append]; rfl
  rw [e, List.foldl_cons, List.foldl_cons]
  refine sN t (p ++ q) _ ?_ (List.pairwise_cons.1 hl).2 ?_ fun y hy => hw y (by simp [hy])
  ·exact (List.perm_cons x).1 (hp.trans (by simpa using List.perm_middle))
  ·rw [gB, List.pairwise_append] at hm ⊢
   exact ⟨hm.1, (List.pairwise_cons.1 hm.2.1).2, fun a ha b hb => hm.2.2 a ha b (by simp [hb])⟩
theorem pZ : ∀ (l : List cj) (x : cj), (w5 l x).Perm (x :: l)
 | [], x => List.Perm.refl _
 | y :: r, x => by
  unfold w5
  split
  ·exact ((pZ r x).cons y).trans (List.Perm.swap x y r)
  ·exact List.Perm.refl _
theorem yX : ∀ (l : List cj) (x : cj), gB l → gB (w5 l x)
 | [], x, _ => List.pairwise_singleton _ _
 | y :: r, x, h => by
  have h1 := List.pairwise_cons.1 h
  unfold w5
  split
  ·rename_i hy
   refine List.pairwise_cons.2 ⟨fun z hz => ?_, yX r x h1.2⟩
   rcases List.mem_cons.1 ((pZ r x).subset hz) with rfl | hz
   ·exact hy
   ·exact h1.1 z hz
  ·rename_i hy
   refine List.pairwise_cons.2 ⟨fun z hz => ?_, h⟩
   rcases List.mem_cons.1 hz with rfl | hz
   ·omega
   ·have := h1.1 z hz; omega
theorem sO : ∀ (m l : List cj), gB l → gB (m.foldl w5 l) ∧ (m.foldl w5 l).Perm (l ++ m)
 | [], l, h => ⟨h, by simp⟩
 | x :: t, l, h => by
  obtain ⟨h1, h2⟩ := sO t (w5 l x) (yX l x h)
  refine ⟨h1, h2.trans ?_⟩
  exact ((pZ l x).append_right t).trans (by simp [List.perm_middle.symm])
theorem Dk {s : List cj} : ∀ x ∈ clip s, 0 ≤ x.lo ∧ x.lo < x.hi ∧ x.hi ≤ 1000000 := fun x hx => by
 obtain ⟨y, -, hy⟩ := List.mem_filterMap.1 hx
 unfold mS at hy
 split at hy
 ·cases hy; dsimp only; omega
 ·cases hy
theorem yY {s l : List cj} (hp : l.Perm (clip s)) (ha : gB l) : merge l = canon s := by
 obtain ⟨h1, h2⟩ := sO (clip s) [] List.Pairwise.nil
 exact sN l _ [] (hp.trans (by simpa using h2.symm)) ha h1 fun x hx => by have := Dk x (hp.subset hx); omega
structure mT where
 mj : Int
 mn : Int
 pt : Int
structure Rq where
 path : ByteArray
 set : List cj
structure Rl where
 path : ByteArray
 bW : mT
 reqs : List Rq
 ar : ByteArray
 itf : ByteArray
 ce : ByteArray
 yk : Bool
structure kr where
 path : ByteArray
 bW : mT
theorem mT.ext' {a b : mT} (h1 : a.mj = b.mj) (h2 : a.mn = b.mn) (h3 : a.pt = b.pt) : a = b := by cases a; cases b; simp_all
theorem cj.ext' {a b : cj} (h1 : a.lo = b.lo) (h2 : a.hi = b.hi) : a = b := by cases a; cases b; simp_all
instance : DecidableEq cj := fun a b => if h : a.lo = b.lo ∧ a.hi = b.hi then .isTrue (cj.ext' h.1 h.2) else .isFalse fun e => h (by subst e; exact ⟨rfl, rfl⟩)
theorem kr.ext' {a b : kr} (h1 : a.path = b.path) (h2 : a.bW = b.bW) : a = b := by cases a; cases b; simp_all
instance : DecidableEq mT := fun a b => if h : a.mj = b.mj ∧ a.mn = b.mn ∧ a.pt = b.pt then .isTrue (mT.ext' h.1 h.2.1 h.2.2) else .isFalse fun e => h (by subst e; exact ⟨rfl, rfl, rfl⟩)
instance : DecidableEq kr := fun a b => if h : a.path = b.path ∧ a.bW = b.bW then .isTrue (kr.ext' h.1 h.2) else .isFalse fun e => h (by subst e; exact ⟨rfl, rfl⟩)
def Rl.key (r : Rl) : kr := ⟨r.path, r.bW⟩
def mT.place (v : mT) : Int := 1000 * v.mn + v.pt
def has (s : List cj) (p : Int) : Bool := decide (0 ≤ p) && decide (p < 1000000) && s.any fun x => decide (x.lo ≤ p) && decide (p < x.hi)
def SP (q : Rq) (r : Rl) : Bool := decide (q.path = r.path) && has q.set r.bW.place
inductive F7 (l : List Rl) (roots : List Rq) : Rl → Prop
 | root (q : Rq) (r : Rl) (hq : q ∈ roots) (hr : r ∈ l) (h : SP q r = true) : F7 l roots r
 | step (a : Rl) (q : Rq) (r : Rl) (ha : F7 l roots a) (hq : q ∈ a.reqs) (hr : r ∈ l) (h : SP q r = true) : F7 l roots r
theorem F7.mem {l : List Rl} {roots : List Rq} {r : Rl} (h : F7 l roots r) : r ∈ l := by cases h <;> assumption
theorem F7.mono {l : List Rl} {roots more : List Rq} (hm : ∀ q ∈ roots, q ∈ more) {r : Rl} (h : F7 l roots r) : F7 l more r := by
 induction h with
 | root q r hq hr h => exact .root q r (hm q hq) hr h
 | step a q r _ hq hr h ih => exact .step a q r ih hq hr h
noncomputable def U0 (l : List Rl) (roots : List Rq) : List Rl := l.filter fun r => @decide _ (Classical.propDecidable (F7 l roots r))
inductive ON (l : List Rl) (roots : List Rq) : ByteArray → Prop
 | root (q : Rq) (hq : q ∈ roots) : ON l roots q.path
 | step (a : Rl) (q : Rq) (ha : a ∈ l) (hn : ON l roots a.path) (hq : q ∈ a.reqs) : ON l roots q.path
theorem F7.sub {l m : List Rl} {roots : List Rq} (pE : ∀ r ∈ l, r ∈ m) {r : Rl} (h : F7 l roots r) : F7 m roots r := by
 induction h with
 | root q r hq hr h => exact .root q r hq (pE r hr) h
 | step a q r _ hq hr h ih => exact .step a q r ih hq (pE r hr) h
def from_ (s : ByteArray) (at_ : Nat) : List UInt8 := s.data.toList.drop at_
def cw (s : ByteArray) : List UInt8 := s.data.toList
end Go.Proofs.YtefbaladomfccaaGreatDoor
end

section
namespace Go.Proofs.YtefbaladomfccaaGreatDoor
open Go.Eng
variable [aK]
def au (s : cj) : V := .agg [num s.lo, num s.hi]
def bY (l : List cj) : V := .slice (l.map au)
def SQ (q : Rq) : V := .agg [str q.path, bY q.set]
def HC (l : List Rq) : V := .slice (l.map SQ)
def b7 (v : mT) : V := .agg [num v.mj, num v.mn, num v.pt]
def a6 (s : kr) : V := .agg [str s.path, num s.bW.mj, num s.bW.mn, num s.bW.pt]
def KJ (l : List kr) : V := .slice (l.map a6)
def KK (r : Rl) : List V := [str r.path, num r.bW.mj, num r.bW.mn, num r.bW.pt, HC r.reqs, str r.ar, str r.itf, str r.ce, bl r.yk]
def SR (r : Rl) : V := .agg (KK r)
def OO (l : List Rl) : V := .slice (l.map SR)
attribute [go_sem] bY HC KJ OO
end Go.Proofs.YtefbaladomfccaaGreatDoor
end

section
namespace Go.Proofs.YtefbaladomfccaaGreatDoor
open Go.Eng
open Nat renaming reduceAdd → zA, reduceLT → zB, reduceLeDiff → zC, reduceMul → zD, reduceEqDiff → zE, reduceSub → zF
variable [aK]
set_option maxHeartbeats 4000000
set_option maxRecDepth 100000
theorem OP {s e : ByteArray} (he : e.size = 0) (h : (!(s.toList == e.toList)) = true) : ∃ c, s[0]? = some c := by
 refine cr (s := s) (i := 0) ?_
 rcases Nat.eq_zero_or_pos s.size with hz | hz
 ·exfalso
  have e1 : s.toList = e.toList := by
   rw [ByteArray.toList_eq, ByteArray.toList_eq]
   have a1 : s.data.toList = [] := by simpa [← List.length_eq_zero_iff, Array.length_toList] using hz
   have a2 : e.data.toList = [] := by simpa [← List.length_eq_zero_iff, Array.length_toList] using he
   rw [a1, a2]
  rw [e1] at h; simp at h
 ·exact hz
def uu (c : Int) : Bool := decide (97 ≤ c) && decide (c ≤ 122)
def Bs (c : Int) : Bool := decide (65 ≤ c) && decide (c ≤ 90)
def eZ (c : Int) : Bool := decide (48 ≤ c) && decide (c ≤ 57)
def k7 (c : Int) : Bool := uu c || Bs c || eZ c || decide (c = 95)
def sP (c : Int) : Bool := uu c || eZ c
def gH (p : Int → Bool) (s : ByteArray) : Bool := s.data.toList.all fun b => p b.toNat
def c8 (s : ByteArray) (i : Nat) : Int := match s[i]? with | some c => c.toNat | none => 0
theorem mc {s : ByteArray} {i : Nat} {c : UInt8} (h : s[i]? = some c) : s.data.toList[i]? = some c := by
 obtain ⟨h1, h2⟩ := getElem?_eq_some_iff.1 h
 have h3 : i < s.data.toList.length := by simpa using h1
 rw [List.getElem?_eq_getElem h3]
 exact congrArg some (by rw [Array.getElem_toList]; exact h2)
theorem dD {s : ByteArray} {i : Nat} {c : UInt8} (h : s[i]? = some c) : c8 s i = c.toNat := by unfold c8; rw [h]
theorem ku {p : Int → Bool} {s : ByteArray} (h : ∀ j < s.size, ∀ b, s[j]? = some b → p b.toNat = true) : gH p s = true := by
 refine List.all_eq_true.2 fun b hb => ?_
 obtain ⟨j, hj⟩ := List.mem_iff_getElem?.1 hb
 have h1 : j < s.size := by have := (List.getElem?_eq_some_iff.1 hj).1; simpa using this
 obtain ⟨c, hc⟩ := cr h1
 have := mc hc
 rw [hj] at this; cases this
 exact h j h1 b hc
theorem jq {p : Int → Bool} {s : ByteArray} {j : Nat} {b : UInt8} (h : s[j]? = some b) (hp : p b.toNat = false) : gH p s = false := by
 have hm := List.mem_of_getElem? (mc h)
 cases ha : gH p s with
 | false => rfl
 | true => have := List.all_eq_true.1 ha b hm; rw [hp] at this; cases this
theorem Dl {s e : ByteArray} (he : e.size = 0) (h : (!(s.toList == e.toList)) = true) : 1 ≤ s.size := by
 obtain ⟨c, hc⟩ := OP he h
 exact (getElem?_eq_some_iff.1 hc).1
theorem yZ {s e : ByteArray} (he : e.size = 0) (h : (!(s.toList == e.toList)) = false) : s.size = 0 := by
 have e1 : s.toList = e.toList := by simpa using h
 rw [ByteArray.toList_eq, ByteArray.toList_eq] at e1
 have := congrArg List.length e1
 simp only [Array.length_toList] at this
 exact Eq.trans this he
theorem sQ (c : Int) : ∃ r_, (fun w => w = bl (uu c)) r_ ∧ aR Tryz.prog 172 [.sc (.int .u8 c)] r_ := by
 refine eu tt_ok [] 9 [.tmp 2] (fn := Tryz.f172) Tryz.func172 rfl Tryz.call172 ⟨rfl, rfl, by simp⟩ fun K hK => ?_
 simp only [go_sem,reduceIte,zA,zB,zC,zD,zE,zF,reduceCtorEq]
 refine aT (fun eI => ?_) (fun eI => ?_)
 ·simp only [go_sem,reduceIte,zA,zB,zC,zD,zE,zF,reduceCtorEq]
  exact hK _ (congrArg bl (by simp_all [uu] <;> (intros; omega)))
 ·simp only [go_sem,reduceIte,zA,zB,zC,zD,zE,zF,reduceCtorEq]
  exact hK _ (congrArg bl (by simp_all [uu] <;> (intros; omega)))
theorem Bt (c : Int) : ∃ r_, (fun w => w = bl (Bs c)) r_ ∧ aR Tryz.prog 270 [.sc (.int .u8 c)] r_ := by
 refine eu tt_ok [] 9 [.tmp 2] (fn := Tryz.f270) Tryz.func270 rfl Tryz.call270 ⟨rfl, rfl, by simp⟩ fun K hK => ?_
 simp only [go_sem,reduceIte,zA,zB,zC,zD,zE,zF,reduceCtorEq]
 refine aT (fun eI => ?_) (fun eI => ?_)
 ·simp only [go_sem,reduceIte,zA,zB,zC,zD,zE,zF,reduceCtorEq]
  exact hK _ (congrArg bl (by simp_all [Bs] <;> (intros; omega)))
 ·simp only [go_sem,reduceIte,zA,zB,zC,zD,zE,zF,reduceCtorEq]
  exact hK _ (congrArg bl (by simp_all [Bs] <;> (intros; omega)))
theorem o9 (c : Int) : ∃ r_, (fun w => w = bl (eZ c)) r_ ∧ aR Tryz.prog 173 [.sc (.int .u8 c)] r_ := by
 refine eu tt_ok [] 9 [.tmp 2] (fn := Tryz.f173) Tryz.func173 rfl Tryz.call173 ⟨rfl, rfl, by simp⟩ fun K hK => ?_
 simp only [go_sem,reduceIte,zA,zB,zC,zD,zE,zF,reduceCtorEq]
 refine aT (fun eI => ?_) (fun eI => ?_)
 ·simp only [go_sem,reduceIte,zA,zB,zC,zD,zE,zF,reduceCtorEq]
  exact hK _ (congrArg bl (by simp_all [eZ] <;> (intros; omega)))
 ·simp only [go_sem,reduceIte,zA,zB,zC,zD,zE,zF,reduceCtorEq]
  exact hK _ (congrArg bl (by simp_all [eZ] <;> (intros; omega)))
theorem qa (c : Int) : ∃ r_, (fun w => w = bl (uu c)) r_ ∧ aR Tryz.prog 245 [.sc (.int .u8 c)] r_ := by
 refine eu tt_ok [] 9 [.tmp 2] (fn := Tryz.f245) Tryz.func245 rfl Tryz.call245 ⟨rfl, rfl, by simp⟩ fun K hK => ?_
 simp only [go_sem,reduceIte,zA,zB,zC,zD,zE,zF,reduceCtorEq]
 refine aT (fun eI => ?_) (fun eI => ?_)
 ·simp only [go_sem,reduceIte,zA,zB,zC,zD,zE,zF,reduceCtorEq]
  exact hK _ (congrArg bl (by simp_all [uu] <;> (intros; omega)))
 ·simp only [go_sem,reduceIte,zA,zB,zC,zD,zE,zF,reduceCtorEq]
  exact hK _ (congrArg bl (by simp_all [uu] <;> (intros; omega)))
theorem y0 (c : Int) : ∃ r_, (fun w => w = bl (Bs c)) r_ ∧ aR Tryz.prog 315 [.sc (.int .u8 c)] r_ := by
 refine eu tt_ok [] 9 [.tmp 2] (fn := Tryz.f315) Tryz.func315 rfl Tryz.call315 ⟨rfl, rfl, by simp⟩ fun K hK => ?_
 simp only [go_sem,reduceIte,zA,zB,zC,zD,zE,zF,reduceCtorEq]
 refine aT (fun eI => ?_) (fun eI => ?_)
 ·simp only [go_sem,reduceIte,zA,zB,zC,zD,zE,zF,reduceCtorEq]
  exact hK _ (congrArg bl (by simp_all [Bs] <;> (intros; omega)))
 ·simp only [go_sem,reduceIte,zA,zB,zC,zD,zE,zF,reduceCtorEq]
  exact hK _ (congrArg bl (by simp_all [Bs] <;> (intros; omega)))
theorem mU (c : Int) : ∃ r_, (fun w => w = bl (eZ c)) r_ ∧ aR Tryz.prog 246 [.sc (.int .u8 c)] r_ := by
 refine eu tt_ok [] 9 [.tmp 2] (fn := Tryz.f246) Tryz.func246 rfl Tryz.call246 ⟨rfl, rfl, by simp⟩ fun K hK => ?_
 simp only [go_sem,reduceIte,zA,zB,zC,zD,zE,zF,reduceCtorEq]
 refine aT (fun eI => ?_) (fun eI => ?_)
 ·simp only [go_sem,reduceIte,zA,zB,zC,zD,zE,zF,reduceCtorEq]
  exact hK _ (congrArg bl (by simp_all [eZ] <;> (intros; omega)))
 ·simp only [go_sem,reduceIte,zA,zB,zC,zD,zE,zF,reduceCtorEq]
  exact hK _ (congrArg bl (by simp_all [eZ] <;> (intros; omega)))
theorem KL (c : Int) : ∃ r_, (fun w => w = bl (k7 c)) r_ ∧ aR Tryz.prog 221 [.sc (.int .u8 c)] r_ := by
 refine eu tt_ok [] 17 [.tmp 2] (fn := Tryz.f221) Tryz.func221 rfl Tryz.call221 ⟨rfl, rfl, by simp⟩ fun K hK => ?_
 simp only [go_sem,reduceIte,zA,zB,zC,zD,zE,zF,reduceCtorEq]
 refine cF (sQ _) ?_
 rintro _ rfl
 simp only [go_sem,reduceIte,zA,zB,zC,zD,zE,zF,reduceCtorEq]
 refine aT (fun eI => ?_) (fun eI => ?_)
 ·simp only [go_sem,reduceIte,zA,zB,zC,zD,zE,zF,reduceCtorEq]
  exact hK _ (congrArg bl (by simp_all [k7]))
 ·simp only [go_sem,reduceIte,zA,zB,zC,zD,zE,zF,reduceCtorEq]
  refine cF (Bt _) ?_
  rintro _ rfl
  simp only [go_sem,reduceIte,zA,zB,zC,zD,zE,zF,reduceCtorEq]
  refine aT (fun y1 => ?_) (fun y1 => ?_)
  ·simp only [go_sem,reduceIte,zA,zB,zC,zD,zE,zF,reduceCtorEq]
   exact hK _ (congrArg bl (by simp_all [k7]))
  ·simp only [go_sem,reduceIte,zA,zB,zC,zD,zE,zF,reduceCtorEq]
   refine cF (o9 _) ?_
   rintro _ rfl
   simp only [go_sem,reduceIte,zA,zB,zC,zD,zE,zF,reduceCtorEq]
   refine aT (fun Bu => ?_) (fun Bu => ?_)
   ·simp only [go_sem,reduceIte,zA,zB,zC,zD,zE,zF,reduceCtorEq]
    exact hK _ (congrArg bl (by simp_all [k7]))
   ·simp only [go_sem,reduceIte,zA,zB,zC,zD,zE,zF,reduceCtorEq]
    exact hK _ (congrArg bl (by simp_all [k7]))
theorem HD (c : Int) : ∃ r_, (fun w => w = bl (k7 c)) r_ ∧ aR Tryz.prog 304 [.sc (.int .u8 c)] r_ := by
 refine eu tt_ok [] 17 [.tmp 2] (fn := Tryz.f304) Tryz.func304 rfl Tryz.call304 ⟨rfl, rfl, by simp⟩ fun K hK => ?_
 simp only [go_sem,reduceIte,zA,zB,zC,zD,zE,zF,reduceCtorEq]
 refine cF (qa _) ?_
 rintro _ rfl
 simp only [go_sem,reduceIte,zA,zB,zC,zD,zE,zF,reduceCtorEq]
 refine aT (fun eI => ?_) (fun eI => ?_)
 ·simp only [go_sem,reduceIte,zA,zB,zC,zD,zE,zF,reduceCtorEq]
  exact hK _ (congrArg bl (by simp_all [k7]))
 ·simp only [go_sem,reduceIte,zA,zB,zC,zD,zE,zF,reduceCtorEq]
  refine cF (y0 _) ?_
  rintro _ rfl
  simp only [go_sem,reduceIte,zA,zB,zC,zD,zE,zF,reduceCtorEq]
  refine aT (fun y1 => ?_) (fun y1 => ?_)
  ·simp only [go_sem,reduceIte,zA,zB,zC,zD,zE,zF,reduceCtorEq]
   exact hK _ (congrArg bl (by simp_all [k7]))
  ·simp only [go_sem,reduceIte,zA,zB,zC,zD,zE,zF,reduceCtorEq]
   refine cF (mU _) ?_
   rintro _ rfl
   simp only [go_sem,reduceIte,zA,zB,zC,zD,zE,zF,reduceCtorEq]
   refine aT (fun Bu => ?_) (fun Bu => ?_)
   ·simp only [go_sem,reduceIte,zA,zB,zC,zD,zE,zF,reduceCtorEq]
    exact hK _ (congrArg bl (by simp_all [k7]))
   ·simp only [go_sem,reduceIte,zA,zB,zC,zD,zE,zF,reduceCtorEq]
    exact hK _ (congrArg bl (by simp_all [k7]))
theorem SS (c : Int) : ∃ r_, (fun w => w = bl (sP c)) r_ ∧ aR Tryz.prog 171 [.sc (.int .u8 c)] r_ := by
 refine eu tt_ok [] 9 [.tmp 2] (fn := Tryz.f171) Tryz.func171 rfl Tryz.call171 ⟨rfl, rfl, by simp⟩ fun K hK => ?_
 simp only [go_sem,reduceIte,zA,zB,zC,zD,zE,zF,reduceCtorEq]
 refine cF (sQ _) ?_
 rintro _ rfl
 simp only [go_sem,reduceIte,zA,zB,zC,zD,zE,zF,reduceCtorEq]
 refine aT (fun eI => ?_) (fun eI => ?_)
 ·simp only [go_sem,reduceIte,zA,zB,zC,zD,zE,zF,reduceCtorEq]
  exact hK _ (congrArg bl (by simp_all [sP]))
 ·simp only [go_sem,reduceIte,zA,zB,zC,zD,zE,zF,reduceCtorEq]
  refine cF (o9 _) ?_
  rintro _ rfl
  simp only [go_sem,reduceIte,zA,zB,zC,zD,zE,zF,reduceCtorEq]
  exact hK _ (congrArg bl (by simp_all [sP]))
theorem w6 (g : FuncId) (p : Int → Bool) (hg : ∀ c : Int, ∃ r, (fun v => v = bl (p c)) r ∧ aR Tryz.prog g [.sc (.int .u8 c)] r) (s : ByteArray) (hs : s.size ≤ 1048576) : ∃ r_, (fun w => w = bl (gH p s)) r_ ∧ aR Tryz.prog 170 [str s, .sc (.func (.func g) #[] #[])] r_ := by
 refine eu tt_ok [] 18 [.tmp 4] (fn := Tryz.f170) Tryz.func170 rfl Tryz.call170 ⟨rfl, rfl, by simp⟩ fun K hK => ?_
 have gv : Tryz.prog.underlying 9 = some .string := by kernel_rfl
 have sl : ∀ (a : ByteArray) (ty : TypeId), dh Tryz.prog (Builtin.len_ #[9] ty) [.sc (.string a)] = some (num a.size) := fun a ty => cH (P := Tryz.prog) (tt := tt) (T := 9) a gv ty
 simp only [sl,go_sem,reduceIte,zA,zB,zC,zD,zE,zF,reduceCtorEq]
 refine bk tt_ok [] [8] 0 [0,1,7] (fun vs => ((s.size : Int) - Go.Eng.intOf (vs.headD .undef)).toNat) (fun vs => ∃ i : Nat, vs = [num i] ∧ i ≤ s.size ∧ ∀ j < i, ∀ b, s[j]? = some b → p b.toNat = true) (by omega) (by simp only [sl,go_sem,reduceIte,zA,zB,zC,zD,zE,zF,reduceCtorEq]) (⟨0, rfl, Nat.zero_le _, fun j hj => absurd hj (Nat.not_lt_zero j)⟩) fun vs hI Z1 bX => ?_
 obtain ⟨i, rfl, hi, cT⟩ := hI
 simp only [sl,go_sem,reduceIte,zA,zB,zC,zD,zE,zF,reduceCtorEq]
 refine aT (fun jC => ?_) (fun jC => ?_)
 ·have aL : i < s.size := by simpa using jC
  have hw := aq i (by omega)
  obtain ⟨c, lH⟩ := cr (s := s) (i := i) aL
  have fP := dI (P := Tryz.prog) s gv .i64 (i : Int) (by omega) (c := c) (show s[((i : Nat) : Int).toNat]? = some c from lH)
  simp only [hw,fP,sl,go_sem,reduceIte,zA,zB,zC,zD,zE,zF,reduceCtorEq]
  refine cF (hg _) ?_
  rintro _ rfl
  simp only [hw,fP,sl,go_sem,reduceIte,zA,zB,zC,zD,zE,zF,reduceCtorEq]
  refine aT (fun ik => ?_) (fun ik => ?_)
  ·have ax : false = gH p s := (jq lH (by simpa using ik)).symm
   simp only [hw,fP,sl,go_sem,reduceIte,zA,zB,zC,zD,zE,zF,reduceCtorEq]
   exact hK _ (congrArg bl ax)
  ·simp only [hw,fP,sl,go_sem,reduceIte,zA,zB,zC,zD,zE,zF,reduceCtorEq]
   refine bX _ (b5 (by omega) (by simp only [hw,fP,sl,go_sem,reduceIte,zA,zB,zC,zD,zE,zF,reduceCtorEq]) ?_ ?_) <;> simp only [dY,lk,reduceIte,zE]
   ·refine ⟨i + 1, rfl, aL, fun j hj b hb => ?_⟩
    rcases Nat.lt_or_ge j i with h | h
    ·exact cT j h b hb
    ·obtain rfl : j = i := by omega
     rw [lH] at hb; cases hb; simpa using ik
   ·simp only [Go.Eng.intOf,List.headD_cons]; omega
 ·have cP : ¬ i < s.size := by simpa using jC
  have ax : true = gH p s := (ku fun j hj b hb => cT j (by omega) b hb).symm
  simp only [sl,go_sem,reduceIte,zA,zB,zC,zD,zE,zF,reduceCtorEq]
  exact hK _ (congrArg bl ax)
theorem HE (s : ByteArray) (hs : s.size ≤ 1048576) : ∃ r_, (fun w => w = bl (gH k7 s)) r_ ∧ aR Tryz.prog 279 [str s] r_ := by
 refine eu tt_ok [] 15 [.tmp 2] (fn := Tryz.f279) Tryz.func279 rfl Tryz.call279 ⟨rfl, rfl, by simp⟩ fun K hK => ?_
 have gv : Tryz.prog.underlying 9 = some .string := by kernel_rfl
 have sl : ∀ (a : ByteArray) (ty : TypeId), dh Tryz.prog (Builtin.len_ #[9] ty) [.sc (.string a)] = some (num a.size) := fun a ty => cH (P := Tryz.prog) (tt := tt) (T := 9) a gv ty
 simp only [sl,go_sem,reduceIte,zA,zB,zC,zD,zE,zF,reduceCtorEq]
 refine bk tt_ok [] [3] 0 [0] (fun vs => ((s.size : Int) - Go.Eng.intOf (vs.headD .undef)).toNat) (fun vs => ∃ i : Nat, vs = [num i] ∧ i ≤ s.size ∧ ∀ j < i, ∀ b, s[j]? = some b → k7 b.toNat = true) (by omega) (by simp only [sl,go_sem,reduceIte,zA,zB,zC,zD,zE,zF,reduceCtorEq]) (⟨0, rfl, Nat.zero_le _, fun j hj => absurd hj (Nat.not_lt_zero j)⟩) fun vs hI Z1 bX => ?_
 obtain ⟨i, rfl, hi, cT⟩ := hI
 simp only [sl,go_sem,reduceIte,zA,zB,zC,zD,zE,zF,reduceCtorEq]
 refine aT (fun HF => ?_) (fun HF => ?_)
 ·have aL : i < s.size := by simpa using HF
  have hw := aq i (by omega)
  obtain ⟨c, lH⟩ := cr (s := s) (i := i) aL
  have fP := dI (P := Tryz.prog) s gv .i64 (i : Int) (by omega) (c := c) (show s[((i : Nat) : Int).toNat]? = some c from lH)
  simp only [hw,fP,sl,go_sem,reduceIte,zA,zB,zC,zD,zE,zF,reduceCtorEq]
  refine cF (HD _) ?_
  rintro _ rfl
  simp only [hw,fP,sl,go_sem,reduceIte,zA,zB,zC,zD,zE,zF,reduceCtorEq]
  refine aT (fun il => ?_) (fun il => ?_)
  ·have ax : false = gH k7 s := (jq lH (by simpa using il)).symm
   simp only [hw,fP,sl,go_sem,reduceIte,zA,zB,zC,zD,zE,zF,reduceCtorEq]
   exact hK _ (congrArg bl ax)
  ·simp only [hw,fP,sl,go_sem,reduceIte,zA,zB,zC,zD,zE,zF,reduceCtorEq]
   refine bX _ (b5 (by omega) (by simp only [hw,fP,sl,go_sem,reduceIte,zA,zB,zC,zD,zE,zF,reduceCtorEq]) ?_ ?_) <;> simp only [dY,lk,reduceIte,zE]
   ·refine ⟨i + 1, rfl, aL, fun j hj b hb => ?_⟩
    rcases Nat.lt_or_ge j i with h | h
    ·exact cT j h b hb
    ·obtain rfl : j = i := by omega
     rw [lH] at hb; cases hb; simpa using il
   ·simp only [Go.Eng.intOf,List.headD_cons]; omega
 ·have cP : ¬ i < s.size := by simpa using HF
  have ax : true = gH k7 s := (ku fun j hj b hb => cT j (by omega) b hb).symm
  simp only [sl,go_sem,reduceIte,zA,zB,zC,zD,zE,zF,reduceCtorEq]
  exact hK _ (congrArg bl ax)
end Go.Proofs.YtefbaladomfccaaGreatDoor
end

section
namespace Go.Proofs.YtefbaladomfccaaGreatDoor
open Go.Eng
open Nat renaming reduceAdd → zA, reduceLT → zB, reduceLeDiff → zC, reduceMul → zD, reduceEqDiff → zE, reduceSub → zF
variable [aK]
set_option maxHeartbeats 4000000
set_option maxRecDepth 100000
def mT.part (v : mT) (i : Nat) : Int := if i = 0 then v.mj else if i = 1 then v.mn else v.pt
theorem WR (a b c : Int) : AL Tryz.prog 232 [(0, .int .i64 a), (1, .int .i64 b), (2, .int .i64 c)] = some (.agg [num a, num b, num c]) := by kernel_rfl
theorem OQ (a b c : Int) : bE Tryz.prog (Instr.index 232) (.agg [num a, num b, num c]) (num 0) = some (num a) := by kernel_rfl
theorem OS (a b c : Int) : bE Tryz.prog (Instr.index 232) (.agg [num a, num b, num c]) (num 1) = some (num b) := by kernel_rfl
theorem OT (a b c : Int) : bE Tryz.prog (Instr.index 232) (.agg [num a, num b, num c]) (num 2) = some (num c) := by kernel_rfl
theorem SU (v : mT) (i : Nat) (h : i < 3) : bE Tryz.prog (Instr.index 232) (.agg [num v.mj, num v.mn, num v.pt]) (num i) = some (num (v.part i)) := by
 obtain ⟨a, b, c⟩ := v
 match i, h with
 | 0, _ => exact OQ a b c
 | 1, _ => exact OS a b c
 | 2, _ => exact OT a b c
def iJ (n : Int) : Bool := decide (0 ≤ n) && decide (n ≤ 999)
def mT.ok (v : mT) : Bool := iJ v.mj && iJ v.mn && iJ v.pt
theorem mT.Bv (v : mT) : v.ok = true ↔ ∀ i < 3, iJ (v.part i) = true := by
 unfold mT.ok
 simp only [Bool.and_eq_true]
 constructor
 ·rintro ⟨⟨h0, h1⟩, h2⟩ i hi
  match i, hi with
  | 0, _ => exact h0
  | 1, _ => exact h1
  | 2, _ => exact h2
 ·exact fun h => ⟨⟨h 0 (by omega), h 1 (by omega)⟩, h 2 (by omega)⟩
def qb (a b : ByteArray) : Bool := Op.bytesLess a.toList b.toList
theorem aJ (a b : ByteArray) : (a.toList == b.toList) = decide (a = b) := by
 rw [Bool.eq_iff_iff, beq_iff_eq, decide_eq_true_eq]
 refine ⟨fun h => ?_, fun h => by rw [h]⟩
 rw [ByteArray.toList_eq, ByteArray.toList_eq] at h
 cases a; cases b; congr 1; exact Array.toList_inj.1 h
theorem Bw (a b : ByteArray) : qb a b = decide (a.data.toList < b.data.toList) := by
 unfold qb
 rw [Proofs.bytesLess_eq, ByteArray.toList_eq, ByteArray.toList_eq]
theorem sR {v : mT} (h : v.ok = true) : IntKind.i64.wrap (1000 * v.mn) = 1000 * v.mn ∧ IntKind.i64.wrap (1000 * v.mn + v.pt) = v.place ∧ 0 ≤ v.place ∧ v.place < 1000000 := by
 unfold mT.ok iJ at h
 simp only [Bool.and_eq_true,decide_eq_true_eq] at h
 unfold mT.place
 refine ⟨IntWalk.i64_in _ (by omega), IntWalk.i64_in _ (by omega), by omega, by omega⟩
theorem HG (v : mT) : ∃ r_, (fun w => w = .agg [num v.mj, num v.mn, num v.pt]) r_ ∧ aR Tryz.prog 150 [b7 v] r_ := by
 refine eu tt_ok [] 10 [.cell 2 232] (fn := Tryz.f150) Tryz.func150 rfl Tryz.call150 ⟨rfl, rfl, by simp⟩ fun K hK => ?_
 simp only [b7]
 simp only [WR,go_sem,reduceIte,zA,zB,zC,zD,zE,zF,reduceCtorEq]
 exact hK _ rfl
theorem HH (v : mT) : ∃ r_, (fun w => w = bl (v.ok)) r_ ∧ aR Tryz.prog 104 [b7 v] r_ := by
 refine eu tt_ok [] 17 [.tmp 2] (fn := Tryz.f104) Tryz.func104 rfl Tryz.call104 ⟨rfl, rfl, by simp⟩ fun K hK => ?_
 simp only [b7]
 simp only [go_sem,reduceIte,zA,zB,zC,zD,zE,zF,reduceCtorEq]
 refine cF (by have h := HG v; simp only [b7] at h; exact h) ?_
 rintro _ rfl
 simp only [go_sem,reduceIte,zA,zB,zC,zD,zE,zF,reduceCtorEq]
 refine bk tt_ok [] [7] 1 [6] (fun vs => ((3 : Int) - Go.Eng.intOf (vs.headD .undef)).toNat) (fun vs => ∃ i : Nat, vs = [num i] ∧ i ≤ 3 ∧ ∀ j < i, iJ (v.part j) = true) (by omega) (by simp only [go_sem,reduceIte,zA,zB,zC,zD,zE,zF,reduceCtorEq]) (⟨0, rfl, Nat.zero_le _, fun j hj => absurd hj (Nat.not_lt_zero j)⟩) fun vs hI Z1 bX => ?_
 obtain ⟨i, rfl, hi, bp⟩ := hI
 simp only [go_sem,reduceIte,zA,zB,zC,zD,zE,zF,reduceCtorEq]
 refine aT (fun Bx => ?_) (fun Bx => ?_)
 ·have aL : i < 3 := by have := of_decide_eq_true Bx; omega
  have fP := SU v i aL
  have hw := aq i (by omega)
  simp only [fP,hw,go_sem,reduceIte,zA,zB,zC,zD,zE,zF,reduceCtorEq]
  refine aT (fun SV => ?_) (fun SV => ?_)
  ·have ax : false = v.ok := by
    cases ho : v.ok with
    | false => rfl
    | true =>
     have h1 := v.Bv.1 ho i aL
     unfold iJ at h1
     simp only [Bool.and_eq_true,decide_eq_true_eq] at h1
     exfalso; simp_all <;> omega
   simp only [fP,hw,go_sem,reduceIte,zA,zB,zC,zD,zE,zF,reduceCtorEq]
   exact hK _ (congrArg bl ax)
  ·simp only [fP,hw,go_sem,reduceIte,zA,zB,zC,zD,zE,zF,reduceCtorEq]
   refine aT (fun me => ?_) (fun me => ?_)
   ·have ax : false = v.ok := by
     cases ho : v.ok with
     | false => rfl
     | true =>
      have h1 := v.Bv.1 ho i aL
      unfold iJ at h1
      simp only [Bool.and_eq_true,decide_eq_true_eq] at h1
      exfalso; simp_all <;> omega
    simp only [fP,hw,go_sem,reduceIte,zA,zB,zC,zD,zE,zF,reduceCtorEq]
    exact hK _ (congrArg bl ax)
   ·simp only [fP,hw,go_sem,reduceIte,zA,zB,zC,zD,zE,zF,reduceCtorEq]
    refine bX _ (b5 (by omega) (by simp only [fP,hw,go_sem,reduceIte,zA,zB,zC,zD,zE,zF,reduceCtorEq]) ?_ ?_) <;> simp only [dY,lk,reduceIte,zE]
    ·refine ⟨i + 1, rfl, aL, fun j hj => ?_⟩
     rcases Nat.lt_or_ge j i with h | h
     ·exact bp j h
     ·obtain rfl : j = i := by omega
      unfold iJ; simp_all <;> omega
    ·simp only [Go.Eng.intOf,List.headD_cons]; omega
 ·have cP : i = 3 := by have := of_decide_eq_false Bx; omega
  subst cP
  have ax : true = v.ok := (v.Bv.2 bp).symm
  simp only [go_sem,reduceIte,zA,zB,zC,zD,zE,zF,reduceCtorEq]
  exact hK _ (congrArg bl ax)
end Go.Proofs.YtefbaladomfccaaGreatDoor
end

section
namespace Go.Proofs.YtefbaladomfccaaGreatDoor
open Go.Eng
variable [aK]
set_option maxHeartbeats 4000000
set_option maxRecDepth 100000
end Go.Proofs.YtefbaladomfccaaGreatDoor
end

section
namespace Go.Proofs.YtefbaladomfccaaGreatDoor
open Go.Eng
variable [aK]
theorem SX {P : Program} {T : TypeId} (hT : P.underlying T = some (.int .i64)) (d : Nat) (a b : Int) : aU P (Op.equalIn (d + 1) T (.int .i64 a) (.int .i64 b)) = some (a == b) := by
 rw [Op.equalIn, bB, eU hT]
 rfl
theorem OU (d : Nat) (a b c e : Int) : aU Tryz.prog (Op.equalIn (d + 1 + 1) 82 (.agg #[.int .i64 a, .int .i64 b]) (.agg #[.int .i64 c, .int .i64 e])) = some (a == c && b == e) := by
 have q1 := SX Tryz.underlying3 d a c
 have q2 := SX Tryz.underlying3 d b e
 have hs : Tryz.prog.stoodInHeld 82 = false := by kernel_rfl
 have Rm : ∀ x y, aU Tryz.prog (part 3 #[x, y] 0) = some x := fun x y => by kernel_rfl
 have AP : ∀ x y, aU Tryz.prog (part 3 #[x, y] 1) = some y := fun x y => by kernel_rfl
 rw [Op.equalIn, bB, eU Tryz.underlying82]
 dsimp only [Option.bind_some]
 rw [bB]
 show ((some Tryz.prog).bind _) = _
 rw [Option.bind_some, if_neg (by rw [hs]; simp)]
 rw [← Array.forIn_toList]
 have n1 : ("From" ≠ "_") := by decide
 have n2 : ("To" ≠ "_") := by decide
 have pr : ∀ {α : Type} (x : α), aU Tryz.prog (pure x : Sem α) = some x := fun x => rfl
 simp only [List.forIn_cons,List.forIn_nil,bB,if_pos n1,if_pos n2,Rm,AP,Option.bind_some,q1,pr]
 cases hac : (a == c)
 ·simp [pr, Option.bind_some]
 ·simp only [Bool.not_true,Bool.false_eq_true,if_false,pr,Option.bind_some,bB,if_pos n2,AP,q2,Bool.true_and]
  cases nu : (b == e) <;> simp [pr, bB]
theorem WS (u v : cj) : aU Tryz.prog (Op.equal 82 (.agg #[.int .i64 u.lo, .int .i64 u.hi]) (.agg #[.int .i64 v.lo, .int .i64 v.hi])) = some (decide (u = v)) := by
 rw [show Op.equal 82 = Op.equalIn (9998 + 1 + 1) 82 from rfl, OU]
 congr 1
 rw [Bool.eq_iff_iff]
 simp only [Bool.and_eq_true,beq_iff_eq,decide_eq_true_eq]
 exact ⟨fun h => cj.ext' h.1 h.2, fun h => by subst h; exact ⟨rfl, rfl⟩⟩
theorem bU (x y : Operand) (u v : cj) : bE Tryz.prog (kM .neq 82 x y) (.agg [num u.lo, num u.hi]) (.agg [num v.lo, num v.hi]) = some (bl (!decide (u = v))) := by
 have : aU Tryz.prog (do eqGuard .neq 82 x y (.agg #[.int .i64 u.lo, .int .i64 u.hi]) (.agg #[.int .i64 v.lo, .int .i64 v.hi]); binOp .neq 82 (.agg #[.int .i64 u.lo, .int .i64 u.hi]) (.agg #[.int .i64 v.lo, .int .i64 v.hi])) = some (.bool (!decide (u = v))) := by
  have hg : aU Tryz.prog (eqGuard .neq 82 x y (.agg #[.int .i64 u.lo, .int .i64 u.hi]) (.agg #[.int .i64 v.lo, .int .i64 v.hi])) = some () := by kernel_rfl
  rw [bB, hg, Option.bind_some]
  have hb : ∀ u v : Array Value, binOp .neq 82 (.agg u) (.agg v) = (Op.equal 82 (.agg u) (.agg v) >>= fun r => Pure.pure (Value.bool !r)) := fun u v => rfl
  rw [hb, bB, WS]; rfl
 simp only [bE,cb,oj,kM]
 rw [this]; rfl
end Go.Proofs.YtefbaladomfccaaGreatDoor
end

section
namespace Go.Proofs.YtefbaladomfccaaGreatDoor
open Go.Eng
open Nat renaming reduceAdd → zA, reduceLT → zB, reduceLeDiff → zC, reduceMul → zD, reduceEqDiff → zE, reduceSub → zF
variable [aK]
set_option maxHeartbeats 4000000
set_option maxRecDepth 100000
def mT.pl (v : mT) : Int := if v.ok = true then v.place else 0
def nw (p : Int) (x : cj) : Bool := decide (x.lo ≤ p) && decide (p < x.hi)
theorem nR {α : Type} {q : α → Bool} {l : List α} {i : Nat} {x : α} (h : l[i]? = some x) (hq : q x = true) : l.any q = true := List.any_eq_true.2 ⟨x, List.mem_of_getElem? h, hq⟩
theorem any_none {α : Type} {q : α → Bool} {l : List α} (h : ∀ j < l.length, ∀ x, l[j]? = some x → q x = false) : l.any q = false := by
 rw [List.any_eq_false]
 intro x hx
 obtain ⟨j, hj⟩ := List.mem_iff_getElem?.1 hx
 rw [h j (List.getElem?_eq_some_iff.1 hj).1 x hj]; simp
theorem has_eq (s : List cj) (p : Int) : has s p = (decide (0 ≤ p) && decide (p < 1000000) && s.any (nw p)) := rfl
theorem Dm (s : List cj) (p : Int) : (s.any fun x => decide (max 0 x.lo ≤ p) && decide (p < min 1000000 x.hi)) = has s p := by
 rw [has_eq, Bool.eq_iff_iff]
 simp only [List.any_eq_true,Bool.and_eq_true,decide_eq_true_eq,nw]
 constructor
 ·rintro ⟨x, hx, h1, h2⟩; exact ⟨⟨by omega, by omega⟩, x, hx, by omega, by omega⟩
 ·rintro ⟨⟨h1, h2⟩, x, hx, h3, h4⟩; exact ⟨x, hx, by omega, by omega⟩
theorem sS {α : Type} {xs ys : List α} (hl : xs.length = ys.length) (h : ∀ j < xs.length, xs[j]? = ys[j]?) : xs = ys := by
 apply List.ext_getElem?
 intro j
 rcases Nat.lt_or_ge j xs.length with hj | hj
 ·exact h j hj
 ·rw [List.getElem?_eq_none hj, List.getElem?_eq_none (by omega)]
theorem EN (v : mT) : ∃ r_, (fun w => w = .ch [num v.pl, num (if v.ok = true then 0 else 2)]) r_ ∧ aR Tryz.prog 61 [b7 v] r_ := by
 refine eu tt_ok [] 13 [.tmp 2, .tmp 3] (fn := Tryz.f61) Tryz.func61 rfl Tryz.call61 ⟨rfl, rfl, by simp⟩ fun K hK => ?_
 simp only [b7]
 simp only [go_sem,reduceIte,zA,zB,zC,zD,zE,zF,reduceCtorEq]
 refine cF (by have h := HH v; simp only [b7] at h; exact h) ?_
 rintro _ rfl
 simp only [go_sem,reduceIte,zA,zB,zC,zD,zE,zF,reduceCtorEq]
 refine aT (fun OV => ?_) (fun OV => ?_)
 ·have ho : v.ok = false := by simpa using OV
  have hp : v.pl = 0 := by unfold mT.pl; rw [ho]; rfl
  simp only [go_sem,reduceIte,zA,zB,zC,zD,zE,zF,reduceCtorEq]
  refine hK _ ?_
  rw [hp, ho]
  rfl
 ·have ho : v.ok = true := by simpa using OV
  have hp : v.pl = v.place := if_pos ho
  obtain ⟨w1, w2, -, -⟩ := sR ho
  simp only [w1,w2,go_sem,reduceIte,zA,zB,zC,zD,zE,zF,reduceCtorEq]
  refine hK _ ?_
  rw [hp, ho]
  rfl
theorem KM (p : Int) (x : cj) : ∃ r_, (fun w => w = bl (nw p x)) r_ ∧ bF Tryz.prog 143 [au x, .ptr 0 0] ([.box [num p]]) r_ ([.box [num p]]) := by
 refine Mz tt_ok [] 14 [.tmp 3] (fn := Tryz.f143) Tryz.func143 rfl Tryz.call143 ⟨rfl, rfl, by simp⟩ fun K hK => ?_
 simp only [au]
 simp only [go_sem,reduceIte,zA,zB,zC,zD,zE,zF,reduceCtorEq]
 refine aT (fun SY => ?_) (fun SY => ?_)
 ·simp only [go_sem,reduceIte,zA,zB,zC,zD,zE,zF,reduceCtorEq]
  refine hK _ _ ⟨congrArg bl ?_, rfl⟩
  unfold nw; simp_all <;> (intros; omega)
 ·simp only [go_sem,reduceIte,zA,zB,zC,zD,zE,zF,reduceCtorEq]
  refine hK _ _ ⟨congrArg bl ?_, rfl⟩
  unfold nw; simp_all <;> (intros; omega)
theorem EO (p : Int) (s : List cj) (hl : s.length ≤ 1048576) : ∃ r_, (fun w => ∃ k : Int, w = num k ∧ decide (0 ≤ k) = s.any (nw p)) r_ ∧ bF Tryz.prog 187 [bY s, .iw (.func 143) [] [.ptr 0 0]] ([.box [num p]]) r_ ([.box [num p]]) := by
 refine Mz tt_ok [] 19 [.tmp 4] (fn := Tryz.f187) Tryz.func187 rfl Tryz.call187 ⟨rfl, rfl, by simp⟩ fun K hK => ?_
 simp only [bY]
 simp only [List.length_map,go_sem,reduceIte,zA,zB,zC,zD,zE,zF,reduceCtorEq]
 refine bk tt_ok [] [8] 1 [0,1,7] (fun vs => ((s.length : Int) - Go.Eng.intOf (vs.headD .undef)).toNat) (fun vs => ∃ i : Nat, vs = [num i] ∧ i ≤ s.length ∧ ∀ j < i, ∀ x, s[j]? = some x → nw p x = false) (by omega) (by simp only [List.length_map,go_sem,reduceIte,zA,zB,zC,zD,zE,zF,reduceCtorEq]) (⟨0, rfl, Nat.zero_le _, fun j hj => absurd hj (Nat.not_lt_zero j)⟩) fun vs hI Z1 bX => ?_
 obtain ⟨i, rfl, hi, bp⟩ := hI
 simp only [List.length_map,go_sem,reduceIte,zA,zB,zC,zD,zE,zF,reduceCtorEq]
 refine aT (fun jC => ?_) (fun jC => ?_)
 ·have aL : i < s.length := by simpa using jC
  have hw := aq i (by omega)
  obtain ⟨x, hx⟩ : ∃ x, s[i]? = some x := ⟨_, List.getElem?_eq_getElem aL⟩
  simp only [hw,List.getElem?_map,hx,au,List.length_map,go_sem,reduceIte,zA,zB,zC,zD,zE,zF,reduceCtorEq]
  refine cS (by have h := KM p x; simp only [au] at h; exact h) ?_
  rintro _ rfl
  simp only [hw,List.getElem?_map,hx,au,List.length_map,go_sem,reduceIte,zA,zB,zC,zD,zE,zF,reduceCtorEq]
  refine aT (fun ik => ?_) (fun ik => ?_)
  ·have ax : decide (0 ≤ (i : Int)) = s.any (nw p) := by rw [nR hx ik]; exact decide_eq_true (Int.natCast_nonneg i)
   simp only [hw,List.getElem?_map,hx,au,List.length_map,go_sem,reduceIte,zA,zB,zC,zD,zE,zF,reduceCtorEq]
   exact hK _ _ ⟨⟨_, rfl, ax⟩, rfl⟩
  ·simp only [hw,List.getElem?_map,hx,au,List.length_map,go_sem,reduceIte,zA,zB,zC,zD,zE,zF,reduceCtorEq]
   refine bX _ (b5 (by omega) (by simp only [hw,List.getElem?_map,hx,au,List.length_map,go_sem,reduceIte,zA,zB,zC,zD,zE,zF,reduceCtorEq]) ?_ ?_) <;> simp only [dY,lk,reduceIte,zE]
   ·refine ⟨i + 1, rfl, aL, fun j hj => ?_⟩
    rcases Nat.lt_or_ge j i with h | h
    ·exact bp j h
    ·obtain rfl : j = i := by omega
     intro y hy
     rw [hx] at hy; cases hy; exact ik
   ·simp only [Go.Eng.intOf,List.headD_cons]; omega
 ·have cP : ¬ i < s.length := by simpa using jC
  have ax : decide (0 ≤ (-1 : Int)) = s.any (nw p) := (any_none fun j hj => bp j (by omega)).symm ▸ rfl
  simp only [List.length_map,go_sem,reduceIte,zA,zB,zC,zD,zE,zF,reduceCtorEq]
  exact hK _ _ ⟨⟨_, rfl, ax⟩, rfl⟩
theorem EP (p : Int) (s : List cj) (hl : s.length ≤ 1048576) : ∃ r_, (fun w => w = bl (s.any (nw p))) r_ ∧ bF Tryz.prog 142 [bY s, .iw (.func 143) [] [.ptr 0 0]] ([.box [num p]]) r_ ([.box [num p]]) := by
 refine Mz tt_ok [] 9 [.tmp 4] (fn := Tryz.f142) Tryz.func142 rfl Tryz.call142 ⟨rfl, rfl, by simp⟩ fun K hK => ?_
 simp only [bY]
 simp only [go_sem,reduceIte,zA,zB,zC,zD,zE,zF,reduceCtorEq]
 refine cS (by have h := EO p s hl; simp only [bY] at h; exact h) ?_
 rintro _ ⟨k, rfl, hk⟩
 simp only [go_sem,reduceIte,zA,zB,zC,zD,zE,zF,reduceCtorEq]
 exact hK _ _ ⟨congrArg bl hk, rfl⟩
theorem OW (s : List cj) (p : Int) (hl : s.length ≤ 1048576) : ∃ r_, (fun w => w = bl (has s p)) r_ ∧ aR Tryz.prog 99 [bY s, num p] r_ := by
 refine eu tt_ok [] 16 [.tmp 4] (fn := Tryz.f99) Tryz.func99 rfl Tryz.call99 ⟨rfl, rfl, by simp⟩ fun K hK => ?_
 simp only [bY]
 simp only [go_sem,reduceIte,zA,zB,zC,zD,zE,zF,reduceCtorEq]
 refine aT (fun eI => ?_) (fun eI => ?_)
 ·simp only [go_sem,reduceIte,zA,zB,zC,zD,zE,zF,reduceCtorEq]
  refine aT (fun y1 => ?_) (fun y1 => ?_)
  ·simp only [go_sem,reduceIte,zA,zB,zC,zD,zE,zF,reduceCtorEq]
   refine cS (by have h := EP p s hl; simp only [bY] at h; exact h) ?_
   rintro _ rfl
   simp only [go_sem,reduceIte,zA,zB,zC,zD,zE,zF,reduceCtorEq]
   refine hK _ (congrArg bl ?_)
   rw [has_eq]; simp_all <;> (intros; omega)
  ·simp only [go_sem,reduceIte,zA,zB,zC,zD,zE,zF,reduceCtorEq]
   refine hK _ (congrArg bl ?_)
   rw [has_eq]; simp_all <;> (intros; omega)
 ·simp only [go_sem,reduceIte,zA,zB,zC,zD,zE,zF,reduceCtorEq]
  refine hK _ (congrArg bl ?_)
  rw [has_eq]; simp_all <;> (intros; omega)
theorem HI (s t : List cj) (hl : s.length ≤ 1048576) : ∃ r_, (fun w => w = bl (decide (s = t))) r_ ∧ aR Tryz.prog 75 [bY s, bY t] r_ := by
 refine eu tt_ok [] 26 [.tmp 4] (fn := Tryz.f75) Tryz.func75 rfl Tryz.call75 ⟨rfl, rfl, by simp⟩ fun K hK => ?_
 simp only [bY]
 simp only [List.length_map,bU,go_sem,reduceIte,zA,zB,zC,zD,zE,zF,reduceCtorEq]
 refine aT (fun fI => ?_) (fun fI => ?_)
 ·have ax : false = decide (s = t) := by
   refine (decide_eq_false fun e => ?_).symm
   subst e; simp at fI
  simp only [List.length_map,bU,go_sem,reduceIte,zA,zB,zC,zD,zE,zF,reduceCtorEq]
  exact hK _ (congrArg bl ax)
 ·have ob : s.length = t.length := by have := fI; simp at this; omega
  simp only [List.length_map,bU,go_sem,reduceIte,zA,zB,zC,zD,zE,zF,reduceCtorEq]
  refine bk tt_ok [] [13] 0 [0,1,10,12] (fun vs => ((s.length : Int) - Go.Eng.intOf (vs.headD .undef)).toNat) (fun vs => ∃ i : Nat, vs = [num i] ∧ i ≤ s.length ∧ ∀ j < i, s[j]? = t[j]?) (by omega) (by simp only [List.length_map,bU,go_sem,reduceIte,zA,zB,zC,zD,zE,zF,reduceCtorEq]) (⟨0, rfl, Nat.zero_le _, fun j hj => absurd hj (Nat.not_lt_zero j)⟩) fun vs hI Z1 bX => ?_
  obtain ⟨i, rfl, hi, bp⟩ := hI
  simp only [List.length_map,bU,go_sem,reduceIte,zA,zB,zC,zD,zE,zF,reduceCtorEq]
  refine aT (fun il => ?_) (fun il => ?_)
  ·have aL : i < s.length := by simpa using il
   have hw := aq i (by omega)
   obtain ⟨x, hx⟩ : ∃ x, s[i]? = some x := ⟨_, List.getElem?_eq_getElem aL⟩
   obtain ⟨y, hy⟩ : ∃ y, t[i]? = some y := ⟨_, List.getElem?_eq_getElem (by omega)⟩
   simp only [hw,List.getElem?_map,hx,hy,au,List.length_map,bU,go_sem,reduceIte,zA,zB,zC,zD,zE,zF,reduceCtorEq]
   refine bR tt_ok aN [⟨.n, 0, [], [], []⟩, ⟨.n, 0, [], [], []⟩, ⟨.r, 0, [], [], []⟩, ⟨.r, 0, [], [], []⟩, ⟨.n, 0, [], [], []⟩, ⟨.n, 0, [], [], []⟩, ⟨.r, 0, [], [], []⟩, ⟨.r, 0, [], [], []⟩, ⟨.n, 0, [], [], []⟩] 0 (by kernel_rfl) ?_
   simp only [hw,List.getElem?_map,hx,hy,au,List.length_map,bU,go_sem,reduceIte,zA,zB,zC,zD,zE,zF,reduceCtorEq]
   refine aT (fun ER => ?_) (fun ER => ?_)
   ·have ax : false = decide (s = t) := by
     refine (decide_eq_false fun e => ?_).symm
     subst e; rw [hx] at hy; cases hy; simp at ER
    simp only [hw,List.getElem?_map,hx,hy,au,List.length_map,bU,go_sem,reduceIte,zA,zB,zC,zD,zE,zF,reduceCtorEq]
    exact hK _ (congrArg bl ax)
   ·simp only [hw,List.getElem?_map,hx,hy,au,List.length_map,bU,go_sem,reduceIte,zA,zB,zC,zD,zE,zF,reduceCtorEq]
    refine bX _ (b5 (by omega) (by simp only [hw,List.getElem?_map,hx,hy,au,List.length_map,bU,go_sem,reduceIte,zA,zB,zC,zD,zE,zF,reduceCtorEq]) ?_ ?_) <;> simp only [dY,lk,reduceIte,zE]
    ·refine ⟨i + 1, rfl, aL, fun j hj => ?_⟩
     rcases Nat.lt_or_ge j i with h | h
     ·exact bp j h
     ·obtain rfl : j = i := by omega
      rw [hx, hy]
      have := ER
      simp_all
    ·simp only [Go.Eng.intOf,List.headD_cons]; omega
  ·have cP : ¬ i < s.length := by simpa using il
   have ax : true = decide (s = t) := (decide_eq_true (sS ob fun j hj => bp j (by omega))).symm
   simp only [List.length_map,bU,go_sem,reduceIte,zA,zB,zC,zD,zE,zF,reduceCtorEq]
   exact hK _ (congrArg bl ax)
end Go.Proofs.YtefbaladomfccaaGreatDoor
end
