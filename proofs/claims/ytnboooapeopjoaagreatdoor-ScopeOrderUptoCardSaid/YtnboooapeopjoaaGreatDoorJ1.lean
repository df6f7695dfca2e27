/-
  BASICS: abbreviations, numbers, sums.
-/
import Derived.Test.YtnboooapeopjoaaGreatDoorE7
import Derived.IntWalk
set_option linter.all false
section
namespace Go.Proofs.YtnboooapeopjoaaGreatDoor
open Go.Eng
/-- Facts on literal lists, bundled. -/
theorem ck : (∀ (α : Type) (l : List α), l.toArray.toList = l) ∧ (∀ (α : Type) (a b : List α), List.append a b = a ++ b) ∧ (∀ (α : Type) (a : α) (l r : List α), (a :: l) ++ r = a :: (l ++ r)) ∧ (∀ (α : Type) (l : List α), [] ++ l = l) ∧
    (∀ (α : Type) (n : Nat) (a : α) (l : List α), (a :: l).take (n + 1) = a :: l.take n) ∧ (∀ (α : Type) (l : List α), l.take 0 = []) ∧ (∀ (α : Type) (n : Nat) (a : α) (l : List α), (a :: l).drop (n + 1) = l.drop n) ∧ (∀ (α : Type) (l : List α), l.drop 0 = l) :=
  ⟨fun _ _ => rfl, fun _ _ _ => rfl, fun _ _ _ _ => rfl, fun _ _ => rfl, fun _ _ _ _ => rfl, fun _ _ => rfl, fun _ _ _ _ => rfl, fun _ _ => rfl⟩
/-- Lists by their runs. -/
def rp {α : Type} : Nat → α → List α → List α
  | 0, _, l => l
  | n + 1, a, l => a :: rp n a l
/-- Facts for frames, bundled. -/
theorem LA : (∀ (α : Type) (n : Nat) (a : α) (l : List α), rp (n + 1) a l = a :: rp n a l) ∧ (∀ (α : Type) (a : α) (l : List α), rp 0 a l = l) ∧
    (∀ (ws : List (Nat × V)) (i : Nat) (cs : List Nat), qv ws i cs [] = []) ∧ (∀ (ws : List (Nat × V)) (i : Nat) (v : V) (l : List V), qv ws i [] (v :: l) = v :: l) ∧
    (∀ (ws : List (Nat × V)) (i : Nat) (cs : List Nat) (v : V) (l : List V), qv ws i (0 :: cs) (v :: l) = v :: qv ws (i + 1) cs l) ∧ (∀ (ws : List (Nat × V)) (i : Nat) (cs : List Nat) (v : V) (l : List V), qv ws i (1 :: cs) (v :: l) = .undef :: qv ws (i + 1) cs l) ∧
    (∀ (ws : List (Nat × V)) (i : Nat) (cs : List Nat) (v : V) (l : List V), qv ws i (2 :: cs) (v :: l) = BZ i v ws :: qv ws (i + 1) cs l) ∧ (∀ (t : Nat) (b : V), BZ t b [] = b) ∧ (∀ (t k : Nat) (b v : V) (ws : List (Nat × V)), BZ t b ((k, v) :: ws) = if k = t then v else BZ t b ws) ∧
    (∀ (α : Type) (h : Decidable True) (a b : α), @ite α True h a b = a) ∧ (∀ (α : Type) (h : Decidable False) (a b : α), @ite α False h a b = b) :=
  ⟨fun _ _ _ _ => rfl, fun _ _ _ => rfl, fun _ _ cs => by cases cs <;> rfl, fun _ _ _ _ => rfl, fun _ _ _ _ _ => rfl, fun _ _ _ _ _ => rfl, fun _ _ _ _ _ => rfl, fun _ _ => rfl, fun _ _ _ _ _ => rfl, fun _ _ _ _ => if_pos trivial, fun _ _ _ _ => if_neg id⟩
/-- Facts for masks, bundled. -/
theorem kC : (∀ (α : Type) (h : Decidable True) (a b : α), @ite α True h a b = a) ∧ (∀ (α : Type) (h : Decidable False) (a b : α), @ite α False h a b = b) ∧ ((false = true) = False) ∧ (∀ (α : Type) (p : α → Bool) (a : α) (l : List α), (a :: l).all p = (p a && l.all p)) ∧
    (∀ (α : Type) (p : α → Bool), ([] : List α).all p = true) ∧ (∀ h : Decidable True, @decide True h = true) ∧ (∀ b : Bool, (b && b) = b) ∧ (∀ (α : Type) (n : Nat) (a : α) (l : List α), (a :: l).take (n + 1) = a :: l.take n) ∧ (∀ (α : Type) (l : List α), l.take 0 = []) ∧ (∀ (α : Type) (n : Nat), ([] : List α).take n = []) ∧ (∀ (α : Type) (n : Nat) (a : α) (l : List α), rp (n + 1) a l = a :: rp n a l) ∧ (∀ (α : Type) (a : α) (l : List α), rp 0 a l = l) :=
  ⟨fun _ _ _ _ => if_pos trivial, fun _ _ _ _ => if_neg id, by simp, fun _ _ _ _ => List.all_cons, fun _ _ => rfl, fun _ => decide_eq_true trivial, fun b => by cases b <;> rfl, fun _ _ _ _ => rfl, fun _ _ => rfl, fun _ _ => List.take_nil, fun _ _ _ _ => rfl, fun _ _ _ => rfl⟩
end Go.Proofs.YtnboooapeopjoaaGreatDoor
end

section
namespace Go.Proofs.YtnboooapeopjoaaGreatDoor
open Go.Eng
variable [aA]
abbrev str (s : ByteArray) : V := .sc (.string s)
abbrev num (n : Int) : V := .sc (.int .i64 n)
abbrev bl (b : Bool) : V := .sc (.bool b)
def aO {α : Type} (g : α → Nat) : List α → Nat
 | [] => 0
 | a :: r => g a + aO g r
theorem gj {α : Type} (g : α → Nat) (a b : List α) : aO g (a ++ b) = aO g a + aO g b := by induction a with | nil => simp [aO] | cons x r ih => simp [aO, ih]; omega
theorem rZ {α β : Type} (g : β → Nat) (h : α → β) (a : List α) : aO g (a.map h) = aO (fun x => g (h x)) a := by induction a with | nil => rfl | cons x r ih => simp [aO, ih]
theorem jK {α : Type} (g : α → Nat) {l : List α} {i : Nat} {a : α} (h : l[i]? = some a) : aO g (l.take (i + 1)) = aO g (l.take i) + g a := by
 rw [List.take_add_one, h, gj]; simp [aO]
theorem la {α : Type} (g : α → Nat) (l : List α) (i : Nat) : aO g (l.take i) ≤ aO g l := by
 conv => rhs; rw [← List.take_append_drop i l, gj]
 omega
theorem bG {α : Type} (g : α → Nat) {l : List α} {i : Nat} {a : α} (h : l[i]? = some a) : g a ≤ aO g l := by
 have := jK g h; have := la g l (i + 1); omega
theorem bm {α : Type} (g : α → Nat) (hg : ∀ a, 0 < g a) (l : List α) : l.length ≤ aO g l := by
 induction l with
 | nil => simp
 | cons a r ih => simp [aO]; have := hg a; omega
theorem MD (n : Nat) (h : n ≤ 1152921504606846976) : IntKind.i64.wrap (n : Int) = n := by rw [IntWalk.i64_in _ (by omega)]
theorem qE (a b : Nat) (h : a + b ≤ 1152921504606846976) : IntKind.i64.wrap ((a : Int) + (b : Int)) = ((a + b : Nat) : Int) := by rw [IntWalk.i64_in _ (by omega)]; omega
theorem aU (a : Nat) (h : a + 1 ≤ 1152921504606846976) : IntKind.i64.wrap ((a : Int) + 1) = ((a + 1 : Nat) : Int) := by rw [IntWalk.i64_in _ (by omega)]; omega
theorem oP (x : Int) (n : Nat) (h : x = n) (hb : n ≤ 1152921504606846976) : IntKind.i64.wrap x = (n : Int) := by rw [h, MD n hb]
theorem jf {a b : Nat} (h : a < b) : decide ((a : Int) < (b : Int)) = true := by simpa using h
theorem jg {a b : Nat} (h : ¬ a < b) : decide ((a : Int) < (b : Int)) = false := by simpa using h
theorem eQ {s : ByteArray} {i : Nat} (h : i < s.size) : ∃ c, s[i]? = some c := ⟨s[i], by simp [getElem?_pos, h]⟩
end Go.Proofs.YtnboooapeopjoaaGreatDoor
end
