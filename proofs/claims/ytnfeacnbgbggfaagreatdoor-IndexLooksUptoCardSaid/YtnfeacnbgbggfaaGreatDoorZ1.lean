/-
  BASICS: abbreviations, numbers, sums.
-/
import Derived.Test.YtnfeacnbgbggfaaGreatDoorE7
import Derived.IntWalk
set_option linter.all false
section
namespace Go.Proofs.YtnfeacnbgbggfaaGreatDoor
open Go.Eng
/-- Facts on literal lists, bundled. -/
theorem vC : (∀ (α : Type) (l : List α), l.toArray.toList = l) ∧ (∀ (α : Type) (a b : List α), List.append a b = a ++ b) ∧ (∀ (α : Type) (a : α) (l r : List α), (a :: l) ++ r = a :: (l ++ r)) ∧ (∀ (α : Type) (l : List α), [] ++ l = l) ∧
    (∀ (α : Type) (n : Nat) (a : α) (l : List α), (a :: l).take (n + 1) = a :: l.take n) ∧ (∀ (α : Type) (l : List α), l.take 0 = []) ∧ (∀ (α : Type) (n : Nat) (a : α) (l : List α), (a :: l).drop (n + 1) = l.drop n) ∧ (∀ (α : Type) (l : List α), l.drop 0 = l) :=
  ⟨fun _ _ => rfl, fun _ _ _ => rfl, fun _ _ _ _ => rfl, fun _ _ => rfl, fun _ _ _ _ => rfl, fun _ _ => rfl, fun _ _ _ _ => rfl, fun _ _ => rfl⟩
/-- Lists by their runs. -/
def rp {α : Type} : Nat → α → List α → List α
  | 0, _, l => l
  | n + 1, a, l => a :: rp n a l
/-- Facts for frames, bundled. -/
theorem Ta : (∀ (α : Type) (n : Nat) (a : α) (l : List α), rp (n + 1) a l = a :: rp n a l) ∧ (∀ (α : Type) (a : α) (l : List α), rp 0 a l = l) ∧
    (∀ (ws : List (Nat × V)) (i : Nat) (cs : List Nat), rY ws i cs [] = []) ∧ (∀ (ws : List (Nat × V)) (i : Nat) (v : V) (l : List V), rY ws i [] (v :: l) = v :: l) ∧
    (∀ (ws : List (Nat × V)) (i : Nat) (cs : List Nat) (v : V) (l : List V), rY ws i (0 :: cs) (v :: l) = v :: rY ws (i + 1) cs l) ∧ (∀ (ws : List (Nat × V)) (i : Nat) (cs : List Nat) (v : V) (l : List V), rY ws i (1 :: cs) (v :: l) = .undef :: rY ws (i + 1) cs l) ∧
    (∀ (ws : List (Nat × V)) (i : Nat) (cs : List Nat) (v : V) (l : List V), rY ws i (2 :: cs) (v :: l) = AM i v ws :: rY ws (i + 1) cs l) ∧ (∀ (t : Nat) (b : V), AM t b [] = b) ∧ (∀ (t k : Nat) (b v : V) (ws : List (Nat × V)), AM t b ((k, v) :: ws) = if k = t then v else AM t b ws) ∧
    (∀ (α : Type) (h : Decidable True) (a b : α), @ite α True h a b = a) ∧ (∀ (α : Type) (h : Decidable False) (a b : α), @ite α False h a b = b) :=
  ⟨fun _ _ _ _ => rfl, fun _ _ _ => rfl, fun _ _ cs => by cases cs <;> rfl, fun _ _ _ _ => rfl, fun _ _ _ _ _ => rfl, fun _ _ _ _ _ => rfl, fun _ _ _ _ _ => rfl, fun _ _ => rfl, fun _ _ _ _ _ => rfl, fun _ _ _ _ => if_pos trivial, fun _ _ _ _ => if_neg id⟩
/-- Facts for masks, bundled. -/
theorem mkb : (∀ (α : Type) (h : Decidable True) (a b : α), @ite α True h a b = a) ∧ (∀ (α : Type) (h : Decidable False) (a b : α), @ite α False h a b = b) ∧ ((false = true) = False) ∧ (∀ (α : Type) (p : α → Bool) (a : α) (l : List α), (a :: l).all p = (p a && l.all p)) ∧
    (∀ (α : Type) (p : α → Bool), ([] : List α).all p = true) ∧ (∀ h : Decidable True, @decide True h = true) ∧ (∀ b : Bool, (b && b) = b) ∧ (∀ (α : Type) (n : Nat) (a : α) (l : List α), (a :: l).take (n + 1) = a :: l.take n) ∧ (∀ (α : Type) (l : List α), l.take 0 = []) ∧ (∀ (α : Type) (n : Nat), ([] : List α).take n = []) ∧ (∀ (α : Type) (n : Nat) (a : α) (l : List α), rp (n + 1) a l = a :: rp n a l) ∧ (∀ (α : Type) (a : α) (l : List α), rp 0 a l = l) :=
  ⟨fun _ _ _ _ => if_pos trivial, fun _ _ _ _ => if_neg id, by simp, fun _ _ _ _ => List.all_cons, fun _ _ => rfl, fun _ => decide_eq_true trivial, fun b => by cases b <;> rfl, fun _ _ _ _ => rfl, fun _ _ => rfl, fun _ _ => List.take_nil, fun _ _ _ _ => rfl, fun _ _ _ => rfl⟩
end Go.Proofs.YtnfeacnbgbggfaaGreatDoor
end

section
namespace Go.Proofs.YtnfeacnbgbggfaaGreatDoor
open Go.Eng
variable [aH]
abbrev str (s : ByteArray) : V := .sc (.string s)
abbrev num (n : Int) : V := .sc (.int .i64 n)
abbrev bl (b : Bool) : V := .sc (.bool b)
def dr {α : Type} (g : α → Nat) : List α → Nat
 | [] => 0
 | a :: r => g a + dr g r
theorem o8 {α : Type} (g : α → Nat) (a b : List α) : dr g (a ++ b) = dr g a + dr g b := by induction a with | nil => simp [dr] | cons x r ih => simp [dr, ih]; omega
theorem rN {α : Type} (g : α → Nat) {l : List α} {i : Nat} {a : α} (h : l[i]? = some a) : dr g (l.take (i + 1)) = dr g (l.take i) + g a := by
 rw [List.take_add_one, h, o8]; simp [dr]
theorem uQ {α : Type} (g : α → Nat) (l : List α) (i : Nat) : dr g (l.take i) ≤ dr g l := by
 conv => rhs; rw [← List.take_append_drop i l, o8]
 omega
theorem vD {α : Type} (g : α → Nat) {l : List α} {i : Nat} {a : α} (h : l[i]? = some a) : g a ≤ dr g l := by
 have := rN g h; have := uQ g l (i + 1); omega
theorem nz {α : Type} (g : α → Nat) (hg : ∀ a, 0 < g a) (l : List α) : l.length ≤ dr g l := by
 induction l with
 | nil => simp
 | cons a r ih => simp [dr]; have := hg a; omega
theorem KY (n : Nat) (h : n ≤ 1152921504606846976) : IntKind.i64.wrap (n : Int) = n := by rw [IntWalk.i64_in _ (by omega)]
theorem aB (a : Nat) (h : a + 1 ≤ 1152921504606846976) : IntKind.i64.wrap ((a : Int) + 1) = ((a + 1 : Nat) : Int) := by rw [IntWalk.i64_in _ (by omega)]; omega
theorem jV (x : Int) (n : Nat) (h : x = n) (hb : n ≤ 1152921504606846976) : IntKind.i64.wrap x = (n : Int) := by rw [h, KY n hb]
theorem bT {s : ByteArray} {i : Nat} (h : i < s.size) : ∃ c, s[i]? = some c := ⟨s[i], by simp [getElem?_pos, h]⟩
end Go.Proofs.YtnfeacnbgbggfaaGreatDoor
end
