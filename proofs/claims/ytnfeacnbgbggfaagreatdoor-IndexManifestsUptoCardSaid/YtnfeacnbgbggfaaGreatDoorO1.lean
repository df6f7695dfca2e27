/-
  BASICS: abbreviations, numbers, sums.
-/
import Derived.Test.YtnfeacnbgbggfaaGreatDoorE7
import Derived.IntWalk
set_option linter.all false
section
namespace Go.Proofs.YtnfeacnbgbggfaaGreatDoor
open Go.Eng
/-- Facts on literal lists, bundled. -/
theorem F6 : (∀ (α : Type) (l : List α), l.toArray.toList = l) ∧ (∀ (α : Type) (a b : List α), List.append a b = a ++ b) ∧ (∀ (α : Type) (a : α) (l r : List α), (a :: l) ++ r = a :: (l ++ r)) ∧ (∀ (α : Type) (l : List α), [] ++ l = l) ∧
    (∀ (α : Type) (n : Nat) (a : α) (l : List α), (a :: l).take (n + 1) = a :: l.take n) ∧ (∀ (α : Type) (l : List α), l.take 0 = []) ∧ (∀ (α : Type) (n : Nat) (a : α) (l : List α), (a :: l).drop (n + 1) = l.drop n) ∧ (∀ (α : Type) (l : List α), l.drop 0 = l) :=
  ⟨fun _ _ => rfl, fun _ _ _ => rfl, fun _ _ _ _ => rfl, fun _ _ => rfl, fun _ _ _ _ => rfl, fun _ _ => rfl, fun _ _ _ _ => rfl, fun _ _ => rfl⟩
end Go.Proofs.YtnfeacnbgbggfaaGreatDoor
end

section
namespace Go.Proofs.YtnfeacnbgbggfaaGreatDoor
open Go.Eng
variable [aE]
abbrev str (s : ByteArray) : V := .sc (.string s)
abbrev num (n : Int) : V := .sc (.int .i64 n)
abbrev bl (b : Bool) : V := .sc (.bool b)
def dR {α : Type} (g : α → Nat) : List α → Nat
 | [] => 0
 | a :: r => g a + dR g r
theorem oR {α : Type} (g : α → Nat) (a b : List α) : dR g (a ++ b) = dR g a + dR g b := by induction a with | nil => simp [dR] | cons x r ih => simp [dR, ih]; omega
theorem rC {α : Type} (g : α → Nat) {l : List α} {i : Nat} {a : α} (h : l[i]? = some a) : dR g (l.take (i + 1)) = dR g (l.take i) + g a := by
 rw [List.take_add_one, h, oR]; simp [dR]
theorem uN {α : Type} (g : α → Nat) (l : List α) (i : Nat) : dR g (l.take i) ≤ dR g l := by
 conv => rhs; rw [← List.take_append_drop i l, oR]
 omega
theorem E4 {α : Type} (g : α → Nat) {l : List α} {i : Nat} {a : α} (h : l[i]? = some a) : g a ≤ dR g l := by
 have := rC g h; have := uN g l (i + 1); omega
theorem uO {α : Type} (g : α → Nat) (hg : ∀ a, 0 < g a) (l : List α) : l.length ≤ dR g l := by
 induction l with
 | nil => simp
 | cons a r ih => simp [dR]; have := hg a; omega
theorem KS (n : Nat) (h : n ≤ 1152921504606846976) : IntKind.i64.wrap (n : Int) = n := by rw [IntWalk.i64_in _ (by omega)]
theorem aC (a : Nat) (h : a + 1 ≤ 1152921504606846976) : IntKind.i64.wrap ((a : Int) + 1) = ((a + 1 : Nat) : Int) := by rw [IntWalk.i64_in _ (by omega)]; omega
theorem oS (x : Int) (n : Nat) (h : x = n) (hb : n ≤ 1152921504606846976) : IntKind.i64.wrap x = (n : Int) := by rw [h, KS n hb]
theorem bI {s : ByteArray} {i : Nat} (h : i < s.size) : ∃ c, s[i]? = some c := ⟨s[i], by simp [getElem?_pos, h]⟩
end Go.Proofs.YtnfeacnbgbggfaaGreatDoor
end
