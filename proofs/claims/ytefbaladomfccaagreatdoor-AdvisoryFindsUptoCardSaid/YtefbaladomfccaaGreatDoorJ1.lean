/-
  BASICS: abbreviations, numbers, sums.
-/
import Derived.Test.YtefbaladomfccaaGreatDoorE7
import Derived.IntWalk
set_option linter.all false
section
namespace Go.Proofs.YtefbaladomfccaaGreatDoor
open Go.Eng
/-- Facts on literal lists, bundled. -/
theorem kd : (∀ (α : Type) (l : List α), l.toArray.toList = l) ∧ (∀ (α : Type) (a b : List α), List.append a b = a ++ b) ∧ (∀ (α : Type) (a : α) (l r : List α), (a :: l) ++ r = a :: (l ++ r)) ∧ (∀ (α : Type) (l : List α), [] ++ l = l) ∧
    (∀ (α : Type) (n : Nat) (a : α) (l : List α), (a :: l).take (n + 1) = a :: l.take n) ∧ (∀ (α : Type) (l : List α), l.take 0 = []) ∧ (∀ (α : Type) (n : Nat) (a : α) (l : List α), (a :: l).drop (n + 1) = l.drop n) ∧ (∀ (α : Type) (l : List α), l.drop 0 = l) :=
  ⟨fun _ _ => rfl, fun _ _ _ => rfl, fun _ _ _ _ => rfl, fun _ _ => rfl, fun _ _ _ _ => rfl, fun _ _ => rfl, fun _ _ _ _ => rfl, fun _ _ => rfl⟩
/-- Lists by their runs. -/
def rp {α : Type} : Nat → α → List α → List α
  | 0, _, l => l
  | n + 1, a, l => a :: rp n a l
/-- Facts for masks, bundled. -/
theorem Dg : (∀ (α : Type) (h : Decidable True) (a b : α), @ite α True h a b = a) ∧ (∀ (α : Type) (h : Decidable False) (a b : α), @ite α False h a b = b) ∧ ((false = true) = False) ∧ (∀ (α : Type) (p : α → Bool) (a : α) (l : List α), (a :: l).all p = (p a && l.all p)) ∧
    (∀ (α : Type) (p : α → Bool), ([] : List α).all p = true) ∧ (∀ h : Decidable True, @decide True h = true) ∧ (∀ b : Bool, (b && b) = b) ∧ (∀ (α : Type) (n : Nat) (a : α) (l : List α), (a :: l).take (n + 1) = a :: l.take n) ∧ (∀ (α : Type) (l : List α), l.take 0 = []) ∧ (∀ (α : Type) (n : Nat), ([] : List α).take n = []) ∧ (∀ (α : Type) (n : Nat) (a : α) (l : List α), rp (n + 1) a l = a :: rp n a l) ∧ (∀ (α : Type) (a : α) (l : List α), rp 0 a l = l) :=
  ⟨fun _ _ _ _ => if_pos trivial, fun _ _ _ _ => if_neg id, by simp, fun _ _ _ _ => List.all_cons, fun _ _ => rfl, fun _ => decide_eq_true trivial, fun b => by cases b <;> rfl, fun _ _ _ _ => rfl, fun _ _ => rfl, fun _ _ => List.take_nil, fun _ _ _ _ => rfl, fun _ _ _ => rfl⟩
end Go.Proofs.YtefbaladomfccaaGreatDoor
end

section
namespace Go.Proofs.YtefbaladomfccaaGreatDoor
open Go.Eng
variable [aK]
abbrev str (s : ByteArray) : V := .sc (.string s)
abbrev num (n : Int) : V := .sc (.int .i64 n)
abbrev bl (b : Bool) : V := .sc (.bool b)
def ak {α : Type} (g : α → Nat) : List α → Nat
 | [] => 0
 | a :: r => g a + ak g r
theorem ew {α : Type} (g : α → Nat) (a b : List α) : ak g (a ++ b) = ak g a + ak g b := by induction a with | nil => simp [ak] | cons x r ih => simp [ak, ih]; omega
theorem uZ {α β : Type} (g : β → Nat) (h : α → β) (a : List α) : ak g (a.map h) = ak (fun x => g (h x)) a := by induction a with | nil => rfl | cons x r ih => simp [ak, ih]
theorem ly {α : Type} (g : α → Nat) {l : List α} {i : Nat} {a : α} (h : l[i]? = some a) : ak g (l.take (i + 1)) = ak g (l.take i) + g a := by
 rw [List.take_add_one, h, ew]; simp [ak]
theorem nr {α : Type} (g : α → Nat) (l : List α) (i : Nat) : ak g (l.take i) ≤ ak g l := by
 conv => rhs; rw [← List.take_append_drop i l, ew]
 omega
theorem EL {α : Type} (g : α → Nat) {l : List α} {i : Nat} {a : α} (h : l[i]? = some a) : g a ≤ ak g l := by
 have := ly g h; have := nr g l (i + 1); omega
theorem bs {α : Type} (g : α → Nat) (hg : ∀ a, 0 < g a) (l : List α) : l.length ≤ ak g l := by
 induction l with
 | nil => simp
 | cons a r ih => simp [ak]; have := hg a; omega
theorem KH (n : Nat) (h : n ≤ 1152921504606846976) : IntKind.i64.wrap (n : Int) = n := by rw [IntWalk.i64_in _ (by omega)]
theorem fu (a b : Nat) (h : a + b ≤ 1152921504606846976) : IntKind.i64.wrap ((a : Int) + (b : Int)) = ((a + b : Nat) : Int) := by rw [IntWalk.i64_in _ (by omega)]; omega
theorem aq (a : Nat) (h : a + 1 ≤ 1152921504606846976) : IntKind.i64.wrap ((a : Int) + 1) = ((a + 1 : Nat) : Int) := by rw [IntWalk.i64_in _ (by omega)]; omega
theorem jo (x : Int) (n : Nat) (h : x = n) (hb : n ≤ 1152921504606846976) : IntKind.i64.wrap x = (n : Int) := by rw [h, KH n hb]
theorem sI {a b : Nat} (h : a < b) : decide ((a : Int) < (b : Int)) = true := by simpa using h
theorem sJ {a b : Nat} (h : ¬ a < b) : decide ((a : Int) < (b : Int)) = false := by simpa using h
theorem cr {s : ByteArray} {i : Nat} (h : i < s.size) : ∃ c, s[i]? = some c := ⟨s[i], by simp [getElem?_pos, h]⟩
def OK (v : V) : Prop := ∃ b : Bool, v = bl b
end Go.Proofs.YtefbaladomfccaaGreatDoor
end
