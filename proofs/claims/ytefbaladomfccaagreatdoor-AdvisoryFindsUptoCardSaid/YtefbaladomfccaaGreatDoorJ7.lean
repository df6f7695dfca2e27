/-
  CONTRACTS: the closures that compare uses, walked by the kit's own words (the library's sort asks to know their worlds whole).
-/
import Derived.Test.YtefbaladomfccaaGreatDoorJ6
import Derived.Shelf.SlSortCmp.InsertionK
import Derived.Laws.Cover1
import Derived.StillTailTactics
import Derived.Lib.Small
import Derived.Lib.Walk
import Derived.Test.YtefbaladomfccaaGreatDoorProg
set_option linter.all false
section
namespace Go.Proofs.YtefbaladomfccaaGreatDoor
open Go.Proofs Go.Shelf Go.Lib Go.Sort Go.RowKit
theorem zh (V : World) (cs : Array Value) (T : TypeId) (o : Nat) : (V.alloc (.cells cs T)).cell? ⟨V.heap.size, o, none⟩ = cs[o]? := by
 unfold World.cell? World.alloc
 simp
def lC (x y : ByteArray) : Int := if Op.bytesLess x.toList y.toList = true then -1 else if (x.toList == y.toList) = true then 0 else 1
theorem OY (x : ByteArray) (w : World) : Calls Tryz.prog 185 #[.string x] w fun e w' => e = .returned (.bool false) ∧ w' = w := by
 go_enter Tryz.func185, Tryz.ntmps185
 go_wp2
 go_ret
 exact ⟨by simp, rfl⟩
set_option maxHeartbeats 2000000 in
set_option maxRecDepth 100000 in
theorem MD (x y : ByteArray) (w : World) : Calls Tryz.prog 140 #[.string x, .string y] w fun e w' => e = .returned (.int .i64 (lC x y)) ∧ w' = w := by
 go_enter Tryz.func140, Tryz.ntmps140
 go_wp2_with (go_at_call 185; refine (OY _ _).mono ?_; rintro e w' ⟨rfl, hw⟩; rw [hw])
 all_goals (go_ret; refine ⟨?_, rfl⟩; unfold lC; simp_all)
set_option maxHeartbeats 2000000 in
set_option maxRecDepth 100000 in
theorem WW (x y : Int) (aM c : Nat) (w : World) (h0 : w.cell? ⟨aM, 0, none⟩ = some (.int .i64 x)) (h1 : w.cell? ⟨aM, 1, none⟩ = some (.int .i64 y)) : Calls Tryz.prog 139 #[.slice (some ⟨aM, 0, none⟩) 2 c] w fun e w' => e = .returned (.int .i64 (if x = 0 then y else x)) ∧ w' = w := by
 go_enter Tryz.func139, Tryz.ntmps139
 go_wp2
 go_loopg [5,8] 2 (fun gg _ s8 wr => ∃ kk : Nat, kk ≤ 2 ∧ 2 - kk ≤ gg ∧ s8 = .int .i64 kk ∧ wr = w ∧ Aside ((0 < kk → x = 0) ∧ (1 < kk → y = 0)))
 case atStart => exact ⟨0, Nat.zero_le _, by omega, rfl, rfl, fun h => absurd h (Nat.lt_irrefl _), fun h => by omega⟩
 case round =>
  obtain ⟨kk, ck, hg, rfl, rfl, A⟩ := hrel
  obtain rfl | rfl | rfl : kk = 0 ∨ kk = 1 ∨ kk = 2 := by omega
  ·by_cases hx : x = 0
   ·subst hx
    go_wp2
    go_roundg (1)
    case measure => omega
    case rel => exact ⟨1, by omega, by omega, by go_num, rfl, by simp, by simp⟩
   ·have hd : decide (x = 0) = false := decide_eq_false hx
    go_wp2
    all_goals (go_ret; refine ⟨?_, rfl⟩; first | rfl | simp_all)
  ·have hx : x = 0 := A.out.1 (by omega)
   subst hx
   by_cases hy : y = 0
   ·subst hy
    go_wp2
    go_roundg (0)
    case measure => omega
    case rel => exact ⟨2, by omega, by omega, by go_num, rfl, by simp, by simp⟩
   ·have hd : decide (y = 0) = false := decide_eq_false hy
    go_wp2
    all_goals (go_ret; refine ⟨?_, rfl⟩; first | rfl | simp_all)
  ·have hx : x = 0 := A.out.1 (by omega)
   have hy : y = 0 := A.out.2 (by omega)
   subst hx; subst hy
   go_wp2
   go_ret
   exact ⟨by simp, rfl⟩
set_option maxHeartbeats 4000000 in
set_option maxRecDepth 100000 in
theorem ET (a b c d : ByteArray) (w : World) : Calls Tryz.prog 127 #[.agg #[.string a, .string b], .agg #[.string c, .string d]] w fun e w' => e = .returned (.int .i64 (if lC a c = 0 then lC b d else lC a c)) ∧ ∃ q WX, w' = grow (w.drewN q) WX := by
 generalize hx : lC a c = x
 generalize hy : lC b d = y
 have c1 : ∀ W, Calls Tryz.prog 140 #[.string a, .string c] W fun e w' => e = .returned (.int .i64 x) ∧ w' = W := fun W => by rw [← hx]; exact MD a c W
 have c2 : ∀ W, Calls Tryz.prog 140 #[.string b, .string d] W fun e w' => e = .returned (.int .i64 y) ∧ w' = W := fun W => by rw [← hy]; exact MD b d W
 have c3 : ∀ (U : World) aM c, U.cell? ⟨aM, 0, none⟩ = some (.int .i64 x) → U.cell? ⟨aM, 1, none⟩ = some (.int .i64 y) → Calls Tryz.prog 139 #[.slice (some ⟨aM, 0, none⟩) 2 c] U fun e w' => e = .returned (.int .i64 (if x = 0 then y else x)) ∧ w' = U := fun U aM c h0 h1 => WW x y aM c U h0 h1
 generalize (if x = 0 then y else x) = r at c3 ⊢
 clear hx hy
 go_enter Tryz.func127, Tryz.ntmps127
 go_wp2
 obtain ⟨W, hW⟩ : ∃ W, W = (w.alloc (.cells #[.string a, .string b] 78)).alloc (.cells #[.string c, .string d] 78) := ⟨_, rfl⟩
 obtain ⟨n1, S2⟩ : ∃ n, n = w.heap.size := ⟨_, rfl⟩
 have A0 : W = grow w #[.cells #[.string a, .string b] 78, .cells #[.string c, .string d] 78] := by rw [hW, alloc_eq_grow, alloc_eq_grow, grow_grow]; rfl
 have b1 : W.heap[n1]? = some (.cells #[.string a, .string b] 78) := by
  rw [A0, S2]
  show (w.heap ++ _)[w.heap.size]? = _
  rw [Array.getElem?_append_right (Nat.le_refl _), Nat.sub_self]; rfl
 have b2 : W.heap[n1 + 1]? = some (.cells #[.string c, .string d] 78) := by
  rw [A0, S2]
  show (w.heap ++ _)[w.heap.size + 1]? = _
  rw [Array.getElem?_append_right (Nat.le_succ _)]
  simp
 have sX : ∀ {V : World} {k o : Nat} {cs : Array Value}, V.heap[k]? = some (.cells cs 78) → V.cell? ⟨k, o, none⟩ = cs[o]? := fun {V k o cs} h => by unfold World.cell?; rw [h]; rfl
 have A : Aside (W = grow w #[.cells #[.string a, .string b] 78, .cells #[.string c, .string d] 78]) := A0
 rw [← hW, ← S2]
 clear hW S2 A0
 refine wp_region_still_tail 10 (by kernel_rfl) (by kernel_rfl) ?_
 simp only [kd]
 have f1 : W.drew.cell? ⟨n1, 0, none⟩ = some (.string a) := sX b1
 have f2 : W.drew.cell? ⟨n1, 1, none⟩ = some (.string b) := sX b1
 have f3 : W.drew.cell? ⟨n1 + 1, 0, none⟩ = some (.string c) := sX b2
 have f4 : W.drew.cell? ⟨n1 + 1, 1, none⟩ = some (.string d) := sX b2
 have hd : W.drew = W.drewN 1 := rfl
 have A2 : Aside (W.drew = grow (w.drewN 1) #[.cells #[.string a, .string b] 78, .cells #[.string c, .string d] 78]) := by show W.drew = _; rw [A.out]; rfl
 clear b1 b2 sX hd
 change wpStill _ _ W.drew _ _ _
 generalize W.drew = V at f1 f2 f3 f4 A2 ⊢
 still_step
 still_step
 still_step
 still_step
 still_call (c1 _)
 still_step
 still_step
 still_step
 still_step
 still_call (c2 _)
 refine wpStill_nil ?_
 go_wp2_with (go_at_call 139; refine (c3 _ _ _ (zh _ _ _ 0) (zh _ _ _ 1)).mono ?_; rintro e w' ⟨rfl, hw⟩; rw [hw])
 go_ret
 refine ⟨rfl, 1, #[.cells #[.string a, .string b] 78, .cells #[.string c, .string d] 78, .cells #[.int .i64 x, .int .i64 y] 3], ?_⟩
 rw [A.out, alloc_eq_grow, grow_grow]
 rfl
theorem HP {x y : ByteArray} : decide (lC x y < 0) = Op.bytesLess x.toList y.toList := by
 unfold lC
 cases Op.bytesLess x.toList y.toList
 ·simp only [Bool.false_eq_true,if_false]; split <;> rfl
 ·rfl
theorem Dt {x y : ByteArray} : lC x y = 0 ↔ x.toList = y.toList := by
 unfold lC
 cases h : Op.bytesLess x.toList y.toList
 ·simp
 ·simp
  intro e
  rw [e, Proofs.bytesLess_eq] at h
  exact List.lt_irrefl _ (of_decide_eq_true h)
end Go.Proofs.YtefbaladomfccaaGreatDoor
end
