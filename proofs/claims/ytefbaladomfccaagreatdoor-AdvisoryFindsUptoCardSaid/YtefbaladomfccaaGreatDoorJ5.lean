/-
  CONTRACTS: slices.SortFunc at spans: the closure and the caller walked by the kit's own words, the sort by the library's contract.
-/
import Derived.Test.YtefbaladomfccaaGreatDoorJ4
import Derived.Shelf.SlSortCmp.WholeK
import Derived.Lib.Small
import Derived.Lib.Walk
set_option linter.all false
section
namespace Go.Proofs.YtefbaladomfccaaGreatDoor
open Go.Proofs Go.Shelf Go.Lib Go.Sort Go.RowKit
theorem KU (w : World) (o1 o2 : Obj) : (w.alloc o1).alloc o2 = grow w #[o1, o2] := by rw [alloc_eq_grow, alloc_eq_grow, grow_grow]; rfl
set_option maxHeartbeats 4000000 in
set_option maxRecDepth 100000 in
theorem By (a b c d : Int) (w : World) : Calls Tryz.prog 123 #[.agg #[.int .i64 a, .int .i64 b], .agg #[.int .i64 c, .int .i64 d]] w fun e w' => e = .returned (.int .i64 (wrap64 (a - c))) ∧ w' = grow w #[.cells #[.int .i64 a, .int .i64 b] 82, .cells #[.int .i64 c, .int .i64 d] 82] := by
 go_enter Tryz.func123, Tryz.ntmps123
 go_wp2
 go_ret
 exact ⟨rfl, by rw [KU]⟩
abbrev QK := { x : cj // 0 ≤ x.lo ∧ x.lo ≤ 1000000 }
instance : Inhabited QK := ⟨⟨⟨0, 0⟩, by decide⟩⟩
def nS (x : QK) : List Value := [.int .i64 x.1.lo, .int .i64 x.1.hi]
def HK (x y : QK) : Int := x.1.lo - y.1.lo
theorem MA : SWO (ltOf HK) := ⟨fun x => decide_eq_false (by unfold HK; omega), fun x y z h1 h2 => by
  have h1 := of_decide_eq_true h1
  have h2 := of_decide_eq_true h2
  exact decide_eq_true (by unfold HK at *; omega), fun x y z h1 h2 => by
  have h1 := of_decide_eq_false h1
  have h2 := of_decide_eq_false h2
  exact decide_eq_false (by unfold HK at *; omega)⟩
set_option maxHeartbeats 4000000 in
set_option maxRecDepth 100000 in
theorem KV (aM off cap : Nat) (d : Array QK) (w : World) (hH : HoldsK nS 2 w aM off d) (hblk : aM < w.heap.size) (jW : d.size < 4611686018427387904) :
  Calls Tryz.prog 122 #[.slice (some ⟨aM, off, none⟩) d.size cap, .func (.func 123) #[] #[]] w fun e w' =>
   e = .returned (.tuple #[]) ∧ ∃ d' n os, PermIn 0 d.size d d' ∧ SortedIn (ltOf HK) 0 d.size d' ∧ w' = sortWorldK nS 2 w aM off n d' os := by
 have S0 : CmpLays Tryz.prog 123 #[] nS 2 HK aM off d.size w := fun _ _ _ _ x y => by
  refine (By x.1.lo x.1.hi y.1.lo y.1.hi _).mono ?_
  rintro e w' ⟨rfl, hw⟩
  refine ⟨?_, 0, _, hw⟩
  rw [show wrap64 (x.1.lo - y.1.lo) = HK x y from IntWalk.wrap64_in _ (by have := x.2; have := y.2; omega)]
 have WT : Lib.bitLen d.size < 4611686018427387904 := Nat.lt_of_le_of_lt (Lib.bitLen_le d.size 62 (by omega) (by omega)) (by omega)
 have hp := AnyQ.pdqsortCmpFunc_all KR 2 Tryz.isAgg82 Tryz.sizeOf82 nS HK 123 #[] MA aM off cap d w (enters_of Tryz.func123 (by kernel_rfl) rfl) S0 ⟨fun _ => rfl, fun x v hv => by simp [nS] at hv; rcases hv with rfl | rfl <;> rfl, hH, hblk⟩ (d.size + 1) 0 d.size (Lib.bitLen d.size) d w (by omega) rfl (SWK.start hH) (Nat.zero_le _) (Nat.le_refl _) jW WT (Or.inl rfl)
 change Calls Tryz.prog 176 _ _ _ at hp
 have hl : Calls Tryz.prog 165 #[.int .u64 (d.size : Int)] w fun e w' => e = .returned (.int .i64 (Lib.bitLen d.size : Nat)) ∧ w' = w := by
  have h := bits_Len (d.size : Int) w (by omega) (by omega)
  rwa [Int.toNat_natCast] at h
 have wr : IntKind.u64.wrap (d.size : Int) = d.size := by simp [IntKind.wrap, IntKind.bits, IntKind.signed]; omega
 have hs := pdq_sorts (ltOf HK) MA d 0 d.size (Lib.bitLen d.size) true true (Nat.zero_le _) (Nat.le_refl _) (Or.inl rfl)
 generalize pdq (ltOf HK) d 0 d.size (Lib.bitLen d.size) true true = d' at hp hs
 clear S0 hH
 go_enter Tryz.func122, Tryz.ntmps122
 go_wp2_with (first | (go_at_call 165; refine hl.mono ?_; rintro e w' ⟨rfl, rfl⟩) | (go_at_call 176; refine hp.mono ?_; rintro e w' ⟨rfl, n, os, rfl⟩))
 go_end0
 exact ⟨rfl, d', n, os, hs.1, hs.2, rfl⟩
end Go.Proofs.YtefbaladomfccaaGreatDoor
end
