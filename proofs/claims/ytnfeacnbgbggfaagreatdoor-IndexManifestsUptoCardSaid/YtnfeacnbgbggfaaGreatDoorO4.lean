/-
  CONTRACTS: slices.SortFunc at spans: the closure and the caller walked by the kit's own words, the sort by the library's contract.
-/
import Derived.Test.YtnfeacnbgbggfaaGreatDoorO3
import Derived.Shelf.SlSortCmp.WholeK
import Derived.Lib.Small
import Derived.Lib.Walk
set_option linter.all false
section
namespace Go.Proofs.YtnfeacnbgbggfaaGreatDoor
open Go.Proofs Go.Shelf Go.Lib Go.Sort Go.RowKit
theorem La (w : World) (o1 o2 : Obj) : (w.alloc o1).alloc o2 = grow w #[o1, o2] := by rw [alloc_eq_grow, alloc_eq_grow, grow_grow]; rfl
set_option maxHeartbeats 4000000 in
set_option maxRecDepth 100000 in
theorem BV (a b c d : Int) (w : World) : Calls Tryz.prog 119 #[.agg #[.int .i64 a, .int .i64 b], .agg #[.int .i64 c, .int .i64 d]] w fun e w' => e = .returned (.int .i64 (wrap64 (a - c))) ∧ w' = grow w #[.cells #[.int .i64 a, .int .i64 b] 78, .cells #[.int .i64 c, .int .i64 d] 78] := by
 go_enter Tryz.func119, Tryz.ntmps119
 go_wp2
 go_ret
 exact ⟨rfl, by rw [La]⟩
abbrev Q4 := { x : br // 0 ≤ x.lo ∧ x.lo ≤ 1000000 }
instance : Inhabited Q4 := ⟨⟨⟨0, 0⟩, by decide⟩⟩
def nK (x : Q4) : List Value := [.int .i64 x.1.lo, .int .i64 x.1.hi]
def HX (x y : Q4) : Int := x.1.lo - y.1.lo
theorem M8 : SWO (ltOf HX) := ⟨fun x => decide_eq_false (by unfold HX; omega), fun x y z h1 h2 => by
  have h1 := of_decide_eq_true h1
  have h2 := of_decide_eq_true h2
  exact decide_eq_true (by unfold HX at *; omega), fun x y z h1 h2 => by
  have h1 := of_decide_eq_false h1
  have h2 := of_decide_eq_false h2
  exact decide_eq_false (by unfold HX at *; omega)⟩
set_option maxHeartbeats 4000000 in
set_option maxRecDepth 100000 in
theorem Lb (aG off cap : Nat) (d : Array Q4) (w : World) (hH : HoldsK nK 2 w aG off d) (hblk : aG < w.heap.size) (kd : d.size < 4611686018427387904) :
  Calls Tryz.prog 118 #[.slice (some ⟨aG, off, none⟩) d.size cap, .func (.func 119) #[] #[]] w fun e w' =>
   e = .returned (.tuple #[]) ∧ ∃ d' n os, PermIn 0 d.size d d' ∧ SortedIn (ltOf HX) 0 d.size d' ∧ w' = sortWorldK nK 2 w aG off n d' os := by
 have S7 : CmpLays Tryz.prog 119 #[] nK 2 HX aG off d.size w := fun _ _ _ _ x y => by
  refine (BV x.1.lo x.1.hi y.1.lo y.1.hi _).mono ?_
  rintro e w' ⟨rfl, hw⟩
  refine ⟨?_, 0, _, hw⟩
  rw [show wrap64 (x.1.lo - y.1.lo) = HX x y from IntWalk.wrap64_in _ (by have := x.2; have := y.2; omega)]
 have Wx : Lib.bitLen d.size < 4611686018427387904 := Nat.lt_of_le_of_lt (Lib.bitLen_le d.size 62 (by omega) (by omega)) (by omega)
 have hp := AnyQ.pdqsortCmpFunc_all K7 2 Tryz.isAgg78 Tryz.sizeOf78 nK HX 119 #[] M8 aG off cap d w (enters_of Tryz.func119 (by kernel_rfl) rfl) S7 ⟨fun _ => rfl, fun x v hv => by simp [nK] at hv; rcases hv with rfl | rfl <;> rfl, hH, hblk⟩ (d.size + 1) 0 d.size (Lib.bitLen d.size) d w (by omega) rfl (SWK.start hH) (Nat.zero_le _) (Nat.le_refl _) kd Wx (Or.inl rfl)
 change Calls Tryz.prog 148 _ _ _ at hp
 have hl : Calls Tryz.prog 117 #[.int .u64 (d.size : Int)] w fun e w' => e = .returned (.int .i64 (Lib.bitLen d.size : Nat)) ∧ w' = w := by
  have h := bits_Len (d.size : Int) w (by omega) (by omega)
  rwa [Int.toNat_natCast] at h
 have wr : IntKind.u64.wrap (d.size : Int) = d.size := by simp [IntKind.wrap, IntKind.bits, IntKind.signed]; omega
 have hs := pdq_sorts (ltOf HX) M8 d 0 d.size (Lib.bitLen d.size) true true (Nat.zero_le _) (Nat.le_refl _) (Or.inl rfl)
 generalize pdq (ltOf HX) d 0 d.size (Lib.bitLen d.size) true true = d' at hp hs
 clear S7 hH
 go_enter Tryz.func118, Tryz.ntmps118
 go_wp2_with (first | (go_at_call 117; refine hl.mono ?_; rintro e w' ⟨rfl, rfl⟩) | (go_at_call 148; refine hp.mono ?_; rintro e w' ⟨rfl, n, os, rfl⟩))
 go_end0
 exact ⟨rfl, d', n, os, hs.1, hs.2, rfl⟩
end Go.Proofs.YtnfeacnbgbggfaaGreatDoor
end
