/-
  CONTRACTS: a note without small bytes is left as it is (walked by the kit's own words: it turns a string into bytes and back).
  AWAKE: the example of the chapter.
  THE LAW DeprecateParts.
  READINGS of histories.
  CLOSING: what is common to the laws.
  THE LAW DeprecateRemoves.
  THE LAW DeprecateRemoves, A: what it does at every argument of the bound, in every world of the shape.
  CLOSING, B: a world for the witness.
-/
import Derived.Test.YtcajnfkkokeeeaaGreatDoorG5
import Derived.Laws.BytesArg
import Derived.Lib.ConvBytes
import Derived.Lib.Walk
import Derived.Lib.Small
import Derived.Shelf.Strings.Search3
import Derived.WalkKit
import Derived.ProofKit
import Derived.OpenShut
import Derived.WideKeyArgs
import Derived.Deep.DeepHandedRow
import Derived.Test.YtcajnfkkokeeeaaGreatDoorCards
import Derived.Test.YtcajnfkkokeeeaaGreatDoorTie
import Derived.Lib.LaidTab
set_option linter.all false
section
namespace Go.Proofs.YtcajnfkkokeeeaaGreatDoor
open Go.Proofs Go.Lib Go.RowKit
theorem hid33 {p : Prop} (h : p) : Go.RowKit.Hid p := h
theorem plain_nums (s : ByteArray) : strOfNums (s.data.toList.map fun b => (b.toNat : Int)) = s := by
 unfold strOfNums
 obtain ⟨⟨l⟩⟩ := s
 congr 2
 rw [List.map_map]
 conv => rhs; rw [← List.map_id l]
 refine List.map_congr_left fun b _ => ?_
 simp
set_option maxHeartbeats 4000000 in
set_option maxRecDepth 100000 in
theorem plain_calls (s : ByteArray) (hs : s.size ≤ 1000000) (hb : ∀ (j : Nat) b, s.data.toList[j]? = some b → ¬ (b.toNat : Int) < 32) (w : World) : Calls Tryz.prog 33 #[.string s] w fun e w' => e = .returned (.string s) ∧ w' = bytesWorld w 5 s := by
 have hB : ∀ t, t < s.size → (bytesWorld w 5 s).cell? ⟨w.heap.size, t, none⟩ = some (.int .u8 (s.data.toList.getD t 0).toNat) := fun t ht => bytesWorld_cell w 5 s t ht
 have hback : (convert 35 9 (.slice (some ⟨w.heap.size, 0, none⟩) s.size (grownCap w s.size 0 5))).run Tryz.prog (bytesWorld w 5 s) = .ok (.string s) (bytesWorld w 5 s) := by
  have h := run_convert_bytes_arg_in (P := Tryz.prog) (w := bytesWorld w 5 s) (World.Extends.refl _) 35 5 Tryz.underlying35 Tryz.underlying5 w.heap.size 0 s.size (grownCap w s.size 0 5) (s.data.toList.map fun b => (b.toNat : Int)) (by rw [List.length_map, Lib.size_eq]) (fun i hi => by
   rw [Nat.zero_add, hB i hi]
   have hi' : i < s.data.toList.length := by rw [← Lib.size_eq]; exact hi
   simp [List.getD, List.getElem?_eq_getElem hi']) 9 Tryz.underlying9
  rw [h, plain_nums]
 go_enter Tryz.func33, Tryz.ntmps33
 go_wp2
 rw [Lib.run_convert_string_bytes w 9 35 5 s (u := .string) Tryz.underlying9 Tryz.underlying35 Tryz.underlying5]
 simp only [Result.andThen]
 rw [Oper.upon_value]
 obtain ⟨W1, hW1⟩ : ∃ W1, W1 = bytesWorld w 5 s := ⟨_, rfl⟩
 obtain ⟨c1, hc1⟩ : ∃ c, c = grownCap w s.size 0 5 := ⟨_, rfl⟩
 rw [← hW1] at hB hback ⊢
 rw [← hc1] at hback ⊢
 have HB := hid33 (show ∀ t, t < s.size → W1.cell? ⟨w.heap.size, t, none⟩ = some (.int .u8 (s.data.toList.getD t 0).toNat) from hB)
 have HK := hid33 hb
 have HW := hid33 hW1
 clear hW1 hc1 hB hb
 go_wp2
 go_loop [10] (fun i => ∃ k : Nat, k ≤ s.size ∧ i = .int .i64 k) (fun i => s.size - (RowKit.intOf i).toNat)
 case atStart => exact ⟨0, Nat.zero_le _, rfl⟩
 case round =>
  obtain ⟨k, hk, rfl⟩ := hrel
  by_cases hkn : k < s.size
  ·obtain ⟨x, hx⟩ : ∃ x, x = s.data.toList.getD k 0 := ⟨_, rfl⟩
   have hxk : s.data.toList[k]? = some x := by
    rw [hx, List.getD, List.getElem?_eq_getElem (by rw [← Lib.size_eq]; exact hkn)]
    rfl
   have hc1 : W1.cell? ⟨w.heap.size, k, none⟩ = some (.int .u8 x.toNat) := by rw [hx]; exact HB.out k hkn
   have h32 : ¬ (x.toNat : Int) < 32 := by have := HK.out k x hxk; omega
   clear hx hxk
   go_wp2
   go_round
   case rel => exact ⟨k + 1, by omega, by go_num⟩
   case measure => simp [RowKit.intOf]; omega
  ·have hke : k = s.size := by omega
   subst hke
   go_wp2
   go_ret
   exact ⟨rfl, HW.out⟩
end Go.Proofs.YtcajnfkkokeeeaaGreatDoor
namespace Go.Proofs.YtcajnfkkokeeeaaGreatDoor
open Go.Eng
theorem plain_ok [Glob] (s : ByteArray) (hs : s.size ≤ 1000000) (hb : ∀ (j : Nat) b, s.data.toList[j]? = some b → ¬ (b.toNat : Int) < 32) : FnOk Tryz.prog 33 [str s] (str s) := by
 refine ⟨Tryz.call33, fun F hg w xs hF hx => ?_⟩
 obtain ⟨x, ys, hxs, hr, hrest⟩ := hx.of_cons
 have hys := hrest.of_nil
 subst hys
 obtain rfl : xs = #[x] := by cases xs; simp_all
 rw [rep_sc hr]
 refine (plain_calls s hs hb w).mono ?_
 rintro e w' ⟨rfl, rfl⟩
 have hF' : ∀ ad y, F ad = some y → (Lib.bytesWorld w 5 s).cell? ad = some y := fun ad y h => by
  rw [Lib.bytesWorld_old w 5 s ad (World.block_lt_of_cell? w ad (hF ad y h))]; exact hF ad y h
 exact ⟨F, _, rfl, fun _ _ h => h, hF', fun _ _ h => .inl h, ⟨hg, .sc _ _⟩, ⟨rfl, rfl, rfl, by rw [Lib.bytesWorld_size]; omega, fun k hk => Lib.bytesWorld_at_old w 5 s k hk⟩⟩
end Go.Proofs.YtcajnfkkokeeeaaGreatDoor
end

section
namespace Go.Proofs.YtcajnfkkokeeeaaGreatDoor
open Go.Eng
variable [Glob]
set_option maxHeartbeats 4000000
set_option maxRecDepth 100000
abbrev wM1 : ByteArray := ⟨#[109,47,118,49]⟩
abbrev wM2 : ByteArray := ⟨#[109,47,118,50]⟩
abbrev wC1 : ByteArray := ⟨#[99,47,118,49]⟩
abbrev wF : ByteArray := ⟨#[102]⟩
abbrev wG : ByteArray := ⟨#[103]⟩
abbrev wH : ByteArray := ⟨#[104]⟩
abbrev wX : ByteArray := ⟨#[120]⟩
abbrev wM : ByteArray := ⟨#[109]⟩
abbrev w0 : ByteArray := ⟨#[]⟩
abbrev wU : ByteArray := ⟨#[117,115,101,32,103]⟩
abbrev wR : ByteArray := ⟨#[109,47,118,49,46,102,58,32,117,115,101,32,103]⟩
def exT : Ty := .mk 0 w0 w0 [] []
def exV (n : ByteArray) : Ve := ⟨n, [], exT⟩
def exI0 : Ify := ⟨wM1, [], [exV wF, exV wG], [], []⟩
def exI1 : Ify := ⟨wM1, [], [exV wF, exV wG], [], [⟨wF, wU⟩]⟩
def exI2 : Ify := ⟨wM2, [], [exV wH], [], []⟩
def exP0 : Pb := ⟨⟨1, 0, 0⟩, exI0⟩
def exP1 : Pb := ⟨⟨1, 1, 0⟩, exI1⟩
def exP2 : Pb := ⟨⟨2, 0, 0⟩, exI2⟩
def exL : List Pb := [exP0, exP1, exP2]
def exM : List Pb := [exP0, exP1]
abbrev vN (n : ByteArray) : V := .agg [str n, .slice [], num 0, str w0, str w0, .slice [], .slice []]
abbrev vI1 : V := .agg [str wM1, .slice [], .slice [vN wF, vN wG], .slice [], .slice [.agg [str wF, str wU]]]
abbrev vI0 : V := .agg [str wM1, .slice [], .slice [vN wF, vN wG], .slice [], .slice []]
abbrev vP0 : V := .agg [num 1, num 0, num 0, str wM1, .slice [], .slice [vN wF, vN wG], .slice [], .slice []]
abbrev vP1 : V := .agg [num 1, num 1, num 0, str wM1, .slice [], .slice [vN wF, vN wG], .slice [], .slice [.agg [str wF, str wU]]]
abbrev vP2 : V := .agg [num 2, num 0, num 0, str wM2, .slice [], .slice [vN wH], .slice [], .slice []]
abbrev vU : V := .slice [.agg [str wM1, str wF]]
abbrev vC : V := .agg [str wC1, .slice [.agg [str wM1, str wM]], .slice [.agg [num 1, str wX, bl false, bl false, str w0, .slice [], num 0, str w0, str w0, .slice [], .slice [], num 0, str w0, str w0, .slice [], .slice [], num 0, str w0, str w0, .slice [], .slice [], num 4, str wM1, str wF, str w0, num 0, .slice [], .slice [], .slice [], str w0, str w0]]]
theorem exN {p : Pb} (hp : p ∈ exL) : PbN p := by
 have tl : ∀ n, (exV n).params.length ≤ 1048576 := fun n => Nat.zero_le _
 unfold exL at hp
 simp only [List.mem_cons,List.not_mem_nil,or_false] at hp
 rcases hp with rfl | rfl | rfl
 ·refine ⟨⟨by decide, by decide, by decide, by decide, by decide⟩, ⟨fun e he => (by cases he), fun e he => ?_, fun e he => (by cases he)⟩, by decide, fun e he => (by cases he), fun e he => ?_, by decide, fun t ht => ?_⟩
  ·have : e = exV wF ∨ e = exV wG := by simpa [exP0, exI0] using he
   rcases this with rfl | rfl <;> decide
  ·have : e = exV wF ∨ e = exV wG := by simpa [exP0, exI0] using he
   rcases this with rfl | rfl <;> decide
  ·have h2 : typesOf exP0.ifc = [exT, exT] := rfl
   rw [h2] at ht
   simp only [List.mem_cons,List.not_mem_nil,or_false,or_self] at ht
   subst ht; decide
 ·refine ⟨⟨by decide, by decide, by decide, by decide, by decide⟩, ⟨fun e he => (by cases he), fun e he => ?_, fun e he => (by cases he)⟩, by decide, fun e he => (by cases he), fun e he => ?_, by decide, fun t ht => ?_⟩
  ·have : e = exV wF ∨ e = exV wG := by simpa [exP1, exI1] using he
   rcases this with rfl | rfl <;> decide
  ·have : e = exV wF ∨ e = exV wG := by simpa [exP1, exI1] using he
   rcases this with rfl | rfl <;> decide
  ·have h2 : typesOf exP1.ifc = [exT, exT] := rfl
   rw [h2] at ht
   simp only [List.mem_cons,List.not_mem_nil,or_false,or_self] at ht
   subst ht; decide
 ·refine ⟨⟨by decide, by decide, by decide, by decide, by decide⟩, ⟨fun e he => (by cases he), fun e he => ?_, fun e he => (by cases he)⟩, by decide, fun e he => (by cases he), fun e he => ?_, by decide, fun t ht => ?_⟩
  ·have : e = exV wH := by simpa [exP2, exI2] using he
   subst this; decide
  ·have : e = exV wH := by simpa [exP2, exI2] using he
   subst this; decide
  ·have h2 : typesOf exP2.ifc = [exT] := rfl
   rw [h2] at ht
   simp only [List.mem_cons,List.not_mem_nil,or_false] at ht
   subst ht; decide
theorem exML {p : Pb} (hp : p ∈ exM) : p ∈ exL := by
 unfold exM at hp; unfold exL
 simp only [List.mem_cons,List.not_mem_nil,or_false] at hp ⊢
 rcases hp with h | h
 ·exact .inl h
 ·exact .inr (.inl h)
section
variable (hG : Glob.g = some 0)
include hG
theorem h7x : FnOk Tryz.prog 7 [.slice [vP0, vP1, vP2]] (.tup [.slice [.agg [num 2, num 0, num 0, str wG]], num 0]) := by
 obtain ⟨_, rfl, h⟩ := chk_ok hG exL (by decide) (fun p hp => exN hp) (by rw [show sumBy expL exL = 5 from by kernel_rfl]; decide)
 have e : chkV exL = .tup [.slice [.agg [num 2, num 0, num 0, str wG]], num 0] := by kernel_rfl
 rw [e] at h; exact h
theorem h9x : FnOk Tryz.prog 9 [.slice [vP0, vP1]] (.tup [.slice [str wF], num 0]) := by
 obtain ⟨_, rfl, h⟩ := rem_ok hG exM (by decide) (fun p hp => exN (exML hp)) (by rw [show sumBy expL exM = 4 from by kernel_rfl]; decide)
 have e : remV exM = .tup [.slice [str wF], num 0] := by kernel_rfl
 rw [e] at h; exact h
theorem h20x : FnOk Tryz.prog 20 [.slice [vP0, vP1]] (bl true) := by
 obtain ⟨_, rfl, h⟩ := his_ok hG exM (by decide) (fun p hp => (exN (exML hp)).b)
 have e : hisOk exM = true := by kernel_rfl
 rw [e] at h; exact h
omit hG in
theorem h21a : FnOk Tryz.prog 21 [vI0] (.slice [str wF, str wG]) := by
 have b := exN (p := exP0) (by simp [exL])
 obtain ⟨_, rfl, h⟩ := exp_ok exI0 b.all b.n
 have e : expR exI0 = [wF, wG] := by kernel_rfl
 rw [e] at h; exact h
omit hG in
theorem h21b : FnOk Tryz.prog 21 [vI1] (.slice [str wF, str wG]) := by
 have b := exN (p := exP1) (by simp [exL])
 obtain ⟨_, rfl, h⟩ := exp_ok exI1 b.all b.n
 have e : expR exI1 = [wF, wG] := by kernel_rfl
 rw [e] at h; exact h
theorem h14x : FnOk Tryz.prog 14 [.slice [vP0, vP1], str wF] (.tup [.agg [num 1, num 1, num 0], bl true]) :=
 ev_call (orcOf_cons (h20x hG) (orcOf_cons h21a (orcOf_cons h21b orcOf_nil))) (natS_ok hG) 2000 (by kernel_rfl)
theorem h13x : FnOk Tryz.prog 13 [] (.slice [vP0, vP1, vP2]) := ev_call orcOf_nil (natS_ok hG) 2000 (by kernel_rfl)
theorem nmx (s : ByteArray) (h : nameB s = true) : FnOk Tryz.prog 66 [str s] (bl true) := by
 obtain ⟨_, rfl, h2⟩ := isName_ok hG s
 rw [h] at h2; exact h2
theorem ptx (s : ByteArray) (hs : s.size ≤ 1048576) (h : majOk s = true) : FnOk Tryz.prog 58 [str s] (bl true) := by
 obtain ⟨_, rfl, h2⟩ := isPath_ok hG s hs
 rw [h] at h2; exact h2
theorem h28x : FnOk Tryz.prog 28 [vC] (.tup [num 0, .sc (.int .i64 0)]) :=
 ev_call (orcOf_cons (nmx hG wX (by kernel_rfl)) (orcOf_cons (nmx hG wF (by kernel_rfl)) (orcOf_cons (nmx hG wM (by kernel_rfl)) (orcOf_cons (ptx hG wC1 (by decide) (by kernel_rfl)) (orcOf_cons (ptx hG wM1 (by decide) (by kernel_rfl)) orcOf_nil))))) (natS_ok hG) 2000 (by kernel_rfl)
theorem h29x : FnOk Tryz.prog 29 [vC] vU := ev_call orcOf_nil (natS_ok hG) 2000 (by kernel_rfl)
theorem h15x : FnOk Tryz.prog 15 [.slice [vI1], vC] (.tup [vU, num 0]) := ev_call (orcOf_cons (h28x hG) (orcOf_cons (h29x hG) orcOf_nil)) (natS_ok hG) 2000 (by kernel_rfl)
theorem h16x : FnOk Tryz.prog 16 [.slice [vI1], vC] (.tup [.slice [str wR], num 0]) := ev_call (orcOf_cons (h15x hG) (orcOf_cons (plain_ok wU (by decide) (fun j b hj => by
  have : ∀ b ∈ wU.data.toList, ¬ (b.toNat : Int) < 32 := by decide
  exact this b (List.mem_of_getElem? hj))) orcOf_nil)) (natS_ok hG) 2000 (by kernel_rfl)
theorem awake_ok : FnOk Tryz.prog 5 [] (bl true) := ev_call (orcOf_cons (h13x hG) (orcOf_cons (h7x hG) (orcOf_cons (h14x hG) (orcOf_cons (h9x hG) (orcOf_cons (h15x hG) (orcOf_cons (h16x hG) orcOf_nil)))))) (natS_ok hG) 2000 (by kernel_rfl)
end
end Go.Proofs.YtcajnfkkokeeeaaGreatDoor
end

section
namespace Go.Proofs.YtcajnfkkokeeeaaGreatDoor
open Go.Eng
variable [Glob]
set_option maxHeartbeats 4000000
set_option maxRecDepth 100000
theorem d10 : decide ((1 : Int) = 0) = false := rfl
theorem firstPb (l : List Pb) (n : Nat) : firstOk (l.map encPb) n 8 = true := by
 unfold firstOk; split
 ·rename_i h; simp at h; obtain ⟨t, -, rfl⟩ := h; rfl
 ·rfl
end Go.Proofs.YtcajnfkkokeeeaaGreatDoor
end

section
namespace Go.Proofs.YtcajnfkkokeeeaaGreatDoor
open Go.Eng
set_option maxHeartbeats 4000000
set_option maxRecDepth 100000
theorem okWide_slice {P : Program} {W : World} {base : Nat} {T e : TypeId} {v : Value} (hT : P.underlying T = some (.slice e)) (h : Value.okWide P W .any base T v) : ∃ a l c, v = .slice a l c := by
 unfold Value.okWide at h
 rw [hT] at h
 unfold Cell.okWide at h
 rw [hT] at h
 cases v with
 | slice a l c => exact ⟨a, l, c, rfl⟩
 | _ => simp [Cell.ok, hT] at h
variable [Glob]
theorem c3 : Tryz.prog.cellsOf 3 = 1 := by kernel_rfl
theorem c4 : Tryz.prog.cellsOf 4 = 1 := by kernel_rfl
theorem c5 : Tryz.prog.cellsOf 5 = 1 := by kernel_rfl
theorem c9 : Tryz.prog.cellsOf 9 = 1 := by kernel_rfl
theorem c31 : Tryz.prog.cellsOf 31 = 3 := by kernel_rfl
theorem c39 : Tryz.prog.cellsOf 39 = 1 := by kernel_rfl
theorem c40 : Tryz.prog.cellsOf 40 = 1 := by kernel_rfl
theorem c41 : Tryz.prog.cellsOf 41 = 1 := by kernel_rfl
theorem c42 : Tryz.prog.cellsOf 42 = 1 := by kernel_rfl
theorem c44 : Tryz.prog.cellsOf 44 = 5 := by kernel_rfl
theorem c46 : Tryz.prog.cellsOf 46 = 8 := by kernel_rfl
theorem c50 : Tryz.prog.cellsOf 50 = 1 := by kernel_rfl
theorem c51 : Tryz.prog.cellsOf 51 = 1 := by kernel_rfl
theorem c52 : Tryz.prog.cellsOf 52 = 1 := by kernel_rfl
theorem c54 : Tryz.prog.cellsOf 54 = 5 := by kernel_rfl
theorem c56 : Tryz.prog.cellsOf 56 = 7 := by kernel_rfl
theorem c87 : Tryz.prog.cellsOf 87 = 12 := by kernel_rfl
theorem c89 : Tryz.prog.cellsOf 89 = 3 := by kernel_rfl
theorem c94 : Tryz.prog.cellsOf 94 = 2 := by kernel_rfl
theorem c133 : Tryz.prog.cellsOf 133 = 7 := by kernel_rfl
theorem c163 : Tryz.prog.cellsOf 163 = 7 := by kernel_rfl
mutual
def Ty.wt : Ty → Nat
 | .mk _ m n ts fs => 1 + m.size + n.size + wtTys ts + wtFds fs
def wtTys : List Ty → Nat
 | [] => 0
 | t :: r => t.wt + wtTys r
def Fd.wt : Fd → Nat
 | .mk n (.mk _ m n' ts fs) _ => 1 + n.size + m.size + n'.size + wtTys ts + wtFds fs
def wtFds : List Fd → Nat
 | [] => 0
 | f :: r => f.wt + wtFds r
end
theorem Fd.wt_eq (f : Fd) : f.wt = f.name.size + f.ty.wt := by
 obtain ⟨n', ⟨k, m, n, ts, fs⟩, o⟩ := f
 simp only [Fd.wt,Ty.wt,Fd.name,Fd.ty]; omega
theorem wtTys_sum (ts : List Ty) : wtTys ts = sumBy Ty.wt ts := by induction ts with | nil => rfl | cons t r ih => simp [wtTys, sumBy, ih]
theorem wtFds_sum (ts : List Fd) : wtFds ts = sumBy Fd.wt ts := by induction ts with | nil => rfl | cons t r ih => simp [wtFds, sumBy, ih]
theorem Ty.wt_eq (t : Ty) : t.wt = 1 + t.mod.size + t.name.size + sumBy Ty.wt t.args + sumBy Fd.wt t.flds := by
 obtain ⟨k, m, n, ts, fs⟩ := t
 simp only [Ty.wt,wtTys_sum,wtFds_sum,Ty.mod,Ty.name,Ty.args,Ty.flds]
theorem sumBy_le {α : Type} {g h : α → Nat} (hle : ∀ a, g a ≤ h a) (l : List α) : sumBy g l ≤ sumBy h l := by
 induction l with
 | nil => exact Nat.le_refl _
 | cons a r ih => simp only [sumBy]; have := hle a; omega
theorem Ty.wt_parts (t : Ty) : 1 + t.mod.size + t.name.size + sumBy Ty.wt t.parts ≤ t.wt := by
 rw [t.wt_eq, Ty.parts, sumBy_append, sumBy_map]
 have := sumBy_le (g := fun f : Fd => f.ty.wt) (h := Fd.wt) (fun f => by rw [f.wt_eq]; omega) t.flds
 omega
theorem Ty.size_le_wt' : ∀ (N : Nat) (t : Ty), t.size ≤ N → t.size ≤ t.wt := by
 intro N
 induction N with
 | zero => intro t h; have := t.size_pos; omega
 | succ N ih =>
  intro t hN
  have h1 := t.size_parts
  have h2 := t.wt_parts
  have gen : ∀ (l : List Ty), sumBy Ty.size l ≤ N → sumBy Ty.size l ≤ sumBy Ty.wt l := by
   intro l
   induction l with
   | nil => intro _; exact Nat.le_refl _
   | cons a r ihr =>
    intro hl
    simp only [sumBy] at hl ⊢
    have := ih a (by omega); have := ihr (by omega); omega
  have := gen t.parts (by omega)
  omega
theorem Ty.size_le_wt (t : Ty) : t.size ≤ t.wt := Ty.size_le_wt' _ t (Nat.le_refl _)
def wPm (x : Pm) : Nat := x.name.size + 1 + 1 + x.bound.wt
def wTe (x : Te) : Nat := x.name.size + 1 + (sumBy wPm x.params + 1) + x.lower.wt + x.upper.wt
def wVe (x : Ve) : Nat := x.name.size + 1 + (sumBy wPm x.params + 1) + x.ty.wt
def wAl (x : Al) : Nat := x.name.size + 1 + x.mod.size + 1 + x.target.size + 1
def wDp (x : Dp) : Nat := x.name.size + 1 + x.note.size + 1
def wIfy (x : Ify) : Nat := x.path.size + 1 + (sumBy wTe x.types + 1) + (sumBy wVe x.vals + 1) + (sumBy wAl x.als + 1) + (sumBy wDp x.deps + 1)
def wVer (x : Ver) : Nat := 1 + 1 + 1
def wPb (x : Pb) : Nat := wVer x.ver + wIfy x.ifc
section
variable {F : Addr → Option Value} {hg : Gl F} {H : Type} {enc : TypeId × Value → H} {w : World} {sp : Nat → Bool} {held : Bool} {f : Nat} {cs : List Value} {d : DataW H} {p : List MemPlace}
theorem rd_last {a : List V} {cs : List Value} {off n : Nat} (h1 : Rd F hg a ((cs.drop off).take n)) (h : cs.length = off + n) : Rd F hg a (cs.drop off) := by
 rwa [List.take_of_length_le (by simp; omega)] at h1
theorem rd_num (h : DataW.trod enc Tryz.prog w 0 sp held f 3 cs = some (d, p)) : ∃ n : Int, Rd F hg [num n] cs ∧ 1 ≤ Rows.uptoBulk d := by
 cases f with
 | zero => simp [DataW.trod] at h
 | succ f => obtain ⟨n, rfl, rfl⟩ := trod_int Tryz.underlying3 h; exact ⟨n, rd_one rfl, by simp [Rows.uptoBulk]⟩
theorem rd_str (h : DataW.trod enc Tryz.prog w 0 sp held f 9 cs = some (d, p)) : ∃ s : ByteArray, Rd F hg [str s] cs ∧ s.size + 1 ≤ Rows.uptoBulk d := by
 cases f with
 | zero => simp [DataW.trod] at h
 | succ f =>
  obtain ⟨n, rfl, rfl⟩ := trod_string Tryz.underlying9 h
  exact ⟨n, rd_one rfl, by simp only [Rows.uptoBulk,Array.length_toList]; exact Nat.le_refl _⟩
theorem rd_bl (h : DataW.trod enc Tryz.prog w 0 sp held f 4 cs = some (d, p)) : ∃ b : Bool, Rd F hg [bl b] cs := by
 cases f with
 | zero => simp [DataW.trod] at h
 | succ f => obtain ⟨n, rfl, -⟩ := trod_bool Tryz.underlying4 h; exact ⟨n, rd_one rfl⟩
theorem rd_sl {T T' : TypeId} {α : Type} {row : α → V} {g : α → Nat} {n : Nat} (hF : F = w.cell?) (hT : Tryz.prog.underlying T = some (.slice T')) (hn : Tryz.prog.cellsOf T' = n)
  (hr : ∀ f', f' < f → ∀ {cs : List Value} {d : DataW H} {p : List MemPlace}, DataW.trod enc Tryz.prog w 0 sp held f' T' cs = some (d, p) → ∃ a : α, Rd F hg (row a).cells cs ∧ g a ≤ Rows.uptoBulk d)
  (h : DataW.trod enc Tryz.prog w 0 sp held f T cs = some (d, p)) : ∃ l : List α, Rd F hg [.slice (l.map row)] cs ∧ sumBy g l + 1 ≤ Rows.uptoBulk d := by
 cases f with
 | zero => simp [DataW.trod] at h
 | succ f => exact rd_slice hF hT hn (fun h => hr f (Nat.lt_succ_self f) h) h
theorem rd_u8 (h : DataW.trod enc Tryz.prog w 0 sp held f 5 cs = some (d, p)) : ∃ n : Int, Rd F hg [.sc (.int .u8 n)] cs ∧ 1 ≤ Rows.uptoBulk d := by
 cases f with
 | zero => simp [DataW.trod] at h
 | succ f => obtain ⟨n, rfl, rfl⟩ := trod_int Tryz.underlying5 h; exact ⟨n, rd_one rfl, by simp [Rows.uptoBulk]⟩
theorem rd_ty (hF : F = w.cell?) : ∀ (f : Nat) {cs : List Value} {d : DataW H} {p : List MemPlace}, DataW.trod enc Tryz.prog w 0 sp held f 54 cs = some (d, p) → ∃ t : Ty, Rd F hg (encTy t).cells cs ∧ t.wt ≤ Rows.uptoBulk d := by
 intro f
 induction f using Nat.strongRecOn with
 | ind f ih =>
  intro cs d p h
  cases f with
  | zero => simp [DataW.trod] at h
  | succ f =>
   obtain ⟨hl, d0, p0, h0, d1, p1, h1, d2, p2, h2, d3, p3, h3, d4, p4, h4, rfl⟩ := trod_parts Tryz.underlying54 h
   simp only [c3,c9,c51,c52] at h0 h1 h2 h3 h4
   rw [c54] at hl
   obtain ⟨k, hk, -⟩ := rd_num (F := F) (hg := hg) h0
   obtain ⟨m, hm, s1⟩ := rd_str (F := F) (hg := hg) h1
   obtain ⟨n, hn, s2⟩ := rd_str (F := F) (hg := hg) h2
   obtain ⟨ts, hts, bts⟩ := rd_sl (F := F) (hg := hg) hF Tryz.underlying51 c54 (fun f' hf' {cs d p} h => ih f' (by omega) h) h3
   obtain ⟨fs, hfs, bfs⟩ := rd_sl (F := F) (hg := hg) (α := Fd) (row := encFd) (g := Fd.wt) hF Tryz.underlying52 c163 (fun f' hf' {cs d p} h => by
    cases f' with
    | zero => simp [DataW.trod] at h
    | succ f' =>
     obtain ⟨hl, d0, p0, h0, d1, p1, h1, d2, p2, h2, rfl⟩ := trod_parts Tryz.underlying163 h
     simp only [c4,c9,c54] at h0 h1 h2
     rw [c163] at hl
     obtain ⟨n, hn, s0⟩ := rd_str (F := F) (hg := hg) h0
     obtain ⟨t, ht, bt⟩ := ih f' (by omega) h1
     obtain ⟨b, hb⟩ := rd_bl (F := F) (hg := hg) h2
     rw [encTy_eq] at ht
     refine ⟨.mk n t b, ?_, ?_⟩
     ·rw [encFd_eq]
      show Rd F hg ([str n] ++ tyCells t ++ [bl b]) (cs.drop 0)
      rw [List.append_assoc]
      exact rd_step hn (rd_step ht (rd_last hb hl))
     ·rw [Fd.wt_eq]; simp only [Rows.uptoBulk,Rows.uptoBulkAll,Fd.ty,Fd.name]; omega) h4
   refine ⟨.mk k m n ts fs, ?_, ?_⟩
   ·rw [encTy_eq]
    simp only [tyCells,Ty.kind,Ty.mod,Ty.name,Ty.args,Ty.flds,encTys_map,encFds_map]
    exact rd_step (off := 0) hk (rd_step hm (rd_step hn (rd_step hts (rd_step hfs (rd_end hl)))))
   ·simp only [Rows.uptoBulk,Rows.uptoBulkAll,Ty.wt,wtTys_sum,wtFds_sum]; omega
theorem rd_Pm (hF : F = w.cell?) (h : DataW.trod enc Tryz.prog w 0 sp held f 133 cs = some (d, p)) : ∃ x : Pm, Rd F hg (encPm x).cells cs ∧ wPm x ≤ Rows.uptoBulk d := by
 cases f with
 | zero => simp [DataW.trod] at h
 | succ f =>
  obtain ⟨hl, d0, p0, h0, d1, p1, h1, d2, p2, h2, rfl⟩ := trod_parts Tryz.underlying133 h
  simp only [c3,c9,c54] at h0 h1 h2
  rw [c133] at hl
  obtain ⟨x0, a0, b0⟩ := rd_str (F := F) (hg := hg) h0
  obtain ⟨x1, a1, b1⟩ := rd_num (F := F) (hg := hg) h1
  obtain ⟨x2, a2, b2⟩ := rd_ty (hg := hg) hF _ h2
  rw [encTy_eq] at a2
  refine ⟨⟨x0, x1, x2⟩, ?_, ?_⟩
  ·show Rd F hg ([str x0] ++ ([num x1] ++ (tyCells x2))) (cs.drop 0)
   exact rd_step (a := [str x0]) (off := 0) a0 (rd_step (a := [num x1]) a1 (rd_last (a := tyCells x2) a2 hl))
  ·simp only [Rows.uptoBulk,Rows.uptoBulkAll,wPm]; omega
theorem rd_Pms (hF : F = w.cell?) (h : DataW.trod enc Tryz.prog w 0 sp held f 50 cs = some (d, p)) : ∃ l : List Pm, Rd F hg [.slice (l.map encPm)] cs ∧ sumBy wPm l + 1 ≤ Rows.uptoBulk d :=
 rd_sl (row := encPm) (g := wPm) hF Tryz.underlying50 c133 (fun f' _ {cs d p} h => rd_Pm hF h) h
theorem rd_Te (hF : F = w.cell?) (h : DataW.trod enc Tryz.prog w 0 sp held f 87 cs = some (d, p)) : ∃ x : Te, Rd F hg (encTe x).cells cs ∧ wTe x ≤ Rows.uptoBulk d := by
 cases f with
 | zero => simp [DataW.trod] at h
 | succ f =>
  obtain ⟨hl, d0, p0, h0, d1, p1, h1, d2, p2, h2, d3, p3, h3, rfl⟩ := trod_parts Tryz.underlying87 h
  simp only [c9,c50,c54] at h0 h1 h2 h3
  rw [c87] at hl
  obtain ⟨x0, a0, b0⟩ := rd_str (F := F) (hg := hg) h0
  obtain ⟨x1, a1, b1⟩ := rd_Pms (F := F) (hg := hg) hF h1
  obtain ⟨x2, a2, b2⟩ := rd_ty (hg := hg) hF _ h2
  rw [encTy_eq] at a2
  obtain ⟨x3, a3, b3⟩ := rd_ty (hg := hg) hF _ h3
  rw [encTy_eq] at a3
  refine ⟨⟨x0, x1, x2, x3⟩, ?_, ?_⟩
  ·show Rd F hg ([str x0] ++ ([.slice (x1.map encPm)] ++ (tyCells x2 ++ (tyCells x3)))) (cs.drop 0)
   exact rd_step (a := [str x0]) (off := 0) a0 (rd_step (a := [.slice (x1.map encPm)]) a1 (rd_step (a := tyCells x2) a2 (rd_last (a := tyCells x3) a3 hl)))
  ·simp only [Rows.uptoBulk,Rows.uptoBulkAll,wTe]; omega
theorem rd_Tes (hF : F = w.cell?) (h : DataW.trod enc Tryz.prog w 0 sp held f 39 cs = some (d, p)) : ∃ l : List Te, Rd F hg [.slice (l.map encTe)] cs ∧ sumBy wTe l + 1 ≤ Rows.uptoBulk d :=
 rd_sl (row := encTe) (g := wTe) hF Tryz.underlying39 c87 (fun f' _ {cs d p} h => rd_Te hF h) h
theorem rd_Ve (hF : F = w.cell?) (h : DataW.trod enc Tryz.prog w 0 sp held f 56 cs = some (d, p)) : ∃ x : Ve, Rd F hg (encVe x).cells cs ∧ wVe x ≤ Rows.uptoBulk d := by
 cases f with
 | zero => simp [DataW.trod] at h
 | succ f =>
  obtain ⟨hl, d0, p0, h0, d1, p1, h1, d2, p2, h2, rfl⟩ := trod_parts Tryz.underlying56 h
  simp only [c9,c50,c54] at h0 h1 h2
  rw [c56] at hl
  obtain ⟨x0, a0, b0⟩ := rd_str (F := F) (hg := hg) h0
  obtain ⟨x1, a1, b1⟩ := rd_Pms (F := F) (hg := hg) hF h1
  obtain ⟨x2, a2, b2⟩ := rd_ty (hg := hg) hF _ h2
  rw [encTy_eq] at a2
  refine ⟨⟨x0, x1, x2⟩, ?_, ?_⟩
  ·show Rd F hg ([str x0] ++ ([.slice (x1.map encPm)] ++ (tyCells x2))) (cs.drop 0)
   exact rd_step (a := [str x0]) (off := 0) a0 (rd_step (a := [.slice (x1.map encPm)]) a1 (rd_last (a := tyCells x2) a2 hl))
  ·simp only [Rows.uptoBulk,Rows.uptoBulkAll,wVe]; omega
theorem rd_Ves (hF : F = w.cell?) (h : DataW.trod enc Tryz.prog w 0 sp held f 40 cs = some (d, p)) : ∃ l : List Ve, Rd F hg [.slice (l.map encVe)] cs ∧ sumBy wVe l + 1 ≤ Rows.uptoBulk d :=
 rd_sl (row := encVe) (g := wVe) hF Tryz.underlying40 c56 (fun f' _ {cs d p} h => rd_Ve hF h) h
theorem rd_Al (hF : F = w.cell?) (h : DataW.trod enc Tryz.prog w 0 sp held f 89 cs = some (d, p)) : ∃ x : Al, Rd F hg (encAl x).cells cs ∧ wAl x ≤ Rows.uptoBulk d := by
 cases f with
 | zero => simp [DataW.trod] at h
 | succ f =>
  obtain ⟨hl, d0, p0, h0, d1, p1, h1, d2, p2, h2, rfl⟩ := trod_parts Tryz.underlying89 h
  simp only [c9] at h0 h1 h2
  rw [c89] at hl
  obtain ⟨x0, a0, b0⟩ := rd_str (F := F) (hg := hg) h0
  obtain ⟨x1, a1, b1⟩ := rd_str (F := F) (hg := hg) h1
  obtain ⟨x2, a2, b2⟩ := rd_str (F := F) (hg := hg) h2
  refine ⟨⟨x0, x1, x2⟩, ?_, ?_⟩
  ·show Rd F hg ([str x0] ++ ([str x1] ++ ([str x2]))) (cs.drop 0)
   exact rd_step (a := [str x0]) (off := 0) a0 (rd_step (a := [str x1]) a1 (rd_last (a := [str x2]) a2 hl))
  ·simp only [Rows.uptoBulk,Rows.uptoBulkAll,wAl]; omega
theorem rd_Als (hF : F = w.cell?) (h : DataW.trod enc Tryz.prog w 0 sp held f 41 cs = some (d, p)) : ∃ l : List Al, Rd F hg [.slice (l.map encAl)] cs ∧ sumBy wAl l + 1 ≤ Rows.uptoBulk d :=
 rd_sl (row := encAl) (g := wAl) hF Tryz.underlying41 c89 (fun f' _ {cs d p} h => rd_Al hF h) h
theorem rd_Dp (hF : F = w.cell?) (h : DataW.trod enc Tryz.prog w 0 sp held f 94 cs = some (d, p)) : ∃ x : Dp, Rd F hg (encDp x).cells cs ∧ wDp x ≤ Rows.uptoBulk d := by
 cases f with
 | zero => simp [DataW.trod] at h
 | succ f =>
  obtain ⟨hl, d0, p0, h0, d1, p1, h1, rfl⟩ := trod_parts Tryz.underlying94 h
  simp only [c9] at h0 h1
  rw [c94] at hl
  obtain ⟨x0, a0, b0⟩ := rd_str (F := F) (hg := hg) h0
  obtain ⟨x1, a1, b1⟩ := rd_str (F := F) (hg := hg) h1
  refine ⟨⟨x0, x1⟩, ?_, ?_⟩
  ·show Rd F hg ([str x0] ++ ([str x1])) (cs.drop 0)
   exact rd_step (a := [str x0]) (off := 0) a0 (rd_last (a := [str x1]) a1 hl)
  ·simp only [Rows.uptoBulk,Rows.uptoBulkAll,wDp]; omega
theorem rd_Dps (hF : F = w.cell?) (h : DataW.trod enc Tryz.prog w 0 sp held f 42 cs = some (d, p)) : ∃ l : List Dp, Rd F hg [.slice (l.map encDp)] cs ∧ sumBy wDp l + 1 ≤ Rows.uptoBulk d :=
 rd_sl (row := encDp) (g := wDp) hF Tryz.underlying42 c94 (fun f' _ {cs d p} h => rd_Dp hF h) h
theorem rd_Ify (hF : F = w.cell?) (h : DataW.trod enc Tryz.prog w 0 sp held f 44 cs = some (d, p)) : ∃ x : Ify, Rd F hg (encIf x).cells cs ∧ wIfy x ≤ Rows.uptoBulk d := by
 cases f with
 | zero => simp [DataW.trod] at h
 | succ f =>
  obtain ⟨hl, d0, p0, h0, d1, p1, h1, d2, p2, h2, d3, p3, h3, d4, p4, h4, rfl⟩ := trod_parts Tryz.underlying44 h
  simp only [c9,c39,c40,c41,c42] at h0 h1 h2 h3 h4
  rw [c44] at hl
  obtain ⟨x0, a0, b0⟩ := rd_str (F := F) (hg := hg) h0
  obtain ⟨x1, a1, b1⟩ := rd_Tes (F := F) (hg := hg) hF h1
  obtain ⟨x2, a2, b2⟩ := rd_Ves (F := F) (hg := hg) hF h2
  obtain ⟨x3, a3, b3⟩ := rd_Als (F := F) (hg := hg) hF h3
  obtain ⟨x4, a4, b4⟩ := rd_Dps (F := F) (hg := hg) hF h4
  refine ⟨⟨x0, x1, x2, x3, x4⟩, ?_, ?_⟩
  ·show Rd F hg ([str x0] ++ ([.slice (x1.map encTe)] ++ ([.slice (x2.map encVe)] ++ ([.slice (x3.map encAl)] ++ ([.slice (x4.map encDp)]))))) (cs.drop 0)
   exact rd_step (a := [str x0]) (off := 0) a0 (rd_step (a := [.slice (x1.map encTe)]) a1 (rd_step (a := [.slice (x2.map encVe)]) a2 (rd_step (a := [.slice (x3.map encAl)]) a3 (rd_last (a := [.slice (x4.map encDp)]) a4 hl))))
  ·simp only [Rows.uptoBulk,Rows.uptoBulkAll,wIfy]; omega
theorem rd_Ver (hF : F = w.cell?) (h : DataW.trod enc Tryz.prog w 0 sp held f 31 cs = some (d, p)) : ∃ x : Ver, Rd F hg (encVer x).cells cs ∧ wVer x ≤ Rows.uptoBulk d := by
 cases f with
 | zero => simp [DataW.trod] at h
 | succ f =>
  obtain ⟨hl, d0, p0, h0, d1, p1, h1, d2, p2, h2, rfl⟩ := trod_parts Tryz.underlying31 h
  simp only [c3] at h0 h1 h2
  rw [c31] at hl
  obtain ⟨x0, a0, b0⟩ := rd_num (F := F) (hg := hg) h0
  obtain ⟨x1, a1, b1⟩ := rd_num (F := F) (hg := hg) h1
  obtain ⟨x2, a2, b2⟩ := rd_num (F := F) (hg := hg) h2
  refine ⟨⟨x0, x1, x2⟩, ?_, ?_⟩
  ·show Rd F hg ([num x0] ++ ([num x1] ++ ([num x2]))) (cs.drop 0)
   exact rd_step (a := [num x0]) (off := 0) a0 (rd_step (a := [num x1]) a1 (rd_last (a := [num x2]) a2 hl))
  ·simp only [Rows.uptoBulk,Rows.uptoBulkAll,wVer]; omega
theorem rd_Pb (hF : F = w.cell?) (h : DataW.trod enc Tryz.prog w 0 sp held f 46 cs = some (d, p)) : ∃ x : Pb, Rd F hg (encPb x).cells cs ∧ wPb x ≤ Rows.uptoBulk d := by
 cases f with
 | zero => simp [DataW.trod] at h
 | succ f =>
  obtain ⟨hl, d0, p0, h0, d1, p1, h1, rfl⟩ := trod_parts Tryz.underlying46 h
  simp only [c31,c44] at h0 h1
  rw [c46] at hl
  obtain ⟨x0, a0, b0⟩ := rd_Ver (F := F) (hg := hg) hF h0
  obtain ⟨x1, a1, b1⟩ := rd_Ify (F := F) (hg := hg) hF h1
  refine ⟨⟨x0, x1⟩, ?_, ?_⟩
  ·show Rd F hg ((encVer x0).cells ++ ((encIf x1).cells)) (cs.drop 0)
   exact rd_step (a := (encVer x0).cells) (off := 0) a0 (rd_last (a := (encIf x1).cells) a1 hl)
  ·simp only [Rows.uptoBulk,Rows.uptoBulkAll,wPb]; omega
theorem rd_Pbs (hF : F = w.cell?) (h : DataW.trod enc Tryz.prog w 0 sp held f 22 cs = some (d, p)) : ∃ l : List Pb, Rd F hg [.slice (l.map encPb)] cs ∧ sumBy wPb l + 1 ≤ Rows.uptoBulk d :=
 rd_sl (row := encPb) (g := wPb) hF Tryz.underlying22 c46 (fun f' _ {cs d p} h => rd_Pb hF h) h
theorem rd_u8s (hF : F = w.cell?) (h : DataW.trod enc Tryz.prog w 0 sp held f 35 cs = some (d, p)) : ∃ l : List Int, Rd F hg [.slice (l.map (fun n : Int => V.sc (.int .u8 n)))] cs ∧ sumBy (fun _ : Int => 1) l + 1 ≤ Rows.uptoBulk d :=
 rd_sl (row := (fun n : Int => V.sc (.int .u8 n))) (g := (fun _ : Int => 1)) hF Tryz.underlying35 c5 (fun f' _ {cs d p} h => rd_u8 h) h
end
theorem wte_pos (x : Te) : 1 ≤ wTe x := by unfold wTe; omega
theorem wve_pos (x : Ve) : 1 ≤ wVe x := by unfold wVe; omega
theorem wal_pos (x : Al) : 1 ≤ wAl x := by unfold wAl; omega
theorem wdp_pos (x : Dp) : 1 ≤ wDp x := by unfold wDp; omega
theorem wpm_pos (x : Pm) : 1 ≤ wPm x := by unfold wPm; omega
theorem wpb_pos (x : Pb) : 1 ≤ wPb x := by unfold wPb wVer; omega
theorem mem_sum {α : Type} (g : α → Nat) {l : List α} {x : α} (h : x ∈ l) : g x ≤ sumBy g l := by
 obtain ⟨i, hi⟩ := List.mem_iff_getElem?.1 h
 exact sumBy_mem g hi
theorem flat_sum {α β : Type} (f : α → List β) (g : α → Nat) : ∀ {l : List α}, (∀ x ∈ l, (f x).length ≤ g x) → (l.flatMap f).length ≤ sumBy g l
 | [], _ => Nat.zero_le _
 | a :: l, h => by
  have h1 := h a (List.mem_cons_self ..)
  have h2 := flat_sum f g (l := l) fun x hx => h x (List.mem_cons_of_mem _ hx)
  rw [List.flatMap_cons, List.length_append, sumBy]; omega
theorem teT_le (e : Te) : (teT e e.params.length).length ≤ 2 * wTe e := by
 have := length_le_sum wPm wpm_pos e.params
 unfold teT wTe; simp only [List.length_cons,List.length_map,List.take_length]; omega
theorem veT_le (e : Ve) : (veT e e.params.length).length ≤ 2 * wVe e := by
 have := length_le_sum wPm wpm_pos e.params
 unfold veT wVe; simp only [List.length_cons,List.length_map,List.take_length]; omega
theorem sum_two {α : Type} (g : α → Nat) (l : List α) : sumBy (fun x => 2 * g x) l = 2 * sumBy g l := by induction l with | nil => rfl | cons a t ih => simp only [sumBy,ih]; omega
theorem pm_size {l : List Pm} {t : Ty} (h : t ∈ l.map Pm.bound) : t.size ≤ sumBy wPm l := by
 obtain ⟨x, hx, rfl⟩ := List.mem_map.1 h
 have h1 := mem_sum wPm hx
 have h2 := x.bound.size_le_wt
 unfold wPm at h1 ⊢; omega
theorem te_size {e : Te} {t : Ty} (h : t ∈ teT e e.params.length) : t.size ≤ wTe e := by
 unfold teT at h
 rw [List.take_length] at h
 have h1 := e.lower.size_le_wt
 have h2 := e.upper.size_le_wt
 unfold wTe
 rcases List.mem_cons.1 h with rfl | h
 ·omega
 ·rcases List.mem_cons.1 h with rfl | h
  ·omega
  ·have := pm_size h; omega
theorem ve_size {e : Ve} {t : Ty} (h : t ∈ veT e e.params.length) : t.size ≤ wVe e := by
 unfold veT at h
 rw [List.take_length] at h
 have h1 := e.ty.size_le_wt
 unfold wVe
 rcases List.mem_cons.1 h with rfl | h
 ·omega
 ·have := pm_size h; omega
theorem pbN_of {p : Pb} (h : wPb p ≤ 1048576) : PbN p := by
 unfold wPb wIfy at h
 have l1 := length_le_sum wTe wte_pos p.ifc.types
 have l2 := length_le_sum wVe wve_pos p.ifc.vals
 have l3 := length_le_sum wAl wal_pos p.ifc.als
 have l4 := length_le_sum wDp wdp_pos p.ifc.deps
 have typ : typesOf p.ifc = p.ifc.types.flatMap (fun e => teT e e.params.length) ++ p.ifc.vals.flatMap (fun e => veT e e.params.length) := by
  unfold typesOf preV preT; rw [List.take_length, List.take_length]
 refine ⟨⟨by omega, by omega, by omega, by omega, by omega⟩, ⟨fun e he => ?_, fun e he => ?_, fun e he => ?_⟩, by omega, fun e he => ?_, fun e he => ?_, ?_, fun t ht => ?_⟩
 ·have := mem_sum wTe he; unfold wTe at this h; omega
 ·have := mem_sum wVe he; unfold wVe at this h; omega
 ·have := mem_sum wAl he; unfold wAl at this h; omega
 ·have h1 := mem_sum wTe he; have h2 := length_le_sum wPm wpm_pos e.params; unfold wTe at h1 h; omega
 ·have h1 := mem_sum wVe he; have h2 := length_le_sum wPm wpm_pos e.params; unfold wVe at h1 h; omega
 ·rw [typ, List.length_append]
  have h1 := flat_sum (fun e : Te => teT e e.params.length) (fun e => 2 * wTe e) (l := p.ifc.types) fun e _ => teT_le e
  have h2 := flat_sum (fun e : Ve => veT e e.params.length) (fun e => 2 * wVe e) (l := p.ifc.vals) fun e _ => veT_le e
  rw [sum_two] at h1 h2
  omega
 ·rw [typ, List.mem_append] at ht
  rcases ht with ht | ht
  ·obtain ⟨e, he, ht⟩ := List.mem_flatMap.1 ht
   have h1 := te_size ht; have h2 := mem_sum wTe he; omega
  ·obtain ⟨e, he, ht⟩ := List.mem_flatMap.1 ht
   have h1 := ve_size ht; have h2 := mem_sum wVe he; omega
theorem expL_le3 (p : Pb) : 2 * expL p ≤ wPb p := by
 have l1 := length_le_sum (fun x => wTe x) (fun x => wte_pos x) p.ifc.types
 have k : ∀ {α : Type} (g : α → Nat), (∀ x, 2 ≤ g x) → ∀ l : List α, 2 * l.length ≤ sumBy g l := fun g hg l => by
  induction l with
  | nil => exact Nat.le_refl _
  | cons a t ih => have := hg a; simp only [sumBy,List.length_cons]; omega
 have l1 := k wTe (fun x => by unfold wTe; omega) p.ifc.types
 have l2 := k wVe (fun x => by unfold wVe; omega) p.ifc.vals
 have l3 := k wAl (fun x => by unfold wAl; omega) p.ifc.als
 have h1 := insAll_length (lt := ltB) (l := []) (m := p.ifc.types.map Te.name)
 have h2 := insAll_length (lt := ltB) (l := expT p.ifc) (m := p.ifc.vals.map Ve.name)
 have h3 := insAll_length (lt := ltB) (l := expV p.ifc) (m := p.ifc.als.map Al.name)
 have e1 : insAll ltB [] (p.ifc.types.map Te.name) = expT p.ifc := rfl
 have e2 : insAll ltB (expT p.ifc) (p.ifc.vals.map Ve.name) = expV p.ifc := rfl
 have e3 : insAll ltB (expV p.ifc) (p.ifc.als.map Al.name) = expR p.ifc := rfl
 rw [e1] at h1
 rw [e2] at h2
 rw [e3] at h3
 simp only [List.length_map,List.length_nil] at h1 h2 h3
 unfold expL wPb wIfy
 omega
theorem pbs_B3 {l : List Pb} (h : sumBy wPb l ≤ 1048576) (h1 : sumBy wPb l + 1 ≤ 1048576) : l.length + 1 ≤ 1048576 ∧ (∀ p ∈ l, PbN p) ∧ 2 * sumBy expL l ≤ 1048576 :=
 ⟨by have := length_le_sum wPb wpb_pos l; omega, fun p hp => pbN_of (Nat.le_trans (mem_sum wPb hp) h), by have := sumBy_le expL_le3 l; rw [sum_two] at this; omega⟩
theorem u8s_B {l : List Int} (h : sumBy (fun _ : Int => 1) l ≤ 1048576) : l.length ≤ 1048576 := Nat.le_trans (length_le_sum (fun _ : Int => 1) (fun _ => Nat.le_refl _) l) h
end Go.Proofs.YtcajnfkkokeeeaaGreatDoor
end

section
namespace Go.Proofs.YtcajnfkkokeeeaaGreatDoor
open Go.Eng
set_option maxRecDepth 100000
open Go.ChangeShapes Go.WideShapes Go.ChangeAt Go.RowKit
@[reducible] def gOf (n : Int) : Glob := { n := n, κ := fun _ => none, ok := fun j b hb => (by cases hb), g := some 0, tabs := fun _ => none }
theorem cell_int {W : World} {v : Value} (hok : Cell.ok Tryz.prog W .any 0 3 v) : ∃ n : Int, v = .int .i64 n := by
 unfold Cell.ok at hok
 rw [Tryz.underlying3] at hok
 cases v with
 | int k n => exact ⟨n, by rw [show k = .i64 from hok.1]⟩
 | _ => exact hok.elim
theorem maxLen_at {W : World} (hS : W.ShapedOpen Tryz.prog) : ∃ n : Int, W.cell? ⟨0, 0, none⟩ = some (.int .i64 n) := by
 have h0 : (((begin Tryz.prog (fun _ _ => 0) default).world.heap[0]?).bind Obj.row?) = some (#[.int .i64 0], 3) := by kernel_rfl
 obtain ⟨cs, hc, hz, hr⟩ := hS.1 0 _ _ (of_decide_eq_true (by kernel_rfl)) h0
 obtain ⟨ts, h1, -, h3⟩ := hr (by kernel_rfl)
 obtain rfl : [3] = ts := Option.some.inj ((show Tryz.prog.cellTypes Tryz.prog.depth 3 = some [3] by kernel_rfl).symm.trans h1)
 have hz' : cs.size = 1 := hz
 obtain ⟨v, hv⟩ : ∃ v, cs[0]? = some v := ⟨cs[0], Array.getElem?_eq_getElem (by omega)⟩
 obtain ⟨u, hu, hok⟩ := h3 0 v hv
 obtain rfl : 3 = u := by simpa using hu
 obtain ⟨n, rfl⟩ := cell_int hok
 exact ⟨n, by simp [World.cell?, hc, hv]⟩
theorem post_kept {H : Type} {enc : TypeId × Value → H} {P : Program} {f : Func} {s : ChangeSpec} {apart fresh handsOn again : Bool} {W W' : World} {args : Array Value} {v : Value} {ds gs : List (DataW H)} {before pa pv : List MemPlace}
  (hW : DataW.Whole enc P f.params.toList s.vars apart W args.toList ds gs before)
  (hres : ∀ (b : Nat) (sp : Nat → Bool) (hd : Bool), DataW.TrodAll enc P W' b sp hd f.resultTypes.toList (v.resultList f.resultTypes.size) (s.fn H (ds ++ gs)).results [])
  (hargs : ∀ sp : Nat → Bool, (∀ p ∈ before, sp p.block = true) → DataW.TrodAll enc P W' 0 sp true f.params.toList args.toList (s.fn H (ds ++ gs)).args pa)
  (hvars : ∀ sp : Nat → Bool, (∀ p ∈ before, sp p.block = true) → DataW.TrodVars enc P W' sp s.vars (s.fn H (ds ++ gs)).vars pv)
  (hps : before = pa ++ pv) (hb : Below W.heap.size W W')
  (hok : ∀ (j : Nat) (t : TypeId) (r : Value), f.resultTypes[j]? = some t → (v.resultList f.resultTypes.size)[j]? = some r → Value.okWide P W' .any 0 t r) :
  s.post enc P f apart fresh handsOn again W args v W' := by
 have hlt := hW.lt
 refine ⟨ds, gs, before, [], pa, pv, hW, hres _ _ _, hargs _ (fun p hp => by simpa using hlt p hp), hvars _ (fun p hp => by simpa using hlt p hp), hb.frame _, fun _ => ?_⟩
 obtain ⟨_, _, _, _, _, hz, hn⟩ := hW
 refine ⟨hok, _, _, ([] ++ pa) ++ pv, ⟨[] ++ pa, pv, trodAll_append (hargs _ (fun _ _ => rfl)) (hres _ _ _), hvars _ (fun _ _ => rfl), rfl, fun b off hp => ?_, fun ha => ?_⟩, fun p hp _ => ?_⟩
 ·have hp' : MemPlace.cell b off ∈ before := by rw [hps]; simpa using hp
  rw [hb.frozen (show (⟨b, off, none⟩ : Addr).block < W.heap.size from hlt _ hp')]
  exact hz b off hp'
 ·have := hn ha
  rw [hps] at this
  simpa using this
 ·rw [hps]
  simpa using hp
theorem rep_sl {F : Addr → Option Value} [Glob] {hg : Gl F} {rows : List V} {a : Option Addr} {l c : Nat} (h : Rd F hg [.slice rows] (Value.slice a l c).cells.toList) : Rep ⟨F, fun _ _ => none, hg⟩ (.slice rows) (.slice a l c) := h.1.2 0 _ _ rfl rfl
end Go.Proofs.YtcajnfkkokeeeaaGreatDoor
end

section
namespace Go.Proofs.YtcajnfkkokeeeaaGreatDoor
open Go.Eng
open Nat renaming reduceAdd → zA, reduceLT → zB, reduceLeDiff → zC, reduceMul → zD, reduceEqDiff → zE, reduceSub → zF
variable [Glob]
set_option maxHeartbeats 4000000
set_option maxRecDepth 100000
def nxV (n : ByteArray) : Ve := ⟨n, [], .mk 0 ⟨#[]⟩ ⟨#[]⟩ [] []⟩
def nxI (path : ByteArray) (ns : List ByteArray) : Ify := ⟨path, [], ns.map nxV, [], []⟩
def nxP (a : Pb) (path : ByteArray) (ns : List ByteArray) : Pb := ⟨⟨IntKind.i64.wrap (a.ver.mj + 1), 0, 0⟩, nxI path ns⟩
def lvB (lv : List Int) (i : Nat) : Bool := inU (IntKind.u8.wrap (i : Int)) lv
def alw (N R : List ByteArray) (lv : List Int) : Nat → Bool
 | 0 => true
 | k + 1 => alw N R lv k && (if lvB lv k = true then (match N[k]? with | some n => inB n R | none => true) else true)
theorem alw_iff {N R : List ByteArray} {lv : List Int} : ∀ {k : Nat}, alw N R lv k = true ↔ ∀ (i : Nat) (n : ByteArray), i < k → N[i]? = some n → lvB lv i = true → inB n R = true
 | 0 => ⟨fun _ i n h => absurd h (Nat.not_lt_zero i), fun _ => rfl⟩
 | k + 1 => by
  rw [alw, Bool.and_eq_true, alw_iff (k := k)]
  constructor
  ·rintro ⟨h1, h2⟩ i n hi hn hl
   by_cases hk : i = k
   ·subst hk
    rw [if_pos hl, hn] at h2; exact h2
   ·exact h1 i n (by omega) hn hl
  ·intro h
   refine ⟨fun i n hi hn hl => h i n (by omega) hn hl, ?_⟩
   split
   ·rename_i hl
    split
    ·rename_i n hn; exact h k n (by omega) hn hl
    ·rfl
   ·rfl
theorem alw_yes {N R : List ByteArray} {lv : List Int} {k : Nat} {n : ByteArray} (h : N[k]? = some n) (hl : lvB lv k = true) : alw N R lv (k + 1) = (alw N R lv k && inB n R) := by rw [alw, if_pos hl, h]
theorem alw_no {N R : List ByteArray} {lv : List Int} {k : Nat} (hl : lvB lv k = false) : alw N R lv (k + 1) = alw N R lv k := by rw [alw, if_neg (by simp [hl]), Bool.and_true]
theorem keptT_yes {N : List ByteArray} {lv : Nat → Bool} {k : Nat} (hl : lv k = true) : keptT N lv (k + 1) = keptT N lv k := by rw [keptT, if_pos hl, List.append_nil]
theorem keptT_no {N : List ByteArray} {lv : Nat → Bool} {k : Nat} {n : ByteArray} (h : N[k]? = some n) (hl : lv k = false) : keptT N lv (k + 1) = keptT N lv k ++ [n] := by rw [keptT, if_neg (by simp [hl]), h]; rfl
theorem keptT_le {N : List ByteArray} {lv : Nat → Bool} : ∀ k : Nat, (keptT N lv k).length ≤ k
 | 0 => Nat.le_refl _
 | k + 1 => by
  have := keptT_le (N := N) (lv := lv) k
  rw [keptT, List.length_append]
  split
  ·simp; omega
  ·have : (N[k]?.toList).length ≤ 1 := by cases N[k]? <;> simp
   omega
theorem keptT_mem' {N : List ByteArray} {lv : Nat → Bool} {k : Nat} {x : ByteArray} (h : x ∈ keptT N lv k) : x ∈ N := by
 obtain ⟨j, -, -, hj⟩ := keptT_mem.1 h
 exact List.mem_of_getElem? hj
theorem removes_law {l : List Pb} {a nx : Pb} {lv : List Int} {path : ByteArray} (ha : l[l.length - 1]? = some a) (hx : nx = nxP a path (keptT (expR a.ifc) (lvB lv) (expR a.ifc).length)) (hok : hisOk (l ++ [nx]) = true) (hm : a.ver.mj ≠ nx.ver.mj) :
  (decide (((vios (l ++ [nx])).length : Int) = ((vios l).length : Int)) == alw (expR a.ifc) (remL l) lv (expR a.ifc).length) = true := by
 have h1 := rem_law (a := a) (nx := nx) (lv := lvB lv) (by rw [hx]; rfl) (by rw [hx]; rfl) (by rw [hx]; simp [nxP, nxI, nxV, Function.comp_def]) hm
 have h2 : (violL a nx = [] ↔ alw (expR a.ifc) (remL l) lv (expR a.ifc).length = true) := by
  rw [h1, alw_iff, remL_at ha]
  constructor
  ·intro h i n hi hn hl
   rw [inB_iff, List.mem_filter]
   exact ⟨List.mem_of_getElem? hn, h i n hn hl⟩
  ·intro h i n hn hl
   have := h i n (List.getElem?_eq_some_iff.1 hn).1 hn hl
   rw [inB_iff, List.mem_filter] at this
   exact this.2
 rw [vios_snoc ha, List.length_append]
 rw [beq_iff_eq, Bool.eq_iff_iff, ← h2, decide_eq_true_eq]
 constructor
 ·intro h; exact List.length_eq_zero_iff.1 (by omega)
 ·intro h; rw [h]; simp
def nxC (n : ByteArray) : V := encVe (nxV n)
theorem nxC_mk (n : ByteArray) : V.agg [str n, .slice [], num 0, str ⟨#[]⟩, str ⟨#[]⟩, .slice [], .slice []] = nxC n := rfl
theorem first8 (a b c d e f g h : V) (r : List V) : firstOk (.agg [a, b, c, d, e, f, g, h] :: r) 0 8 = true := rfl
theorem app_all {l : List Pb} {x : Pb} (h : ∀ p ∈ l, PbN p) (hx : PbN x) : ∀ p ∈ l ++ [x], PbN p := fun p hp => by
 rcases List.mem_append.1 hp with hp | hp
 ·exact h p hp
 ·rw [List.mem_singleton] at hp; rw [hp]; exact hx
theorem nx_enc (a : Pb) (path : ByteArray) (ns : List ByteArray) : [nxP a path ns].map encPb = [.agg [num (IntKind.i64.wrap (a.ver.mj + 1)), num 0, num 0, str path, .slice [], .slice (ns.map nxC), .slice [], .slice []]] := by
 have e : (ns.map nxV).map encVe = ns.map nxC := by rw [List.map_map]; rfl
 show [V.agg [num (IntKind.i64.wrap (a.ver.mj + 1)), num 0, num 0, str path, .slice [], .slice ((ns.map nxV).map encVe), .slice [], .slice []]] = _
 rw [e]
theorem take_lenN (l : List ByteArray) : (l.map nxC).take l.length = l.map nxC := List.take_of_length_le (by simp)
theorem ev_beql (x y : Operand) (a b : Bool) : lift2 Tryz.prog (opB .eql 4 x y) (bl a) (bl b) = some (bl (a == b)) := by cases a <;> cases b <;> kernel_rfl
theorem cv35 (n : Int) : lift1 Tryz.prog (convert 3 5) (num n) = some (.sc (.int .u8 (IntKind.u8.wrap n))) := by kernel_rfl
theorem exp_mem_size {I : Ify} (h : IfN I) {x : ByteArray} (hx : x ∈ expR I) : x.size ≤ 1048576 := by
 unfold expR expV expT at hx
 rw [insAll_mem, insAll_mem, insAll_mem] at hx
 rcases hx with ((hx | hx) | hx) | hx
 ·cases hx
 ·obtain ⟨e, he, rfl⟩ := List.mem_map.1 hx; exact h.1 e he
 ·obtain ⟨e, he, rfl⟩ := List.mem_map.1 hx; exact h.2.1 e he
 ·obtain ⟨e, he, rfl⟩ := List.mem_map.1 hx; exact h.2.2 e he
theorem nx_exp (a : Pb) (path : ByteArray) (ns : List ByteArray) : expL (nxP a path ns) ≤ ns.length := by
 have h := insAll_length (lt := ltB) (l := []) (m := ns)
 have e : expR (nxP a path ns).ifc = insAll ltB [] ns := by
  have e2 : (nxP a path ns).ifc.vals.map Ve.name = ns := by simp [nxP, nxI, nxV, Function.comp_def]
  show insAll ltB (insAll ltB (insAll ltB [] []) ((nxP a path ns).ifc.vals.map Ve.name)) [] = _
  rw [e2]; rfl
 unfold expL
 rw [e]
 simpa using h
theorem nx_ok {a : Pb} {path : ByteArray} {ns : List ByteArray} (hp : path.size ≤ 1048576) (hl : ns.length ≤ 1048576) (hs : ∀ s ∈ ns, s.size ≤ 1048576) : PbN (nxP a path ns) := by
 have typ : ∀ t ∈ typesOf (nxP a path ns).ifc, t = .mk 0 ⟨#[]⟩ ⟨#[]⟩ [] [] := fun t ht => by
  have e : typesOf (nxP a path ns).ifc = (ns.map nxV).flatMap fun e => veT e e.params.length := by
   unfold typesOf preV preT; rw [List.take_length, List.take_length]; rfl
  rw [e] at ht
  obtain ⟨e, he, ht⟩ := List.mem_flatMap.1 ht
  obtain ⟨s, -, rfl⟩ := List.mem_map.1 he
  simpa [veT, nxV] using ht
 have tl : (typesOf (nxP a path ns).ifc).length = ns.length := by
  have e : typesOf (nxP a path ns).ifc = (ns.map nxV).flatMap fun e => veT e e.params.length := by
   unfold typesOf preV preT; rw [List.take_length, List.take_length]; rfl
  rw [e]
  have key : ∀ ns : List ByteArray, ((ns.map nxV).flatMap fun e => veT e e.params.length).length = ns.length := by
   intro ns
   induction ns with
   | nil => rfl
   | cons a t ih => rw [List.map_cons, List.flatMap_cons, List.length_append, ih, List.length_cons]; simp [veT, nxV]; omega
  exact key ns
 refine ⟨⟨hp, Nat.zero_le _, by simpa [nxP, nxI] using hl, Nat.zero_le _, Nat.zero_le _⟩, ⟨fun e he => (by cases he), fun e he => ?_, fun e he => (by cases he)⟩, by simpa [nxP, nxI] using hl, fun e he => (by cases he), fun e he => ?_, by rw [tl]; omega, fun t ht => by rw [typ t ht]; decide⟩
 ·obtain ⟨s, h, rfl⟩ := List.mem_map.1 (show e ∈ ns.map nxV from he); exact hs s h
 ·obtain ⟨s, -, rfl⟩ := List.mem_map.1 (show e ∈ ns.map nxV from he); exact Nat.zero_le _
theorem his_mj {l : List Pb} {a : Pb} {path : ByteArray} {ns : List ByteArray} (hok : hisOk l = true) (ha : l[l.length - 1]? = some a) : a.ver.mj ≠ (nxP a path ns).ver.mj := by
 have h0 : l.length - 1 < l.length := (List.getElem?_eq_some_iff.1 ha).1
 have h1 := hisOk_drop hok (l.length - 1)
 have h2 : l.drop (l.length - 1) = [a] := by rw [List.drop_eq_getElem_cons h0, (List.getElem?_eq_some_iff.1 ha).2, List.drop_eq_nil_of_le (by omega)]
 rw [h2] at h1
 have h3 : a.ver.ok = true := by
  cases e : a.ver.ok with
  | true => rfl
  | false => simp [hisOk, hisL, stepB, relB, e] at h1
 unfold Ver.ok okPart at h3
 simp only [Bool.and_eq_true,decide_eq_true_eq] at h3
 show a.ver.mj ≠ IntKind.i64.wrap (a.ver.mj + 1)
 rw [i64_c (a.ver.mj + 1) (a.ver.mj.toNat + 1) (by omega) (by omega)]
 omega
theorem lawRem_ok (hG : Glob.g = some 0) (haw : FnOk Tryz.prog 5 [] (bl true)) (l : List Pb) (path : ByteArray) (lv : List Int) (hl : l.length + 1 ≤ 1048576) (hb : ∀ p ∈ l, PbN p) (hN : 2 * sumBy expL l ≤ 1048576) (hp : path.size ≤ 1048576) (hlv : lv.length ≤ 1048576) : ∃ r_, (fun w => w = bl (true)) r_ ∧ FnOk Tryz.prog 4 [.slice (l.map encPb), str path, .slice (lv.map u8)] r_ := by
 refine vfn tt_ok [20] 119 [.tmp 6] (fn := Tryz.f4) Tryz.func4 rfl Tryz.call4 ⟨rfl, rfl, by simp⟩ fun K hK => ?_
 simp only [List.length_map,go_sem,reduceIte,zA,zB,zC,zD,zE,zF,reduceCtorEq]
 refine cF (⟨_, rfl, haw⟩) ?_
 rintro _ rfl
 simp only [List.length_map,go_sem,reduceIte,zA,zB,zC,zD,zE,zF,reduceCtorEq]
 refine cF (few_ok l (by omega) hb) ?_
 rintro _ ⟨b, rfl⟩
 simp only [List.length_map,go_sem,reduceIte,zA,zB,zC,zD,zE,zF,reduceCtorEq]
 refine gif (fun hb3_3 => ?_) (fun hb3_3 => ?_)
 ·simp only [List.length_map,go_sem,reduceIte,zA,zB,zC,zD,zE,zF,reduceCtorEq]
  first | exact hK _ rfl | exact hK _ (congrArg bl hlaw)
 ·simp only [List.length_map,go_sem,reduceIte,zA,zB,zC,zD,zE,zF,reduceCtorEq]
  refine gif (fun hb3_8 => ?_) (fun hb3_8 => ?_)
  ·simp only [List.length_map,go_sem,reduceIte,zA,zB,zC,zD,zE,zF,reduceCtorEq]
   first | exact hK _ rfl | exact hK _ (congrArg bl hlaw)
  ·simp only [List.length_map,go_sem,reduceIte,zA,zB,zC,zD,zE,zF,reduceCtorEq]
   refine gif (fun hc33 => ?_) (fun hc33 => ?_)
   ·simp only [List.length_map,go_sem,reduceIte,zA,zB,zC,zD,zE,zF,reduceCtorEq]
    first | exact hK _ rfl | exact hK _ (congrArg bl hlaw)
   ·rcases Bool.eq_false_or_eq_true (hisOk l) with hls | hls
    ·have h0 : 0 < l.length := Nat.pos_of_ne_zero fun h => by simp [h] at hb3_8
     simp only [List.length_map,go_sem,reduceIte,zA,zB,zC,zD,zE,zF,reduceCtorEq]
     refine cF (by have h := chk_ok hG l (by omega) hb (by omega); rw [chk_yes hls] at h; exact h) ?_
     rintro _ rfl
     simp only [List.length_map,go_sem,reduceIte,zA,zB,zC,zD,zE,zF,reduceCtorEq]
     refine cF (by have h := rem_ok hG l (by omega) hb (by omega); rw [rem_yes hls] at h; exact h) ?_
     rintro _ rfl
     have h0 : 0 < l.length := Nat.pos_of_ne_zero fun h => by simp [h] at hb3_8
     have hwm := hwm1 h0 (by omega)
     obtain ⟨x, hx⟩ : ∃ x, l[l.length - 1]? = some x := ⟨_, List.getElem?_eq_getElem (by omega)⟩
     have hxb := hb x (List.mem_of_getElem? hx)
     have hxl : (expR x.ifc).length ≤ 1048576 := by have h := sumBy_mem expL hx; unfold expL at h hN; omega
     simp only [hwm,hx,encPb,pbCells,List.getElem?_map,decide_true,Bool.not_true,List.length_map,go_sem,reduceIte,zA,zB,zC,zD,zE,zF,reduceCtorEq]
     refine cF (by have h := rexp_ok x.ifc hxb.all; simp only [encIf,ifCells] at h; exact h) ?_
     rintro _ rfl
     simp only [hwm,hx,encPb,pbCells,List.getElem?_map,decide_true,Bool.not_true,List.length_map,go_sem,reduceIte,zA,zB,zC,zD,zE,zF,reduceCtorEq]
     refine xnilBox 1 5 0 7 rfl rfl ?_
     refine xloop tt_ok [20] (fun a : Nat × Nat => [(0, .slice (l.map encPb)), (2, .slice (lv.map u8)), (7, .slice ((vios l).map encVio)), (9, .slice ((remL l).map str)), (12, .ptr 1 0), (14, bl (alw (expR x.ifc) (remL l) lv a.1)), (70, .slice ((expR x.ifc).map str)), (71, num (expR x.ifc).length), (72, num a.1)]) (fun a : Nat × Nat => [.box [num x.ver.mj, num x.ver.mn, num x.ver.pt, str x.ifc.path, .slice (x.ifc.types.map encTe), .slice (x.ifc.vals.map encVe), .slice (x.ifc.als.map encAl), .slice (x.ifc.deps.map encDp)], .box [num (IntKind.i64.wrap (x.ver.mj + 1)), num 0, num 0, str path, .sc (.slice none 0 0), .ms 2 a.2 0 (keptT (expR x.ifc) (lvB lv) a.1).length, .sc (.slice none 0 0), .sc (.slice none 0 0)], .rows a.2 7 ((keptT (expR x.ifc) (lvB lv) a.1).map nxC)]) (fun a => (expR x.ifc).length - a.1) (fun a => a.1 ≤ (expR x.ifc).length) ((0, 0)) 3 (lies (by omega) (by simp only [hwm,hx,encPb,pbCells,List.getElem?_map,decide_true,Bool.not_true,List.length_map,alw,keptT,List.map_nil,List.length_nil,List.length_map,Int.cast_ofNat_Int,go_sem,reduceIte,zA,zB,zC,zD,zE,zF,reduceCtorEq] <;> rfl)) (Nat.zero_le _) ?_
     intro ⟨k, w⟩ hk
     try dsimp only at hk
     try dsimp only
     intro Z1 hZ1
     simp only [hwm,hx,encPb,pbCells,List.getElem?_map,decide_true,Bool.not_true,List.length_map,go_sem,reduceIte,zA,zB,zC,zD,zE,zF,reduceCtorEq]
     refine gif (fun hc73 => ?_) (fun hc73 => ?_)
     ·have hltk : k < (expR x.ifc).length := by simpa using hc73
      have hwk := i64_succ k (by omega)
      obtain ⟨s, hs⟩ : ∃ s, (expR x.ifc)[k]? = some s := ⟨_, List.getElem?_eq_getElem hltk⟩
      rcases Bool.eq_false_or_eq_true (lvB lv k) with hls | hls
      ·simp only [hwm,hx,encPb,pbCells,List.getElem?_map,decide_true,Bool.not_true,hs,cv35,List.length_map,go_sem,reduceIte,zA,zB,zC,zD,zE,zF,reduceCtorEq]
       refine cF (ucont_ok lv _ hlv) ?_
       rintro _ rfl
       simp only [hwm,hx,encPb,pbCells,List.getElem?_map,decide_true,Bool.not_true,hs,cv35,List.length_map,go_sem,reduceIte,zA,zB,zC,zD,zE,zF,reduceCtorEq]
       refine gif (fun hc80 => ?_) (fun hc80 => ?_)
       ·simp only [hwm,hx,encPb,pbCells,List.getElem?_map,decide_true,Bool.not_true,hs,cv35,List.length_map,go_sem,reduceIte,zA,zB,zC,zD,zE,zF,reduceCtorEq]
        refine gif (fun hb17_1 => ?_) (fun hb17_1 => ?_)
        ·simp only [hwm,hx,encPb,pbCells,List.getElem?_map,decide_true,Bool.not_true,hs,cv35,List.length_map,go_sem,reduceIte,zA,zB,zC,zD,zE,zF,reduceCtorEq]
         refine cF (scont_ok (remL l) s (by rw [remL_at hx]; exact Nat.le_trans (List.length_filter_le _ _) hxl)) ?_
         rintro _ rfl
         simp only [hwm,hx,encPb,pbCells,List.getElem?_map,decide_true,Bool.not_true,hs,cv35,List.length_map,go_sem,reduceIte,zA,zB,zC,zD,zE,zF,reduceCtorEq]
         refine hZ1 _ ⟨(k + 1, w), ?_, ?_, lies (by omega) (by (simp only [List.length_map,hwk,alw_yes hs hls,keptT_yes hls,hb17_1,Bool.true_and,Bool.false_and,go_sem,reduceIte,zA,zB,zC,zD,zE,zF,reduceCtorEq]))⟩
         ·exact hltk
         ·dsimp only; omega
        ·simp only [hwm,hx,encPb,pbCells,List.getElem?_map,decide_true,Bool.not_true,hs,cv35,List.length_map,go_sem,reduceIte,zA,zB,zC,zD,zE,zF,reduceCtorEq]
         refine hZ1 _ ⟨(k + 1, w), ?_, ?_, lies (by omega) (by (simp only [List.length_map,hwk,alw_yes hs hls,keptT_yes hls,hb17_1,Bool.true_and,Bool.false_and,go_sem,reduceIte,zA,zB,zC,zD,zE,zF,reduceCtorEq]))⟩
         ·exact hltk
         ·dsimp only; omega
       ·(unfold lvB at hls; rw [hc80] at hls; cases hls)
      ·simp only [hwm,hx,encPb,pbCells,List.getElem?_map,decide_true,Bool.not_true,hs,cv35,List.length_map,go_sem,reduceIte,zA,zB,zC,zD,zE,zF,reduceCtorEq]
       refine cF (ucont_ok lv _ hlv) ?_
       rintro _ rfl
       simp only [hwm,hx,encPb,pbCells,List.getElem?_map,decide_true,Bool.not_true,hs,cv35,List.length_map,go_sem,reduceIte,zA,zB,zC,zD,zE,zF,reduceCtorEq]
       refine gif (fun hc80 => ?_) (fun hc80 => ?_)
       ·(unfold lvB at hls; rw [hc80] at hls; cases hls)
       ·have hple : (keptT (expR x.ifc) (lvB lv) k).length + 1 ≤ 34359738368 := by have := keptT_le (N := expR x.ifc) (lv := lvB lv) k; omega
        simp only [hwm,hx,encPb,pbCells,List.getElem?_map,decide_true,Bool.not_true,hs,cv35,hple,List.length_map,go_sem,reduceIte,zA,zB,zC,zD,zE,zF,reduceCtorEq]
        refine hZ1 _ ⟨(k + 1, w + 1), ?_, ?_, lies (by omega) (by (simp only [List.length_map,hwk,alw_no hls,keptT_no hs hls,len1,map1,nxC_mk,go_sem,reduceIte,zA,zB,zC,zD,zE,zF,reduceCtorEq]))⟩
        ·exact hltk
        ·dsimp only; omega
     ·have hgek : k = (expR x.ifc).length := by have := of_decide_eq_false hc73; omega
      rw [hgek]
      obtain ⟨nx, hnx⟩ : ∃ nx, nx = nxP x path (keptT (expR x.ifc) (lvB lv) (expR x.ifc).length) := ⟨_, rfl⟩
      obtain ⟨ns, hns⟩ : ∃ ns, ns = keptT (expR x.ifc) (lvB lv) (expR x.ifc).length := ⟨_, rfl⟩
      have hnl : ns.length ≤ (expR x.ifc).length := hns ▸ keptT_le _
      have hnb : PbN nx := by rw [hnx, ← hns]; exact nx_ok hp (by omega) fun s hs => exp_mem_size hxb.n (keptT_mem' (hns ▸ hs))
      have hmj : x.ver.mj ≠ nx.ver.mj := by rw [hnx]; exact his_mj hls hx
      have hmap : (l ++ [nx]).map encPb = l.map encPb ++ [.agg [num (IntKind.i64.wrap (x.ver.mj + 1)), num 0, num 0, str path, .slice [], .slice (ns.map nxC), .slice [], .slice []]] := by rw [List.map_append, hnx, ← hns, nx_enc]
      have hsum : sumBy expL (l ++ [nx]) ≤ 1048576 := by have h1 := sumBy_mem expL hx; have h2 := nx_exp x path ns; rw [sumBy_append, hnx, ← hns]; simp only [sumBy]; unfold expL at h1 h2 hN ⊢; omega
      rw [← hns]
      rcases Bool.eq_false_or_eq_true (hisOk (l ++ [nx])) with hln | hln
      ·simp only [hwm,hx,encPb,pbCells,List.getElem?_map,decide_true,Bool.not_true,List.length_map,go_sem,reduceIte,zA,zB,zC,zD,zE,zF,reduceCtorEq]
       have hl3 : l.length ≤ 34359738368 := by omega
       have hl4 : l.length + 1 ≤ 34359738368 := by omega
       obtain ⟨_, rfl, hcon⟩ := chk_ok hG (l ++ [nx]) (by simpa using hl) (app_all hb hnb) hsum
       rw [chk_yes hln, hmap] at hcon
       refine xfrzCells (k := 1) (vs' := [num (IntKind.i64.wrap (x.ver.mj + 1)), num 0, num 0, str path, .slice [], .slice (ns.map nxC), .slice [], .slice []]) rfl (by simp [purL, pur1, purCell, nilS, take_lenN]) ?_
       refine xmix tt_ok [20] mixed_ok [⟨.a, 0, [], [], []⟩, ⟨.n, 0, [], [], []⟩, ⟨.w, 1, [], [0,1], []⟩, ⟨.b, 0, [], [], []⟩, ⟨.n, 0, [], [3], []⟩, ⟨.w, 2, [], [0,1,2,3,4], []⟩, ⟨.z, 0, [], [0,1,2,3,4,5], []⟩, ⟨.n, 0, [], [0,1,2,3,4,5,6], []⟩, ⟨.n, 0, [], [0,1,2,3,4,5,6,7], []⟩, ⟨.n, 0, [], [0,1,2,3,4,5,6,7], []⟩, ⟨.n, 0, [], [0,1,2,3,4,5,6,7,8], []⟩, ⟨.n, 0, [], [0,1,2,3,4,5,6,7,8,9,10], []⟩] 3 (by kernel_rfl) ?_
       simp only [hwm,hx,encPb,pbCells,List.getElem?_map,decide_true,Bool.not_true,firstPb,hl3,hl4,first8,List.length_map,go_sem,reduceIte,zA,zB,zC,zD,zE,zF,reduceCtorEq]
       refine cGZ (hcon) ?_
       have hlaw := removes_law (lv := lv) hx hnx hln hmj
       simp only [hwm,hx,encPb,pbCells,List.getElem?_map,decide_true,Bool.not_true,firstPb,hl3,hl4,first8,Bool.not_true,decide_true,ev_beql,List.length_map,go_sem,reduceIte,zA,zB,zC,zD,zE,zF,reduceCtorEq]
       first | exact hK _ rfl | exact hK _ (congrArg bl hlaw)
      ·simp only [hwm,hx,encPb,pbCells,List.getElem?_map,decide_true,Bool.not_true,List.length_map,go_sem,reduceIte,zA,zB,zC,zD,zE,zF,reduceCtorEq]
       have hl3 : l.length ≤ 34359738368 := by omega
       have hl4 : l.length + 1 ≤ 34359738368 := by omega
       obtain ⟨_, rfl, hcon⟩ := chk_ok hG (l ++ [nx]) (by simpa using hl) (app_all hb hnb) hsum
       rw [chk_no hln, hmap] at hcon
       refine xfrzCells (k := 1) (vs' := [num (IntKind.i64.wrap (x.ver.mj + 1)), num 0, num 0, str path, .slice [], .slice (ns.map nxC), .slice [], .slice []]) rfl (by simp [purL, pur1, purCell, nilS, take_lenN]) ?_
       refine xmix tt_ok [20] mixed_ok [⟨.a, 0, [], [], []⟩, ⟨.n, 0, [], [], []⟩, ⟨.w, 1, [], [0,1], []⟩, ⟨.b, 0, [], [], []⟩, ⟨.n, 0, [], [3], []⟩, ⟨.w, 2, [], [0,1,2,3,4], []⟩, ⟨.z, 0, [], [0,1,2,3,4,5], []⟩, ⟨.n, 0, [], [0,1,2,3,4,5,6], []⟩, ⟨.n, 0, [], [0,1,2,3,4,5,6,7], []⟩, ⟨.n, 0, [], [0,1,2,3,4,5,6,7], []⟩, ⟨.n, 0, [], [0,1,2,3,4,5,6,7,8], []⟩, ⟨.n, 0, [], [0,1,2,3,4,5,6,7,8,9,10], []⟩] 3 (by kernel_rfl) ?_
       simp only [hwm,hx,encPb,pbCells,List.getElem?_map,decide_true,Bool.not_true,firstPb,hl3,hl4,first8,List.length_map,go_sem,reduceIte,zA,zB,zC,zD,zE,zF,reduceCtorEq]
       refine cGZ (hcon) ?_
       simp only [hwm,hx,encPb,pbCells,List.getElem?_map,decide_true,Bool.not_true,firstPb,hl3,hl4,first8,d10,Bool.not_false,decide_true,Int.natCast_zero,List.length_map,go_sem,reduceIte,zA,zB,zC,zD,zE,zF,reduceCtorEq]
       first | exact hK _ rfl | exact hK _ (congrArg bl hlaw)
    ·simp only [List.length_map,go_sem,reduceIte,zA,zB,zC,zD,zE,zF,reduceCtorEq]
     refine cF (by have h := chk_ok hG l (by omega) hb (by omega); rw [chk_no hls] at h; exact h) ?_
     rintro _ rfl
     simp only [List.length_map,go_sem,reduceIte,zA,zB,zC,zD,zE,zF,reduceCtorEq]
     refine cF (by have h := rem_ok hG l (by omega) hb (by omega); rw [rem_no hls] at h; exact h) ?_
     rintro _ rfl
     have h0 : 0 < l.length := Nat.pos_of_ne_zero fun h => by simp [h] at hb3_8
     have hwm := hwm1 h0 (by omega)
     obtain ⟨x, hx⟩ : ∃ x, l[l.length - 1]? = some x := ⟨_, List.getElem?_eq_getElem (by omega)⟩
     have hxb := hb x (List.mem_of_getElem? hx)
     have hxl : (expR x.ifc).length ≤ 1048576 := by have h := sumBy_mem expL hx; unfold expL at h hN; omega
     simp only [hwm,hx,encPb,pbCells,List.getElem?_map,d10,Bool.not_false,decide_true,List.length_map,go_sem,reduceIte,zA,zB,zC,zD,zE,zF,reduceCtorEq]
     first | exact hK _ rfl | exact hK _ (congrArg bl hlaw)
end Go.Proofs.YtcajnfkkokeeeaaGreatDoor
end

section
namespace Go.Proofs.YtcajnfkkokeeeaaGreatDoor.lawDeprecateRemoves
open Go.Eng
set_option maxRecDepth 100000
open Go.ChangeShapes Go.WideShapes Go.ChangeAt Go.RowKit
theorem contract (H : Type) (enc : TypeId × Value → H) (W : World) (args : Array Value) (ds gs : List (DataW H)) (before : List MemPlace) (base : Nat)
  (hok : ∀ (j : Nat) t v, Tryz.f4.params[j]? = some t → args[j]? = some v → Value.okWide Tryz.prog W .any base t v)
  (hW : DataW.Whole enc Tryz.prog Tryz.f4.params.toList Rows.deprecateRemovesSpec.vars false W args.toList ds gs before) (hb : Rows.uptoBulkAll (ds ++ gs) ≤ 1048576) (hS : W.ShapedOpen Tryz.prog) :
  Calls Tryz.prog 4 args W fun e W' => ∃ v, e = .returned v ∧ Rows.deprecateRemovesSpec.post enc Tryz.prog Tryz.f4 false true false false W args v W' := by
 have hW' := hW
 have hlt := hW.lt
 obtain ⟨p, q, hA0, hV, rfl, hfz, hnd⟩ := hW
 have hA : DataW.TrodAll enc Tryz.prog W 0 (fun _ => true) true Tryz.f4.params.toList args.toList ds p := hA0
 rw [Tryz.params4] at hA
 obtain ⟨v0, vs0, d0, ds0, p0, q0, hargs, rfl, rfl, h0, r0⟩ := trodAll_cons hA
 obtain ⟨v1, vs1, d1, ds1, p1, q1, rfl, rfl, rfl, h1, r1⟩ := trodAll_cons r0
 obtain ⟨v2, vs2, d2, ds2, p2, q2, rfl, rfl, rfl, h2, r2⟩ := trodAll_cons r1
 obtain ⟨rfl, rfl, rfl⟩ := trodAll_nil r2
 obtain rfl : args = #[v0, v1, v2] := by cases args; simp_all
 obtain ⟨rfl, rfl⟩ := trodVars_none hV
 rw [Tryz.params4] at hok
 obtain ⟨a0, l0, c0, rfl⟩ := okWide_slice Tryz.underlying22 (hok 0 22 v0 rfl rfl)
 obtain ⟨s1, rfl⟩ := okWide_string Tryz.underlying9 (hok 1 9 v1 rfl rfl)
 obtain ⟨a2, l2, c2, rfl⟩ := okWide_slice Tryz.underlying35 (hok 2 35 v2 rfl rfl)
 clear hok
 clear hA0 hA r0 r1 r2 hargs hV
 simp only [List.append_nil] at hW' hlt
 simp only [ltb,List.append_nil,Rows.uptoBulkAll] at hb
 have h0' := h0
 have h1' := h1
 have h2' := h2
 obtain ⟨f0, h0⟩ := h0
 obtain ⟨f2, h2⟩ := h2
 have main : Calls Tryz.prog 4 #[.slice a0 l0 c0, .string s1, .slice a2 l2 c2] W fun e W' => e = .returned (.bool true) ∧ Below W.heap.size W W' := by
  obtain ⟨n, hn⟩ := maxLen_at hS
  have go : ∀ (G : Glob) (hG : G.g = some 0) (hg : @Gl G W.cell?), Calls Tryz.prog 4 #[.slice a0 l0 c0, .string s1, .slice a2 l2 c2] W fun e W' => e = .returned (.bool true) ∧ Below W.heap.size W W' := fun G hG hg => by
   have haw : FnOk Tryz.prog 5 [] (bl true) := awake_ok hG
   obtain ⟨x0, hx0, b0⟩ := rd_Pbs (F := W.cell?) (hg := hg) rfl h0
   obtain ⟨x1, ht1, b1⟩ := rd_str (F := W.cell?) (hg := hg) (Exists.choose_spec h1)
   have e1 : x1 = s1 := by have h := rep_sc (ht1.1.2 0 _ _ rfl rfl); exact (Value.string.inj h).symm
   subst e1
   obtain ⟨x2, hx2, b2⟩ := rd_u8s (F := W.cell?) (hg := hg) rfl h2
   obtain ⟨rr, hrr, hc⟩ : ∃ r_, r_ = bl true ∧ FnOk Tryz.prog 4 [.slice (x0.map encPb), str x1, .slice (x2.map fun n : Int => V.sc (.int .u8 n))] r_ := by
    obtain ⟨r_, h1, h2⟩ := lawRem_ok hG haw x0 x1 x2 (pbs_B3 (by omega) (by omega)).1 (pbs_B3 (by omega) (by omega)).2.1 (pbs_B3 (by omega) (by omega)).2.2 (by omega) (u8s_B (by omega))
    exact ⟨r_, h1, h2⟩
   subst hrr
   refine (hc.2 W.cell? hg W #[.slice a0 l0 c0, .string x1, .slice a2 l2 c2] (fun _ _ h => h) ?_).mono fun o W' h => ?_
   ·exact .cons (rep_sl hx0) (.cons (.sc _ _) (.cons (rep_sl hx2) (.nil _)))
   ·obtain ⟨F', x, rfl, -, -, -, ⟨hg', hx⟩, hbel⟩ := h
    obtain rfl := rep_sc hx
    exact ⟨rfl, hbel⟩
  exact go (gOf n) rfl (@Gl.mk (gOf n) _ (fun g hg => by cases hg; exact hn) (fun g cs j x h => by cases h))
 refine main.mono fun e W' ⟨he, hbel⟩ => ?_
 subst he
 have hlaid : laidOutB Tryz.prog = true := by kernel_rfl
 refine ⟨_, rfl, post_kept (pa := p0 ++ (p1 ++ (p2 ++ []))) (pv := []) hW' (fun _ _ _ => trodAll_cons_mk (shut_bool Tryz.underlying4 _) trodAll_mk0) (fun sp hsp => ?_) (fun _ _ => rfl) (by simp)
  hbel (ok_one (by kernel_rfl) rfl (okWide_bool_mk Tryz.underlying4 _))⟩
 ·refine trodAll_cons_mk (WideElems.Trod_stays hlaid (by kernel_rfl) (of_decide_eq_true (by kernel_rfl)) h0' (fun x hx => hbel.same (hlt x (by simp [hx]))) (fun x hx => hsp x (by simp [hx])))
   (trodAll_cons_mk (WideElems.Trod_stays hlaid (by kernel_rfl) (of_decide_eq_true (by kernel_rfl)) h1' (fun x hx => hbel.same (hlt x (by simp [hx]))) (fun x hx => hsp x (by simp [hx])))
   (trodAll_cons_mk (WideElems.Trod_stays hlaid (by kernel_rfl) (of_decide_eq_true (by kernel_rfl)) h2' (fun x hx => hbel.same (hlt x (by simp [hx]))) (fun x hx => hsp x (by simp [hx])))
   trodAll_mk0))
end Go.Proofs.YtcajnfkkokeeeaaGreatDoor.lawDeprecateRemoves
end

section
namespace Go.Proofs.YtcajnfkkokeeeaaGreatDoor
open Go.ChangeShapes Go.WideShapes Go.ChangeAt Go.RowKit
theorem own : ownKnob Tryz.prog.godebug = none := by kernel_rfl
def layAs (cs : Array Value) : Obj → Obj
 | .cells _ t frozen => .cells cs t frozen
 | o => o
def accZ : List Nat := [128,191,160,191,128,159,144,191,128,143,0,0,0,0,0,0,0,0,0,0,0,0,0,0,0,0,0,0,0,0,0,0]
noncomputable def laidWorld (os : Os) : World :=
 { World.holding Tryz.prog os ⟨#[], #[], []⟩ with heap := ((World.holding Tryz.prog os ⟨#[], #[], []⟩).heap.modify 1 (layAs ⟨Pinned.utf8FirstZ.map fun n => Value.int .u8 (Int.ofNat n)⟩)).modify 2 (layAs ⟨accZ.map fun n => Value.int .u8 (Int.ofNat n)⟩) }
end Go.Proofs.YtcajnfkkokeeeaaGreatDoor
end
