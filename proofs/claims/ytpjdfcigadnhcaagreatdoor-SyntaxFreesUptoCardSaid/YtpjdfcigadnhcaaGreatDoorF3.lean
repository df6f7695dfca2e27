/-
  CONTRACTS: bytealg.IndexRabinKarp: what its text computes, as a function.
-/
import Derived.Test.YtpjdfcigadnhcaaGreatDoorF2
set_option linter.all false
section
namespace Go.Proofs.YtpjdfcigadnhcaaGreatDoor
open Go.Eng
open Nat (reduceAdd reduceLT reduceLeDiff reduceMul reduceEqDiff reduceSub)
variable [Glob]
set_option maxRecDepth 100000
set_option maxHeartbeats 2000000
abbrev u32 (n : Int) : V := .sc (.int .u32 n)
def w32 (n : Int) : Int := IntKind.u32.wrap n
def bAt (s : ByteArray) (i : Nat) : Int := match s[i]? with | some c => (c.toNat : Int) | none => 0
theorem bAt_eq {s : ByteArray} {i : Nat} {c : UInt8} (h : s[i]? = some c) : (c.toNat : Int) = bAt s i := by simp [bAt, h]
theorem get_byte {s : ByteArray} {i : Nat} (h : i < s.size) : ∃ c, s[i]? = some c := ⟨s[i], by simp [getElem?_pos, h]⟩
def rkH (s : ByteArray) : Nat → Int
 | 0 => 0
 | i + 1 => w32 (w32 (rkH s i * 16777619) + w32 (bAt s i))
def rkL (s t : ByteArray) (hs pow : Int) (n : Nat) : Nat → Nat → Int → Int
 | 0, _, _ => -1
 | f + 1, i, h =>
  if decide (w32 (w32 (w32 (h * 16777619) + w32 (bAt s i)) - w32 (pow * w32 (bAt s (i - n)))) = hs) && ((s.extract (i + 1 - n) (i + 1)).toList == t.toList) then ((i + 1 - n : Nat) : Int)
  else rkL s t hs pow n f (i + 1) (w32 (w32 (w32 (h * 16777619) + w32 (bAt s i)) - w32 (pow * w32 (bAt s (i - n)))))
def rkRun (s t : ByteArray) (hs pow : Int) : Int :=
 if decide (rkH s t.size = hs) && ((s.extract 0 t.size).toList == t.toList) then 0 else rkL s t hs pow t.size (s.size - t.size) t.size (rkH s t.size)

theorem rk_ok (s t : ByteArray) (hs pow : Int) (h214 : FnOk Tryz.prog 214 [str t] (.tup [u32 hs, u32 pow])) (hts : t.size ≤ s.size) (hsz : s.size ≤ 1152921504606846975) :
  FnOk Tryz.prog 206 [str s, str t] (num (rkRun s t hs pow)) := by
 have hT : Tryz.prog.underlying 9 = some .string := by kernel_rfl
 have hT5 : Tryz.prog.underlying 5 = some (.int .u8) := by kernel_rfl
 have hT160 : Tryz.prog.underlying 160 = some (.int .u32) := by kernel_rfl
 have cv := fun (k : IntKind) (n : Int) => ev_conv (P := Tryz.prog) (src := 5) (dst := 160) hT5 hT160 k n
 have sl : ∀ (a : ByteArray) (ty : TypeId), liftL Tryz.prog (Builtin.len_ #[9] ty) [.sc (.string a)] = some (num a.size) := fun a ty => ev_slen (P := Tryz.prog) (tt := tt) (T := 9) a hT ty
 refine fn_ok tt_ok (fn := Tryz.f206) Tryz.func206 rfl Tryz.call206 ?_
 simp only [ltb,startSt,Tryz.ntmps206,List.length_cons,List.length_nil,reduceAdd,reduceSub,List.replicate_succ,List.replicate_zero]
 obtain ⟨n, hn⟩ : ∃ n, n = t.size := ⟨_, rfl⟩
 refine tri_seq_region tt_ok fun K hK => ?_
 simp only [go_sem,reduceIte,reduceAdd,reduceLT,reduceLeDiff,reduceMul,reduceEqDiff,reduceSub,reduceCtorEq]
 refine hK _ ?_
 refine tri_seq_region tt_ok fun K hK => ?_
 simp only [go_sem,reduceIte,reduceAdd,reduceLT,reduceLeDiff,reduceMul,reduceEqDiff,reduceSub,reduceCtorEq]
 refine .inl ⟨_, _, by simp only [go_sem,reduceIte,reduceAdd,reduceLT,reduceLeDiff,reduceMul,reduceEqDiff,reduceSub,reduceCtorEq,List.take_length], h214, ?_⟩
 try simp only [go_sem,reduceIte,reduceAdd,reduceLT,reduceLeDiff,reduceMul,reduceEqDiff,reduceSub,reduceCtorEq]
 refine hK _ ?_
 refine tri_seq_region tt_ok fun K hK => ?_
 simp only [sl,go_sem,reduceIte,reduceAdd,reduceLT,reduceLeDiff,reduceMul,reduceEqDiff,reduceSub,reduceCtorEq]
 refine hK _ ?_
 refine tri_seq_region tt_ok fun K hK => ?_
 simp only [go_sem,reduceIte,reduceAdd,reduceLT,reduceLeDiff,reduceMul,reduceEqDiff,reduceSub,reduceCtorEq]
 refine hK _ ?_
 refine tri_seq ?_
 refine tri_seq_region tt_ok fun K hK => ?_
 simp only [go_sem,reduceIte,reduceAdd,reduceLT,reduceLeDiff,reduceMul,reduceEqDiff,reduceSub,reduceCtorEq]
 refine hK _ ?_
 refine tri_block (tri_loop_inv (fun N st => ∃ (i : Nat), N = n - i ∧ i ≤ n ∧
  st = { fr := [str s, str t, .undef, .undef, .undef, u32 hs, u32 pow, num n, u32 (rkH s i), num i] ++ List.replicate 71 .undef, mem := [] }) n ?_ ?_)
 ·exact ⟨0, [true,true,false,false,false,true,true,true,true,true], by omega, by simp only [maskFr,belowV,belowL,belowB,reduceLT,mkb], rfl, 0, by omega, by omega, by subst hn; simp only [maskFr,rkH,List.replicate_succ,List.replicate_zero,List.cons_append,List.nil_append,mkb]; rfl⟩
 ·rintro N' st ⟨i, rfl, hi, rfl⟩
  simp only [ltb,List.replicate_succ,List.replicate_zero]
  refine tri_seq ?_
  by_cases hlt : i < n
  ·have hd := lt_dec hlt
   obtain ⟨c, hc⟩ := get_byte (s := s) (i := i) (by omega)
   have ix := ev_index (P := Tryz.prog) (T := 9) s hT .i64 (i : Int) (by omega) (c := c) (by simpa using hc)
   have hw2 := i64_succ i (by omega)
   refine tri_seq_region tt_ok fun K hK => ?_
   simp only [hd,go_sem,reduceIte,reduceAdd,reduceLT,reduceLeDiff,reduceMul,reduceEqDiff,reduceSub,reduceCtorEq]
   refine hK _ ?_
   refine tri_cond rfl (tri_skip ?_)
   refine tri_seq (tri_block ?_)
   refine tri_last_region tt_ok fun K hK => ?_
   simp only [ix,cv,go_sem,reduceIte,reduceAdd,reduceLT,reduceLeDiff,reduceMul,reduceEqDiff,reduceSub,reduceCtorEq]
   refine hK _ ?_
   refine tri_last_region tt_ok fun K hK => ?_
   simp only [go_sem,reduceIte,reduceAdd,reduceLT,reduceLeDiff,reduceMul,reduceEqDiff,reduceSub,reduceCtorEq]
   refine hK _ ?_
   rw [hw2]
   refine ⟨n - (i + 1), by omega, 0, [true,true,false,false,false,true,true,true,true,true], by omega, by simp only [maskFr,belowV,belowL,belowB,reduceLT,mkb], rfl, i + 1, rfl, hlt, ?_⟩
   simp only [rkH,w32,← bAt_eq hc]; rfl
  ·have hd := ge_dec hlt
   refine tri_seq_region tt_ok fun K hK => ?_
   simp only [hd,go_sem,reduceIte,reduceAdd,reduceLT,reduceLeDiff,reduceMul,reduceEqDiff,reduceSub,reduceCtorEq]
   refine hK _ ?_
   refine tri_cond rfl (tri_exit ?_)
   have hie : i = n := by omega
   subst hie
   show Tri _ _ _ _ _ _
   have ct : lift2 Tryz.prog (fun a h => Instr.sliceAt 9 a none (some h) none) (.sc (.string s)) (.sc (.int .i64 (i : Int))) = some (.sc (.string (s.extract 0 i))) :=
    ev_cutto (P := Tryz.prog) (tt := tt) (mem := []) (T := 9) s hT .i64 (i : Int) (by omega) (by omega)
   have hR : rkRun s t hs pow = if decide (rkH s i = hs) && ((s.extract 0 i).toList == t.toList) then 0 else rkL s t hs pow i (s.size - i) i (rkH s i) := by unfold rkRun; rw [← hn]
   obtain ⟨b, hb⟩ : ∃ b, b = (decide (rkH s i = hs) && ((s.extract 0 i).toList == t.toList)) := ⟨_, rfl⟩
   rw [← hb] at hR
   cases b with
   | true =>
    simp only [if_true] at hR
    obtain ⟨b1, b2⟩ : decide (rkH s i = hs) = true ∧ ((s.extract 0 i).toList == t.toList) = true := by simpa using hb.symm
    refine tri_seq ?_
    refine tri_seq_region tt_ok fun K hK => ?_
    simp only [b1,b2,ct,go_sem,reduceIte,reduceAdd,reduceLT,reduceLeDiff,reduceMul,reduceEqDiff,reduceSub,reduceCtorEq]
    refine hK _ ?_
    refine tri_cond rfl ?_
    refine tri_seq_region tt_ok fun K hK => ?_
    simp only [go_sem,reduceIte,reduceAdd,reduceLT,reduceLeDiff,reduceMul,reduceEqDiff,reduceSub,reduceCtorEq]
    refine hK _ ?_
    refine tri_ret ⟨.inl rfl, ?_⟩
    rw [hR]; rfl
   | false =>
    simp only [Bool.false_eq_true,if_false] at hR
    have hbb : decide (rkH s i = hs) = true → ((s.extract 0 i).toList == t.toList) = false := fun ht => by rw [ht] at hb; simpa using hb.symm
    refine tri_seq ?_
    obtain ⟨q1, hq1⟩ : ∃ q, q = decide (rkH s i = hs) := ⟨_, rfl⟩
    cases q1
    have b1 := hq1.symm
    refine tri_seq_region tt_ok fun K hK => ?_
    simp only [b1,ct,go_sem,reduceIte,reduceAdd,reduceLT,reduceLeDiff,reduceMul,reduceEqDiff,reduceSub,reduceCtorEq]
    refine hK _ ?_
    refine tri_cond rfl (tri_skip ?_)
    show Tri _ _ _ _ _ _
    refine tri_mask 0 [true,true,false,false,false,true,true,true,true] (by omega) (by simp only [maskFr,belowV,belowL,belowB,reduceLT,mkb]) rfl ?_
    simp only [maskFr,mkb]
    rotate_left
    have b1 := hq1.symm
    have b3 := hbb b1
    refine tri_seq_region tt_ok fun K hK => ?_
    simp only [b1,b3,ct,go_sem,reduceIte,reduceAdd,reduceLT,reduceLeDiff,reduceMul,reduceEqDiff,reduceSub,reduceCtorEq]
    refine hK _ ?_
    refine tri_cond rfl (tri_skip ?_)
    show Tri _ _ _ _ _ _
    refine tri_mask 0 [true,true,false,false,false,true,true,true,true] (by omega) (by simp only [maskFr,belowV,belowL,belowB,reduceLT,mkb]) rfl ?_
    simp only [maskFr,mkb]
    all_goals
     refine tri_seq ?_
     refine tri_seq_region tt_ok fun K hK => ?_
     simp only [go_sem,reduceIte,reduceAdd,reduceLT,reduceLeDiff,reduceMul,reduceEqDiff,reduceSub,reduceCtorEq]
     refine hK _ ?_
     refine tri_block (tri_loop_inv (fun N st => ∃ (j : Nat) (h : Int), N = s.size - j ∧ i ≤ j ∧ j ≤ s.size ∧ rkRun s t hs pow = rkL s t hs pow i (s.size - j) j h ∧
      st = { fr := [str s, str t, .undef, .undef, .undef, u32 hs, u32 pow, num i, u32 h, .undef, num j] ++ List.replicate 70 .undef, mem := [] }) (s.size - i) ?_ ?_)
     ·exact ⟨0, [true,true,false,false,false,true,true,true,true,false,true], by omega, by simp only [maskFr,belowV,belowL,belowB,reduceLT,mkb], rfl, i, rkH s i, rfl, by omega, by omega, hR, rfl⟩
     ·rintro N' st ⟨j, h, rfl, hij, hj, hRj, rfl⟩
      simp only [ltb,List.replicate_succ,List.replicate_zero]
      refine tri_seq ?_
      by_cases hlt : j < s.size
      ·have hd := lt_dec hlt
       obtain ⟨c, hc⟩ := get_byte (s := s) (i := j) (by omega)
       obtain ⟨c', hc'⟩ := get_byte (s := s) (i := j - i) (by omega)
       have ix := ev_index (P := Tryz.prog) (T := 9) s hT .i64 (j : Int) (by omega) (c := c) (by simpa using hc)
       have ix' := ev_index (P := Tryz.prog) (T := 9) s hT .i64 ((j - i : Nat) : Int) (by omega) (c := c') (by simpa using hc')
       have hw2 := i64_succ j (by omega)
       have hw3 : IntKind.i64.wrap ((j : Int) - (i : Int)) = ((j - i : Nat) : Int) := by rw [IntWalk.i64_in _ (by omega)]; omega
       have hw4 : IntKind.i64.wrap (((j + 1 : Nat) : Int) - (i : Int)) = ((j + 1 - i : Nat) : Int) := by rw [IntWalk.i64_in _ (by omega)]; omega
       have cm : lift2 Tryz.prog (fun a l => Instr.sliceAt 9 a (some l) (some (.int .i64 ((j + 1 : Nat) : Int))) none) (.sc (.string s)) (.sc (.int .i64 ((j + 1 - i : Nat) : Int))) = some (.sc (.string (s.extract (j + 1 - i) (j + 1)))) :=
        ev_cutmid (P := Tryz.prog) (tt := tt) (mem := []) (T := 9) s hT .i64 .i64 ((j + 1 - i : Nat) : Int) ((j + 1 : Nat) : Int) (by omega) (by omega) (by omega)
       obtain ⟨h2, hh2⟩ : ∃ h2, h2 = w32 (w32 (w32 (h * 16777619) + w32 (bAt s j)) - w32 (pow * w32 (bAt s (j - i)))) := ⟨_, rfl⟩
       have hl : rkL s t hs pow i (s.size - j) j h = if decide (h2 = hs) && ((s.extract (j + 1 - i) (j + 1)).toList == t.toList) then ((j + 1 - i : Nat) : Int) else rkL s t hs pow i (s.size - (j + 1)) (j + 1) h2 := by
        obtain ⟨f, hf⟩ : ∃ f, s.size - j = f + 1 := ⟨s.size - j - 1, by omega⟩
        rw [hf, show s.size - (j + 1) = f from by omega, hh2]; rfl
       rw [hl] at hRj
       have hh2' : IntKind.u32.wrap (IntKind.u32.wrap (IntKind.u32.wrap (h * 16777619) + IntKind.u32.wrap ↑c.toNat) - IntKind.u32.wrap (pow * IntKind.u32.wrap ↑c'.toNat)) = h2 := by
        rw [hh2, ← bAt_eq hc, ← bAt_eq hc']; rfl
       refine tri_seq_region tt_ok fun K hK => ?_
       simp only [hd,sl,go_sem,reduceIte,reduceAdd,reduceLT,reduceLeDiff,reduceMul,reduceEqDiff,reduceSub,reduceCtorEq]
       refine hK _ ?_
       refine tri_cond rfl (tri_skip ?_)
       refine tri_block ?_
       refine tri_seq_region tt_ok fun K hK => ?_
       simp only [go_sem,reduceIte,reduceAdd,reduceLT,reduceLeDiff,reduceMul,reduceEqDiff,reduceSub,reduceCtorEq]
       refine hK _ ?_
       refine tri_seq_region tt_ok fun K hK => ?_
       simp only [ix,cv,go_sem,reduceIte,reduceAdd,reduceLT,reduceLeDiff,reduceMul,reduceEqDiff,reduceSub,reduceCtorEq]
       refine hK _ ?_
       refine tri_seq_region tt_ok fun K hK => ?_
       simp only [hw3,ix',cv,hh2',go_sem,reduceIte,reduceAdd,reduceLT,reduceLeDiff,reduceMul,reduceEqDiff,reduceSub,reduceCtorEq]
       refine hK _ ?_
       refine tri_seq_region tt_ok fun K hK => ?_
       simp only [hw2,go_sem,reduceIte,reduceAdd,reduceLT,reduceLeDiff,reduceMul,reduceEqDiff,reduceSub,reduceCtorEq]
       refine hK _ ?_
       obtain ⟨q1, hq1⟩ : ∃ q, q = decide (h2 = hs) := ⟨_, rfl⟩
       rw [← hq1] at hRj
       cases q1 with
       | false =>
        have b1 := hq1.symm
        refine tri_seq_region tt_ok fun K hK => ?_
        simp only [b1,go_sem,reduceIte,reduceAdd,reduceLT,reduceLeDiff,reduceMul,reduceEqDiff,reduceSub,reduceCtorEq]
        refine hK _ ?_
        refine tri_cond rfl (tri_skip ?_)
        refine ⟨s.size - (j + 1), by omega, 0, [true,true,false,false,false,true,true,true,true,false,true], by omega, by simp only [maskFr,belowV,belowL,belowB,reduceLT,mkb], rfl, j + 1, h2, rfl, by omega, by omega, by simpa using hRj, rfl⟩
       | true =>
        have b1 := hq1.symm
        obtain ⟨q2, hq2⟩ : ∃ q, q = ((s.extract (j + 1 - i) (j + 1)).toList == t.toList) := ⟨_, rfl⟩
        rw [← hq2] at hRj
        cases q2 with
        | false =>
         have b2 := hq2.symm
         refine tri_seq_region tt_ok fun K hK => ?_
         simp only [b1,b2,hw4,cm,toVal,go_sem,reduceIte,reduceAdd,reduceLT,reduceLeDiff,reduceMul,reduceEqDiff,reduceSub,reduceCtorEq]
         refine hK _ ?_
         refine tri_cond rfl (tri_skip ?_)
         refine ⟨s.size - (j + 1), by omega, 0, [true,true,false,false,false,true,true,true,true,false,true], by omega, by simp only [maskFr,belowV,belowL,belowB,reduceLT,mkb], rfl, j + 1, h2, rfl, by omega, by omega, by simpa using hRj, rfl⟩
        | true =>
         have b2 := hq2.symm
         refine tri_seq_region tt_ok fun K hK => ?_
         simp only [b1,b2,hw4,cm,toVal,go_sem,reduceIte,reduceAdd,reduceLT,reduceLeDiff,reduceMul,reduceEqDiff,reduceSub,reduceCtorEq]
         refine hK _ ?_
         refine tri_cond rfl ?_
         refine tri_seq_region tt_ok fun K hK => ?_
         simp only [hw4,go_sem,reduceIte,reduceAdd,reduceLT,reduceLeDiff,reduceMul,reduceEqDiff,reduceSub,reduceCtorEq]
         refine hK _ ?_
         refine tri_ret ⟨.inl rfl, ?_⟩
         rw [hRj]; rfl
      ·have hd := ge_dec hlt
       refine tri_seq_region tt_ok fun K hK => ?_
       simp only [hd,sl,go_sem,reduceIte,reduceAdd,reduceLT,reduceLeDiff,reduceMul,reduceEqDiff,reduceSub,reduceCtorEq]
       refine hK _ ?_
       refine tri_cond rfl (tri_exit ?_)
       show Tri _ _ _ _ _ _
       refine tri_seq_region tt_ok fun K hK => ?_
       simp only [go_sem,reduceIte,reduceAdd,reduceLT,reduceLeDiff,reduceMul,reduceEqDiff,reduceSub,reduceCtorEq]
       refine hK _ ?_
       refine tri_ret ⟨.inl rfl, ?_⟩
       have hz : s.size - j = 0 := by omega
       rw [hRj, hz]; rfl
end Go.Proofs.YtpjdfcigadnhcaaGreatDoor
end
