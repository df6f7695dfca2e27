/-
  CONTRACTS: fewTypes.
  THE LAW SyntaxParts itself.
  THE LAW SyntaxParts, A: what it does at every argument of the bound, in every world of the shape.
  CLOSING, B: a world for the witness.
-/
import Derived.Test.YtpjdfcigadnhcaaGreatDoorP6
import Derived.Test.YtpjdfcigadnhcaaGreatDoorCards
import Derived.Test.YtpjdfcigadnhcaaGreatDoorTie
import Derived.Lib.LaidTab
set_option linter.all false
section
namespace Go.Proofs.YtpjdfcigadnhcaaGreatDoor
open Go.Eng
open Nat (reduceAdd reduceLT reduceLeDiff reduceMul reduceEqDiff reduceSub)
variable [Glob]
set_option maxRecDepth 100000
set_option maxHeartbeats 4000000
attribute [local irreducible] runM stepM valD
theorem sumBy_le_mul {α : Type} (f : α → Nat) (c : Nat) : ∀ l : List α, (∀ t ∈ l, f t ≤ c) → sumBy f l ≤ l.length * c
 | [], _ => by simp [sumBy]
 | a :: r, h => by
  have h1 := h a (by simp)
  have h2 := sumBy_le_mul f c r fun t ht => h t (by simp [ht])
  simp only [sumBy,List.length_cons,Nat.add_mul,Nat.one_mul]
  omega
theorem fewTypes_ok (k : Int) (ts : List Ty) (hs : ∀ t ∈ ts, t.size ≤ 1048576) (hl : ts.length ≤ 1000) :
  FnOk Tryz.prog 11 [num k, .slice (encTys ts)] (bl (decide ((sumBy Ty.size ts : Int) ≤ k))) := by
 have hle : ∀ i, sumBy Ty.size (ts.take i) ≤ 1048576000 := fun i => by
  have h1 := sumBy_take_le Ty.size ts i
  have h2 := sumBy_le_mul Ty.size 1048576 ts hs
  omega
 refine fn_ok tt_ok (fn := Tryz.f11) Tryz.func11 rfl Tryz.call11 ?_
 simp only [startSt,Tryz.ntmps11,List.length_cons,List.length_nil,reduceAdd,reduceSub,List.replicate_succ,List.replicate_zero,List.cons_append,List.nil_append]
 refine tri_seq_region tt_ok fun K hK => ?_
 simp only [go_sem,reduceIte,reduceAdd,reduceLT,reduceLeDiff,reduceMul,reduceEqDiff,reduceSub,reduceCtorEq]
 refine hK _ ?_
 clear hK K
 refine tri_seq_region tt_ok fun K hK => ?_
 simp only [go_sem,reduceIte,reduceAdd,reduceLT,reduceLeDiff,reduceMul,reduceEqDiff,reduceSub,reduceCtorEq]
 refine hK _ ?_
 clear hK K
 refine tri_seq ?_
 refine tri_seq_region tt_ok fun K hK => ?_
 simp only [length_encTys,go_sem,reduceIte,reduceAdd,reduceLT,reduceLeDiff,reduceMul,reduceEqDiff,reduceSub,reduceCtorEq]
 refine hK _ ?_
 clear hK K
 refine tri_block (tri_loop_inv (fun N st => ∃ (i : Nat), N = ts.length - i ∧ i ≤ ts.length ∧
  st = { fr := [num k, .undef, .undef, .undef, .undef, num ((sumBy Ty.size (ts.take i) : Nat)), .undef, .undef, .slice (encTys ts), num ts.length, num i] ++ List.replicate 11 .undef, mem := [] }) ts.length ?_ ?_)
 ·exact ⟨0, [true,false,false,false,false,true,false,false,true,true,true], by omega, by simp only [maskFr,belowV,belowL,belowB,reduceLT,mkb], rfl, 0, by omega, by omega, rfl⟩
 ·rintro N' st ⟨i, rfl, hi, rfl⟩
  simp only [List.replicate_succ,List.replicate_zero,List.cons_append,List.nil_append]
  by_cases hlt : i < ts.length
  ·have hd := lt_dec hlt
   refine tri_seq_region tt_ok fun K hK => ?_
   simp only [hd,go_sem,reduceIte,reduceAdd,reduceLT,reduceLeDiff,reduceMul,reduceEqDiff,reduceSub,reduceCtorEq]
   refine hK _ ?_
   clear hK K
   refine tri_seq (tri_cond rfl (tri_skip ?_))
   refine tri_seq (tri_block ?_)
   obtain ⟨t, ht⟩ : ∃ t, ts[i]? = some t := ⟨_, List.getElem?_eq_getElem hlt⟩
   have htt := hs t (List.mem_of_getElem? ht)
   have hst := sumBy_take_succ Ty.size ht
   have hl1 := hle (i + 1)
   have hT := tsize_ok t.size t (Nat.le_refl _) htt
   rw [encTy_eq] at hT
   simp only [tyCells] at hT
   have hw1 := i64_c (((sumBy Ty.size (ts.take i) : Nat) : Int) + (t.size : Int)) (sumBy Ty.size (ts.take (i + 1))) (by omega) (by omega)
   have hw2 := i64_succ i (by omega)
   refine tri_seq_region tt_ok fun K hK => ?_
   simp only [get_encTys,ht,encTy_eq,tyCells,go_sem,reduceIte,reduceAdd,reduceLT,reduceLeDiff,reduceMul,reduceEqDiff,reduceSub,reduceCtorEq]
   refine hK _ ?_
   clear hK K
   refine tri_last_region tt_ok fun K hK => ?_
   simp only [go_sem,reduceIte,reduceAdd,reduceLT,reduceLeDiff,reduceMul,reduceEqDiff,reduceSub,reduceCtorEq]
   refine .inl ⟨_, _, by simp only [hw1,go_sem,reduceIte,reduceAdd,reduceLT,reduceLeDiff,reduceMul,reduceEqDiff,reduceSub,reduceCtorEq,List.take_length], hT, ?_⟩
   try simp only [hw1,go_sem,reduceIte,reduceAdd,reduceLT,reduceLeDiff,reduceMul,reduceEqDiff,reduceSub,reduceCtorEq]
   refine hK _ ?_
   clear hK K
   show Tri _ _ _ _ _ _
   refine tri_last_region tt_ok fun K hK => ?_
   simp only [go_sem,reduceIte,reduceAdd,reduceLT,reduceLeDiff,reduceMul,reduceEqDiff,reduceSub,reduceCtorEq]
   refine hK _ ?_
   clear hK K
   rw [hw2]
   exact ⟨ts.length - (i + 1), by omega, 0, [true,false,false,false,false,true,false,false,true,true,true], by omega, by simp only [maskFr,belowV,belowL,belowB,reduceLT,mkb], rfl, i + 1, rfl, hlt, by simp [maskFr]⟩
  ·have hd := ge_dec hlt
   refine tri_seq_region tt_ok fun K hK => ?_
   simp only [hd,go_sem,reduceIte,reduceAdd,reduceLT,reduceLeDiff,reduceMul,reduceEqDiff,reduceSub,reduceCtorEq]
   refine hK _ ?_
   clear hK K
   refine tri_seq (tri_cond rfl (tri_exit ?_))
   have hie : i = ts.length := by omega
   subst hie
   show Tri _ _ _ _ _ _
   refine tri_seq_region tt_ok fun K hK => ?_
   simp only [go_sem,reduceIte,reduceAdd,reduceLT,reduceLeDiff,reduceMul,reduceEqDiff,reduceSub,reduceCtorEq]
   refine hK _ ?_
   clear hK K
   refine tri_ret ⟨.inl rfl, ?_⟩
   rw [List.take_length]
   rfl

theorem memAfter_bl (mem : List Blk) (keys : List (Nat × Nat)) (b : Bool) : memAfter mem keys (bl b) = mem := rfl
end Go.Proofs.YtpjdfcigadnhcaaGreatDoor
end

section
namespace Go.Proofs.YtpjdfcigadnhcaaGreatDoor
open Go.Eng
open Nat (reduceAdd reduceLT reduceLeDiff reduceMul reduceEqDiff reduceSub)
variable [Glob]
set_option maxHeartbeats 4000000
set_option maxRecDepth 100000
attribute [local irreducible] runM stepM valD stepOp stepD callF callS
theorem parts_law (hG : Glob.g = some 0) (haw : FnOk Tryz.prog 10 [] (bl true)) (t : Ty) (e : Ex) (ht : t.wt ≤ 1048576) (he : e.wt ≤ 1048576) : ∃ r, (fun v => v = bl true) r ∧ FnOk Tryz.prog 4 [encTy t, encEx e] r := by
 refine fn_ex tt_ok (fn := Tryz.f4) Tryz.func4 rfl Tryz.call4 ?_
 simp only [startSt,Tryz.ntmps4,List.length_cons,List.length_nil,reduceAdd,reduceSub,List.replicate_succ,List.replicate_zero,List.cons_append,List.nil_append]
 have hts := t.size_le_wt
 have hes := e.bulk_le_wt
 have hpl := t.parts_length
 have hkl := e.kids_length
 simp only [encTy_eq,tyCells,encEx_eq,exCells]
 refine ex_region_w tt_ok 71 [0,0,2,2,2] [] (by kernel_rfl) (by kernel_rfl) fun K hK => ?_
 try simp only
 try simp only [ltb]
 simp only [go_sem,reduceLT,reduceEqDiff]
 refine hK _ _ (by kernel_rfl) ?_
 simp only [mkW,lkF,reduceAdd,reduceEqDiff,if_true,if_false]
 refine ex_seq ?_
 refine ex_region_w tt_ok 71 [0,0,0,0,0,0,0,0,0,0,1,2] [] (by kernel_rfl) (by kernel_rfl) fun K hK => ?_
 try simp only
 refine runX_cut 1 fun K1 hK1 => ?_
 simp only [List.take_succ_cons,List.take_zero]
 simp only [go_sem,reduceAdd]
 refine callF_ex (⟨_, rfl, haw⟩) ?_
 rintro _ rfl
 try simp only [memAfter_bl,go_sem]
 refine hK1 _ ?_
 try simp only [List.drop_succ_cons,List.drop_zero]
 simp only [go_sem,reduceAdd,reduceLT]
 refine hK _ _ (by kernel_rfl) ?_
 simp only [mkW,lkF,reduceAdd,reduceEqDiff,if_true,if_false]
 refine ex_if rfl (fun hc11 => ?_) (fun hc11 => ?_)
 ·skip
  cases hc11
 ·skip
  refine ex_skip ?_
  show Go.Eng.Ex _ _ _ _ _ _
  refine ex_seq ?_
  refine ex_region_w tt_ok 71 [0,0,0,0,0,0,0,0,0,0,0,0,1,1,1,1,1,1,1,1,2] [(4, 16)] (by kernel_rfl) (by kernel_rfl) fun K hK => ?_
  try simp only
  refine runX_cut 3 fun K1 hK1 => ?_
  simp only [List.take_succ_cons,List.take_zero]
  simp only [go_sem,reduceAdd,reduceLT,reduceLeDiff,reduceMul,reduceEqDiff]
  refine callF_ex (by have h := fewTypes_ok 2000 [t] (by intro u hu; simp at hu; subst hu; omega) (by simp); simp only [encTys,encTy_eq,tyCells] at h; exact ⟨_, rfl, h⟩) ?_
  rintro _ rfl
  try simp only [memAfter_bl,go_sem]
  refine hK1 _ ?_
  refine runX_cut 2 fun K1 hK1 => ?_
  simp only [List.take_succ_cons,List.take_zero,List.drop_succ_cons,List.drop_zero]
  simp only [go_sem,reduceAdd,reduceLT,reduceEqDiff]
  refine hK1 _ ?_
  refine runX_case 16 (by rfl) fun b hb3_4 => ?_
  cases b
  ·skip
   refine runX_cut 2 fun K1 hK1 => ?_
   simp only [List.take_succ_cons,List.take_zero,List.drop_succ_cons,List.drop_zero]
   simp only [go_sem,reduceAdd,reduceLT,reduceEqDiff]
   refine callF_ex (by have h := esize_ok e.bulk e (Nat.le_refl _) (by omega); rw [encEx_eq] at h; simp only [exCells] at h; exact ⟨_, rfl, h⟩) ?_
   rintro _ rfl
   try simp only [go_sem]
   refine hK1 _ ?_
   try simp only [List.drop_succ_cons,List.drop_zero]
   simp only [go_sem,reduceAdd,reduceLT,reduceEqDiff]
   refine hK _ _ (by kernel_rfl) ?_
   simp only [mkW,lkF,reduceAdd,reduceEqDiff,if_true,if_false]
   refine ex_if rfl (fun hc20 => ?_) (fun hc20 => ?_)
   ·skip
    refine ex_region_w tt_ok 71 [0,0,0,0,2] [] (by kernel_rfl) (by kernel_rfl) fun K hK => ?_
    try simp only
    try simp only [ltb]
    simp only [go_sem,reduceAdd]
    refine hK _ _ (by kernel_rfl) ?_
    simp only [mkW,lkF,reduceAdd,if_true]
    refine ex_ret ?_
    exact ⟨.inl rfl, _, rfl, rfl⟩
   ·skip
    refine ex_skip ?_
    show Go.Eng.Ex _ _ _ _ _ _
    refine ex_seq ?_
    refine ex_region_w tt_ok 71 [0,0,0,0,0,0,0,0,0,0,0,0,0,0,0,0,0,0,0,0,0,1,1,2] [] (by kernel_rfl) (by kernel_rfl) fun K hK => ?_
    try simp only
    refine runX_cut 2 fun K1 hK1 => ?_
    simp only [List.take_succ_cons,List.take_zero]
    simp only [go_sem,reduceAdd,reduceLT]
    refine callF_ex (by have h := checkType_ok hG t (by omega) (Ty.mods (by omega)); rw [encTy_eq] at h; simp only [tyCells] at h; exact ⟨_, rfl, h⟩) ?_
    rintro _ rfl
    try simp only [go_sem]
    refine hK1 _ ?_
    try simp only [List.drop_succ_cons,List.drop_zero]
    simp only [go_sem,reduceAdd,reduceLT,reduceEqDiff]
    refine hK _ _ (by kernel_rfl) ?_
    simp only [mkW,lkF,reduceAdd,reduceEqDiff,if_true,if_false]
    refine ex_if rfl (fun hc23 => ?_) (fun hc23 => ?_)
    ·skip
     refine ex_region_w tt_ok 71 [0,0,0,0,0,2] [] (by kernel_rfl) (by kernel_rfl) fun K hK => ?_
     try simp only
     try simp only [ltb]
     simp only [go_sem,reduceAdd]
     refine hK _ _ (by kernel_rfl) ?_
     simp only [mkW,lkF,reduceAdd,if_true]
     refine ex_seq ?_
     have hct : ctRes hG t = 0 := of_decide_eq_true hc23
     have hpp : ∀ u ∈ t.parts, ctRes hG u = 0 ∧ u.depth < t.depth := fun u hu => ctRes_part hct hu
     have hsp := t.size_parts
     have hwp := t.wt_parts
     have hlp : t.parts.length ≤ t.size := by have := length_le_sum Ty.size Ty.size_pos t.parts; omega
     have hl0 : (encTys t.parts).length = t.parts.length := length_encTys _
     obtain ⟨ps, hps⟩ : ∃ ps, ps = t.parts := ⟨_, rfl⟩
     refine ex_region_w tt_ok 71 [0,0,0,0,0,0,0,0,0,0,0,0,0,0,0,0,0,0,0,0,0,0,0,0,1,2,2,2] [] (by kernel_rfl) (by kernel_rfl) fun K hK => ?_
     try simp only
     refine runX_cut 2 fun K1 hK1 => ?_
     simp only [List.take_succ_cons,List.take_zero]
     simp only [go_sem,reduceAdd,reduceLT]
     refine callF_ex (by have h := parts_ok t (by omega); rw [encTy_eq] at h; simp only [tyCells] at h; exact ⟨_, rfl, h⟩) ?_
     rintro _ rfl
     try simp only [go_sem]
     refine hK1 _ ?_
     rw [← hps] at hpp hsp hwp hlp ⊢
     try simp only [List.drop_succ_cons,List.drop_zero]
     simp only [length_encTys,go_sem,reduceAdd,reduceLT,reduceEqDiff]
     refine hK _ _ (by kernel_rfl) ?_
     simp only [mkW,lkF,reduceAdd,reduceEqDiff,if_true,if_false]
     refine ex_block ?_
     refine ex_loopK [27,5] [num 0, num ((1 + sumBy Ty.size (ps.take 0) : Nat) : Int)] 3 [false,false,true,true,true,true,false,false,false,false,false,true,false,false,false,false,false,false,false,false,true,false,false,true,false,true,true,true] (fun vs => ((ps.length : Int) - intOf (vs.headD .undef)).toNat) (fun vs => ∃ (i : Nat), vs = [num i, num ((1 + sumBy Ty.size (ps.take i) : Nat) : Int)] ∧ i ≤ ps.length) (by omega) (by simp only [maskFr,if_true,if_false,Bool.false_eq_true,List.all_cons,List.all_nil,belowV,reduceLT,decide_true,Bool.and_self]) (by simp only [List.all_cons,List.all_nil,belowV,belowB,Bool.and_self,List.take_succ_cons,List.take_nil]) (by rfl) (⟨0, rfl, by omega⟩) fun vs hI => ?_
     obtain ⟨i, rfl, hi⟩ := hI
     simp only [maskFr,if_true,if_false,Bool.false_eq_true,List.take_succ_cons,List.take_nil,putAll,List.set_cons_zero,List.set_cons_succ]
     refine ex_region_w tt_ok 71 [0,0,0,0,0,0,0,0,0,0,0,0,0,0,0,0,0,0,0,0,0,0,0,0,0,0,0,0,2] [] (by kernel_rfl) (by kernel_rfl) fun K hK => ?_
     try simp only
     try simp only [ltb]
     simp only [go_sem,reduceAdd,reduceLT]
     refine hK _ _ (by kernel_rfl) ?_
     simp only [mkW,lkF,reduceAdd,if_true]
     refine ex_seq ?_
     refine ex_if rfl (fun hc28 => ?_) (fun hc28 => ?_)
     ·skip
      have hlt : i < ps.length := by simpa using hc28
      obtain ⟨u, hu⟩ : ∃ u, ps[i]? = some u := ⟨_, List.getElem?_eq_getElem hlt⟩
      have hus := sumBy_mem Ty.size hu
      have huw := sumBy_mem Ty.wt hu
      have hsn := sumBy_take_succ Ty.size hu
      have hsl := sumBy_take_le Ty.size ps (i + 1)
      obtain ⟨hcu, hdu⟩ := hpp u (List.mem_of_getElem? hu)
      have hcu2 : decide (ctRes hG u = 0) = true := decide_eq_true hcu
      have hdu2 : decide ((t.depth : Int) ≤ (u.depth : Int)) = false := decide_eq_false (by omega)
      have hw := i64_succ i (by omega)
      have hw2 := i64_add (1 + sumBy Ty.size (ps.take i)) u.size (by omega)
      refine ex_skip ?_
      show Go.Eng.Ex _ _ _ _ _ _
      refine ex_seq ?_
      refine ex_block ?_
      refine ex_region_w tt_ok 71 [0,0,0,0,0,0,0,2,0,0,0,0,0,0,0,0,0,0,0,0,0,0,0,0,0,0,0,0,0,1,1] [] (by kernel_rfl) (by kernel_rfl) fun K hK => ?_
      try simp only
      try simp only [ltb]
      simp only [get_encTys,hu,encTy_eq,tyCells,go_sem,reduceAdd,reduceLT,reduceEqDiff]
      refine hK _ _ (by kernel_rfl) ?_
      simp only [mkW,lkF,reduceAdd,reduceEqDiff,if_true,if_false]
      refine ex_region_w tt_ok 71 [0,0,0,0,0,2,0,0,0,0,0,0,0,0,0,0,0,0,0,0,0,0,0,0,0,0,0,0,0,0,0,1,1,1,1] [] (by kernel_rfl) (by kernel_rfl) fun K hK => ?_
      try simp only
      refine runX_cut 3 fun K1 hK1 => ?_
      simp only [List.take_succ_cons,List.take_zero]
      simp only [go_sem,reduceAdd,reduceLT,reduceEqDiff]
      refine callF_ex (by have h := stsize_ok u (by omega); rw [encTy_eq] at h; simp only [tyCells] at h; exact ⟨_, rfl, h⟩) ?_
      rintro _ rfl
      try simp only [go_sem]
      refine hK1 _ ?_
      try simp only [List.drop_succ_cons,List.drop_zero]
      simp only [hw2,go_sem,reduceAdd,reduceLT,reduceEqDiff]
      refine hK _ _ (by kernel_rfl) ?_
      simp only [mkW,lkF,reduceAdd,reduceEqDiff,if_true,if_false]
      refine ex_mixed_w tt_ok mixed_ok 71 [0,0,0,0,0,0,0,0,0,0,0,0,0,0,0,0,0,0,0,0,0,0,0,0,0,0,0,0,0,0,0,0,0,0,0,1,1,1,1,1,1,1,1,1,2] (by kernel_rfl) [⟨.r, 0, [], []⟩, ⟨.n, 0, [], []⟩, ⟨.n, 0, [], []⟩, ⟨.n, 0, [], []⟩, ⟨.r, 0, [], []⟩, ⟨.n, 0, [], []⟩, ⟨.r, 0, [], []⟩, ⟨.n, 0, [], []⟩, ⟨.n, 0, [], []⟩, ⟨.n, 0, [], []⟩] 0 (by kernel_rfl) fun K hK => ?_
      try simp only [List.cons_append,List.nil_append,List.replicate_zero]
      refine runM_cut 2 (by simp) (by simp) fun K1 hK1 => ?_
      try simp only [List.take_succ_cons,List.take_zero]
      simp only [go_sem,reduceAdd,reduceLT]
      refine callD_ex rfl (by have h := checkType_ok hG u (by omega) (Ty.mods (by omega)); rw [encTy_eq] at h; simp only [tyCells] at h; exact ⟨_, rfl, h⟩) ?_
      rintro _ rfl
      try simp only [go_sem]
      refine hK1 _ ?_
      refine runM_cut 2 (by simp) (by simp) fun K1 hK1 => ?_
      try simp only [List.take_succ_cons,List.take_zero,List.drop_succ_cons,List.drop_zero]
      simp only [hcu2,go_sem,reduceAdd,reduceLT,reduceEqDiff]
      refine hK1 _ ?_
      refine runM_case 38 (by rfl) fun b hb11_3 => ?_
      cases b
      ·skip
       refine runM_cut 2 (by simp) (by simp) fun K1 hK1 => ?_
       try simp only [List.take_succ_cons,List.take_zero,List.drop_succ_cons,List.drop_zero]
       simp only [go_sem,reduceAdd,reduceLT,reduceEqDiff]
       refine callD_ex rfl (by have h := stdepth_ok u.size u (Nat.le_refl _) (by omega); rw [encTy_eq] at h; simp only [tyCells] at h; exact ⟨_, rfl, h⟩) ?_
       rintro _ rfl
       try simp only [go_sem]
       refine hK1 _ ?_
       refine runM_cut 2 (by simp) (by simp) fun K1 hK1 => ?_
       try simp only [List.take_succ_cons,List.take_zero,List.drop_succ_cons,List.drop_zero]
       simp only [go_sem,reduceAdd,reduceLT,reduceEqDiff]
       refine callD_ex rfl (by have h := stdepth_ok t.size t (Nat.le_refl _) (by omega); rw [encTy_eq] at h; simp only [tyCells] at h; exact ⟨_, rfl, h⟩) ?_
       rintro _ rfl
       try simp only [go_sem]
       refine hK1 _ ?_
       try simp only [List.drop_succ_cons,List.drop_zero]
       simp only [hdu2,go_sem,reduceAdd,reduceLT,reduceEqDiff]
       refine hK _ _ (by kernel_rfl) ?_
       simp only [mkW,lkF,reduceAdd,reduceEqDiff,if_true,if_false]
       refine ex_if rfl (fun hc44 => ?_) (fun hc44 => ?_)
       ·skip
        cases hc44
       ·skip
        refine ex_skip ?_
        show Go.Eng.Ex _ _ _ _ _ _
        refine ex_last_region_w tt_ok 71 [0,0,0,0,0,0,0,0,0,0,0,0,0,0,0,0,0,0,0,0,0,0,0,0,0,0,0,2,0,0,0,0,0,0,0,0,0,0,0,0,0,0,0,0,0,2] [] (by kernel_rfl) (by kernel_rfl) (by kernel_rfl) fun K hK => ?_
        try simp only
        try simp only [ltb]
        simp only [hw,go_sem,reduceAdd,reduceLT]
        refine hK _ _ (by kernel_rfl) ?_
        simp only [mkW,lkF,reduceAdd,reduceEqDiff,if_true,if_false]
        refine ⟨[_, _], ?_, ?_, 3, [false,false,true,true,true,true,false,false,false,false,false,true,false,false,false,false,false,false,false,false,true,false,false,true,false,true,true,true], by omega, by simp only [maskFr,if_true,if_false,Bool.false_eq_true,List.all_cons,List.all_nil,belowV,reduceLT,decide_true,Bool.and_self], by simp only [List.all_cons,List.all_nil,belowV,belowB,Bool.and_self,List.take_succ_cons,List.take_zero], by simp only [maskFr,if_true,if_false,Bool.false_eq_true,List.take_succ_cons,List.take_zero,putAll,List.set_cons_zero,List.set_cons_succ]; rfl⟩
        ·refine ⟨i + 1, ?_, hlt⟩
         rw [hsn, ← Nat.add_assoc]
        ·simp only [intOf,List.headD_cons]; omega
      ·skip
       cases hb11_3
     ·skip
      have hnl : ¬ i < ps.length := by simpa using hc28
      have hge : i = ps.length := by omega
      refine ex_exit ?_
      show Go.Eng.Ex _ _ _ _ _ _
      refine ex_region_w tt_ok 71 [0,0,0,0,0,0,0,0,0,0,0,0,0,0,0,0,0,0,0,0,0,0,0,0,0,0,0,0,0,0,0,0,0,0,0,0,0,0,0,0,0,0,0,0,0,0,1,1,1,2] [] (by kernel_rfl) (by kernel_rfl) fun K hK => ?_
      try simp only
      refine runX_cut 3 fun K1 hK1 => ?_
      simp only [List.take_succ_cons,List.take_zero]
      simp only [go_sem,reduceAdd,reduceLT,reduceEqDiff]
      refine callF_ex (by have h := stsize_ok t (by omega); rw [encTy_eq] at h; simp only [tyCells] at h; exact ⟨_, rfl, h⟩) ?_
      rintro _ rfl
      try simp only [go_sem]
      refine hK1 _ ?_
      try simp only [List.drop_succ_cons,List.drop_zero]
      simp only [go_sem,reduceAdd,reduceLT,reduceEqDiff]
      refine hK _ _ (by kernel_rfl) ?_
      simp only [mkW,lkF,reduceAdd,reduceEqDiff,if_true,if_false]
      refine ex_if rfl (fun hc49 => ?_) (fun hc49 => ?_)
      ·skip
       exfalso; subst hge; rw [List.take_length, ← hsp] at hc49; simp at hc49
      ·skip
       refine ex_skip ?_
       show Go.Eng.Ex _ _ _ _ _ _
       refine ex_seq ?_
       refine ex_region_w tt_ok 71 [0,0,0,0,0,0,0,0,0,0,0,0,0,0,0,0,0,0,0,0,0,0,0,0,0,0,0,0,0,0,0,0,0,0,0,0,0,0,0,0,0,0,0,0,0,0,0,0,0,0,1,1,2] [] (by kernel_rfl) (by kernel_rfl) fun K hK => ?_
       try simp only
       refine runX_cut 2 fun K1 hK1 => ?_
       simp only [List.take_succ_cons,List.take_zero]
       simp only [go_sem,reduceAdd,reduceLT]
       refine callF_ex (by have h := checkExpr_ok hG e (by omega); rw [encEx_eq] at h; simp only [exCells] at h; exact ⟨_, rfl, h⟩) ?_
       rintro _ rfl
       try simp only [go_sem]
       refine hK1 _ ?_
       try simp only [List.drop_succ_cons,List.drop_zero]
       simp only [go_sem,reduceAdd,reduceLT,reduceEqDiff]
       refine hK _ _ (by kernel_rfl) ?_
       simp only [mkW,lkF,reduceAdd,reduceEqDiff,if_true,if_false]
       refine ex_if rfl (fun hc52 => ?_) (fun hc52 => ?_)
       ·skip
        have hce : ceRes hG e = 0 := of_decide_eq_true hc52
        have hkk : ∀ u ∈ e.kids, ceRes hG u = 0 ∧ u.size < e.size := fun u hu => ⟨ceRes_kid hce hu, size_kid hu⟩
        have hbk := e.bulk_kids
        have hwe := e.wt_eq
        refine ex_region_w tt_ok 71 [0,0,0,0,0,0,0,0,0,0,0,0,0,0,0,0,0,0,0,0,0,0,0,0,0,0,0,0,0,0,0,0,0,0,0,0,0,0,0,0,0,0,0,0,0,0,0,0,0,0,0,0,0,1,2,2,2] [] (by kernel_rfl) (by kernel_rfl) fun K hK => ?_
        try simp only
        try simp only [ltb]
        simp only [length_encExs,go_sem,reduceAdd,reduceLT,reduceEqDiff]
        refine hK _ _ (by kernel_rfl) ?_
        simp only [mkW,lkF,reduceAdd,reduceEqDiff,if_true,if_false]
        refine ex_block ?_
        refine ex_range 56 (e.kids.length) 3 [false,false,false,true,true,false,false,false,false,false,false,true,false,false,false,false,false,false,false,false,true,false,false,true,false,false,false,false,true,false,false,false,false,false,false,false,false,false,false,false,false,false,false,false,true,false,false,false,false,true,false,false,true,false,true,true,true] (by omega) (by simp only [maskFr,if_true,if_false,Bool.false_eq_true,List.all_cons,List.all_nil,belowV,reduceLT,decide_true,Bool.and_self]) (by simp only [List.all_cons,List.all_nil,belowV,belowB,Bool.and_self,List.take_succ_cons,List.take_nil]) (by rfl) fun i hii => ?_
        simp only [maskFr,if_true,if_false,Bool.false_eq_true,List.take_succ_cons,List.take_nil,List.set_cons_zero,List.set_cons_succ]
        refine ex_region_w tt_ok 71 [0,0,0,0,0,0,0,0,0,0,0,0,0,0,0,0,0,0,0,0,0,0,0,0,0,0,0,0,0,0,0,0,0,0,0,0,0,0,0,0,0,0,0,0,0,0,0,0,0,0,0,0,0,0,0,0,0,2] [] (by kernel_rfl) (by kernel_rfl) fun K hK => ?_
        try simp only
        try simp only [ltb]
        simp only [go_sem,reduceAdd,reduceLT]
        refine hK _ _ (by kernel_rfl) ?_
        simp only [mkW,lkF,reduceAdd,if_true]
        refine ex_seq ?_
        refine ex_if rfl (fun hc57 => ?_) (fun hc57 => ?_)
        ·skip
         have hlti : i < (e.kids.length) := by simpa using hc57
         have hlt : i < e.kids.length := by simpa using hc57
         obtain ⟨k, hk⟩ : ∃ k, e.kids[i]? = some k := ⟨_, List.getElem?_eq_getElem hlt⟩
         have hkw := sumBy_mem Ex.wt hk
         have hkbw := k.bulk_le_wt
         obtain ⟨hck, hsk⟩ := hkk k (List.mem_of_getElem? hk)
         have hck2 : decide (ceRes hG k = 0) = true := decide_eq_true hck
         have hsk2 : decide ((e.size : Int) ≤ (k.size : Int)) = false := decide_eq_false (by omega)
         refine ex_skip ?_
         show Go.Eng.Ex _ _ _ _ _ _
         refine ex_seq ?_
         refine ex_block ?_
         refine ex_region_w tt_ok 71 [0,0,0,0,0,0,0,0,0,2,0,0,0,0,0,0,0,0,0,0,0,0,0,0,0,0,0,0,0,0,0,0,0,0,0,0,0,0,0,0,0,0,0,0,0,0,0,0,0,0,0,0,0,0,0,0,0,0,1,1] [] (by kernel_rfl) (by kernel_rfl) fun K hK => ?_
         try simp only
         try simp only [ltb]
         simp only [get_encExs,hk,encEx_eq,exCells,go_sem,reduceAdd,reduceLT,reduceEqDiff]
         refine hK _ _ (by kernel_rfl) ?_
         simp only [mkW,lkF,reduceAdd,reduceEqDiff,if_true,if_false]
         refine ex_mixed_w tt_ok mixed_ok 71 [0,0,0,0,0,0,0,0,0,0,0,0,0,0,0,0,0,0,0,0,0,0,0,0,0,0,0,0,0,0,0,0,0,0,0,0,0,0,0,0,0,0,0,0,0,0,0,0,0,0,0,0,0,0,0,0,0,0,0,0,1,1,1,1,1,1,1,1,1,2] (by kernel_rfl) [⟨.r, 0, [], []⟩, ⟨.n, 0, [], []⟩, ⟨.n, 0, [], []⟩, ⟨.n, 0, [], []⟩, ⟨.r, 0, [], []⟩, ⟨.n, 0, [], []⟩, ⟨.r, 0, [], []⟩, ⟨.n, 0, [], []⟩, ⟨.n, 0, [], []⟩, ⟨.n, 0, [], []⟩] 0 (by kernel_rfl) fun K hK => ?_
         try simp only [List.cons_append,List.nil_append,List.replicate_zero]
         refine runM_cut 2 (by simp) (by simp) fun K1 hK1 => ?_
         try simp only [List.take_succ_cons,List.take_zero]
         simp only [go_sem,reduceAdd,reduceLT]
         refine callD_ex rfl (by have h := checkExpr_ok hG k (by omega); rw [encEx_eq] at h; simp only [exCells] at h; exact ⟨_, rfl, h⟩) ?_
         rintro _ rfl
         try simp only [go_sem]
         refine hK1 _ ?_
         refine runM_cut 2 (by simp) (by simp) fun K1 hK1 => ?_
         try simp only [List.take_succ_cons,List.take_zero,List.drop_succ_cons,List.drop_zero]
         simp only [hck2,go_sem,reduceAdd,reduceLT,reduceEqDiff]
         refine hK1 _ ?_
         refine runM_case 63 (by rfl) fun b hb20_3 => ?_
         cases b
         ·skip
          refine runM_cut 2 (by simp) (by simp) fun K1 hK1 => ?_
          try simp only [List.take_succ_cons,List.take_zero,List.drop_succ_cons,List.drop_zero]
          simp only [go_sem,reduceAdd,reduceLT,reduceEqDiff]
          refine callD_ex rfl (by have h := sesize_ok k (by omega); rw [encEx_eq] at h; simp only [exCells] at h; exact ⟨_, rfl, h⟩) ?_
          rintro _ rfl
          try simp only [go_sem]
          refine hK1 _ ?_
          refine runM_cut 2 (by simp) (by simp) fun K1 hK1 => ?_
          try simp only [List.take_succ_cons,List.take_zero,List.drop_succ_cons,List.drop_zero]
          simp only [go_sem,reduceAdd,reduceLT,reduceEqDiff]
          refine callD_ex rfl (by have h := sesize_ok e (by omega); rw [encEx_eq] at h; simp only [exCells] at h; exact ⟨_, rfl, h⟩) ?_
          rintro _ rfl
          try simp only [go_sem]
          refine hK1 _ ?_
          try simp only [List.drop_succ_cons,List.drop_zero]
          simp only [hsk2,go_sem,reduceAdd,reduceLT,reduceEqDiff]
          refine hK _ _ (by kernel_rfl) ?_
          simp only [mkW,lkF,reduceAdd,reduceEqDiff,if_true,if_false]
          refine ex_if rfl (fun hc69 => ?_) (fun hc69 => ?_)
          ·skip
           cases hc69
          ·skip
           refine ex_skip ?_
           show Go.Eng.Ex _ _ _ _ _ _
           refine ex_last_region_w tt_ok 71 [0,0,0,0,0,0,0,0,0,0,0,0,0,0,0,0,0,0,0,0,0,0,0,0,0,0,0,0,0,0,0,0,0,0,0,0,0,0,0,0,0,0,0,0,0,0,0,0,0,0,0,0,0,0,0,0,2,0,0,0,0,0,0,0,0,0,0,0,0,0,2] [] (by kernel_rfl) (by kernel_rfl) (by kernel_rfl) fun K hK => ?_
           try simp only
           try simp only [ltb]
           simp only [go_sem,reduceAdd,reduceLT]
           refine hK _ _ (by kernel_rfl) ?_
           simp only [mkW,lkF,reduceAdd,reduceEqDiff,if_true,if_false]
           have hwi := i64_succ i (by omega)
           refine ⟨hlti, 3, [false,false,false,true,true,false,false,false,false,false,false,true,false,false,false,false,false,false,false,false,true,false,false,true,false,false,false,false,true,false,false,false,false,false,false,false,false,false,false,false,false,false,false,false,true,false,false,false,false,true,false,false,true,false,true,true,true], by omega, by simp only [maskFr,if_true,if_false,Bool.false_eq_true,List.all_cons,List.all_nil,belowV,reduceLT,decide_true,Bool.and_self], by simp only [List.all_cons,List.all_nil,belowV,belowB,Bool.and_self,List.take_succ_cons,List.take_zero], ?_⟩
           simp only [hwi,maskFr,if_true,if_false,Bool.false_eq_true,List.take_succ_cons,List.take_zero]
         ·skip
          cases hb20_3
        ·skip
         have hgei : ¬ i < (e.kids.length) := by simpa using hc57
         refine ex_exit ?_
         show Go.Eng.Ex _ _ _ _ _ _
         refine ex_region_w tt_ok 71 [0,0,0,0,2] [] (by kernel_rfl) (by kernel_rfl) fun K hK => ?_
         try simp only
         try simp only [ltb]
         simp only [go_sem,reduceAdd]
         refine hK _ _ (by kernel_rfl) ?_
         simp only [mkW,lkF,reduceAdd,if_true]
         refine ex_ret ?_
         exact ⟨.inl rfl, _, rfl, rfl⟩
       ·skip
        refine ex_skip ?_
        show Go.Eng.Ex _ _ _ _ _ _
        refine ex_region_w tt_ok 71 [0,0,0,0,2] [] (by kernel_rfl) (by kernel_rfl) fun K hK => ?_
        try simp only
        try simp only [ltb]
        simp only [go_sem,reduceAdd]
        refine hK _ _ (by kernel_rfl) ?_
        simp only [mkW,lkF,reduceAdd,if_true]
        refine ex_ret ?_
        exact ⟨.inl rfl, _, rfl, rfl⟩
    ·skip
     refine ex_skip ?_
     show Go.Eng.Ex _ _ _ _ _ _
     refine ex_seq ?_
     refine ex_region_w tt_ok 71 [0,0,0,0,0,0,0,0,0,0,0,0,0,0,0,0,0,0,0,0,0,0,0,0,0,0,0,0,0,0,0,0,0,0,0,0,0,0,0,0,0,0,0,0,0,0,0,0,0,0,1,1,2] [] (by kernel_rfl) (by kernel_rfl) fun K hK => ?_
     try simp only
     refine runX_cut 2 fun K1 hK1 => ?_
     simp only [List.take_succ_cons,List.take_zero]
     simp only [go_sem,reduceAdd,reduceLT]
     refine callF_ex (by have h := checkExpr_ok hG e (by omega); rw [encEx_eq] at h; simp only [exCells] at h; exact ⟨_, rfl, h⟩) ?_
     rintro _ rfl
     try simp only [go_sem]
     refine hK1 _ ?_
     try simp only [List.drop_succ_cons,List.drop_zero]
     simp only [go_sem,reduceAdd,reduceLT,reduceEqDiff]
     refine hK _ _ (by kernel_rfl) ?_
     simp only [mkW,lkF,reduceAdd,reduceEqDiff,if_true,if_false]
     refine ex_if rfl (fun hc52 => ?_) (fun hc52 => ?_)
     ·skip
      have hce : ceRes hG e = 0 := of_decide_eq_true hc52
      have hkk : ∀ u ∈ e.kids, ceRes hG u = 0 ∧ u.size < e.size := fun u hu => ⟨ceRes_kid hce hu, size_kid hu⟩
      have hbk := e.bulk_kids
      have hwe := e.wt_eq
      refine ex_region_w tt_ok 71 [0,0,0,0,0,0,0,0,0,0,0,0,0,0,0,0,0,0,0,0,0,0,0,0,0,0,0,0,0,0,0,0,0,0,0,0,0,0,0,0,0,0,0,0,0,0,0,0,0,0,0,0,0,1,2,2,2] [] (by kernel_rfl) (by kernel_rfl) fun K hK => ?_
      try simp only
      try simp only [ltb]
      simp only [length_encExs,go_sem,reduceAdd,reduceLT,reduceEqDiff]
      refine hK _ _ (by kernel_rfl) ?_
      simp only [mkW,lkF,reduceAdd,reduceEqDiff,if_true,if_false]
      refine ex_block ?_
      refine ex_range 56 (e.kids.length) 3 [false,false,false,true,true,false,false,false,false,false,false,true,false,false,false,false,false,false,false,false,true,false,false,true,false,false,false,false,true,false,false,false,false,false,false,false,false,false,false,false,false,false,false,false,true,false,false,false,false,true,false,false,true,false,true,true,true] (by omega) (by simp only [maskFr,if_true,if_false,Bool.false_eq_true,List.all_cons,List.all_nil,belowV,reduceLT,decide_true,Bool.and_self]) (by simp only [List.all_cons,List.all_nil,belowV,belowB,Bool.and_self,List.take_succ_cons,List.take_nil]) (by rfl) fun i hii => ?_
      simp only [maskFr,if_true,if_false,Bool.false_eq_true,List.take_succ_cons,List.take_nil,List.set_cons_zero,List.set_cons_succ]
      refine ex_region_w tt_ok 71 [0,0,0,0,0,0,0,0,0,0,0,0,0,0,0,0,0,0,0,0,0,0,0,0,0,0,0,0,0,0,0,0,0,0,0,0,0,0,0,0,0,0,0,0,0,0,0,0,0,0,0,0,0,0,0,0,0,2] [] (by kernel_rfl) (by kernel_rfl) fun K hK => ?_
      try simp only
      try simp only [ltb]
      simp only [go_sem,reduceAdd,reduceLT]
      refine hK _ _ (by kernel_rfl) ?_
      simp only [mkW,lkF,reduceAdd,if_true]
      refine ex_seq ?_
      refine ex_if rfl (fun hc57 => ?_) (fun hc57 => ?_)
      ·skip
       have hlti : i < (e.kids.length) := by simpa using hc57
       have hlt : i < e.kids.length := by simpa using hc57
       obtain ⟨k, hk⟩ : ∃ k, e.kids[i]? = some k := ⟨_, List.getElem?_eq_getElem hlt⟩
       have hkw := sumBy_mem Ex.wt hk
       have hkbw := k.bulk_le_wt
       obtain ⟨hck, hsk⟩ := hkk k (List.mem_of_getElem? hk)
       have hck2 : decide (ceRes hG k = 0) = true := decide_eq_true hck
       have hsk2 : decide ((e.size : Int) ≤ (k.size : Int)) = false := decide_eq_false (by omega)
       refine ex_skip ?_
       show Go.Eng.Ex _ _ _ _ _ _
       refine ex_seq ?_
       refine ex_block ?_
       refine ex_region_w tt_ok 71 [0,0,0,0,0,0,0,0,0,2,0,0,0,0,0,0,0,0,0,0,0,0,0,0,0,0,0,0,0,0,0,0,0,0,0,0,0,0,0,0,0,0,0,0,0,0,0,0,0,0,0,0,0,0,0,0,0,0,1,1] [] (by kernel_rfl) (by kernel_rfl) fun K hK => ?_
       try simp only
       try simp only [ltb]
       simp only [get_encExs,hk,encEx_eq,exCells,go_sem,reduceAdd,reduceLT,reduceEqDiff]
       refine hK _ _ (by kernel_rfl) ?_
       simp only [mkW,lkF,reduceAdd,reduceEqDiff,if_true,if_false]
       refine ex_mixed_w tt_ok mixed_ok 71 [0,0,0,0,0,0,0,0,0,0,0,0,0,0,0,0,0,0,0,0,0,0,0,0,0,0,0,0,0,0,0,0,0,0,0,0,0,0,0,0,0,0,0,0,0,0,0,0,0,0,0,0,0,0,0,0,0,0,0,0,1,1,1,1,1,1,1,1,1,2] (by kernel_rfl) [⟨.r, 0, [], []⟩, ⟨.n, 0, [], []⟩, ⟨.n, 0, [], []⟩, ⟨.n, 0, [], []⟩, ⟨.r, 0, [], []⟩, ⟨.n, 0, [], []⟩, ⟨.r, 0, [], []⟩, ⟨.n, 0, [], []⟩, ⟨.n, 0, [], []⟩, ⟨.n, 0, [], []⟩] 0 (by kernel_rfl) fun K hK => ?_
       try simp only [List.cons_append,List.nil_append,List.replicate_zero]
       refine runM_cut 2 (by simp) (by simp) fun K1 hK1 => ?_
       try simp only [List.take_succ_cons,List.take_zero]
       simp only [go_sem,reduceAdd,reduceLT]
       refine callD_ex rfl (by have h := checkExpr_ok hG k (by omega); rw [encEx_eq] at h; simp only [exCells] at h; exact ⟨_, rfl, h⟩) ?_
       rintro _ rfl
       try simp only [go_sem]
       refine hK1 _ ?_
       refine runM_cut 2 (by simp) (by simp) fun K1 hK1 => ?_
       try simp only [List.take_succ_cons,List.take_zero,List.drop_succ_cons,List.drop_zero]
       simp only [hck2,go_sem,reduceAdd,reduceLT,reduceEqDiff]
       refine hK1 _ ?_
       refine runM_case 63 (by rfl) fun b hb20_3 => ?_
       cases b
       ·skip
        refine runM_cut 2 (by simp) (by simp) fun K1 hK1 => ?_
        try simp only [List.take_succ_cons,List.take_zero,List.drop_succ_cons,List.drop_zero]
        simp only [go_sem,reduceAdd,reduceLT,reduceEqDiff]
        refine callD_ex rfl (by have h := sesize_ok k (by omega); rw [encEx_eq] at h; simp only [exCells] at h; exact ⟨_, rfl, h⟩) ?_
        rintro _ rfl
        try simp only [go_sem]
        refine hK1 _ ?_
        refine runM_cut 2 (by simp) (by simp) fun K1 hK1 => ?_
        try simp only [List.take_succ_cons,List.take_zero,List.drop_succ_cons,List.drop_zero]
        simp only [go_sem,reduceAdd,reduceLT,reduceEqDiff]
        refine callD_ex rfl (by have h := sesize_ok e (by omega); rw [encEx_eq] at h; simp only [exCells] at h; exact ⟨_, rfl, h⟩) ?_
        rintro _ rfl
        try simp only [go_sem]
        refine hK1 _ ?_
        try simp only [List.drop_succ_cons,List.drop_zero]
        simp only [hsk2,go_sem,reduceAdd,reduceLT,reduceEqDiff]
        refine hK _ _ (by kernel_rfl) ?_
        simp only [mkW,lkF,reduceAdd,reduceEqDiff,if_true,if_false]
        refine ex_if rfl (fun hc69 => ?_) (fun hc69 => ?_)
        ·skip
         cases hc69
        ·skip
         refine ex_skip ?_
         show Go.Eng.Ex _ _ _ _ _ _
         refine ex_last_region_w tt_ok 71 [0,0,0,0,0,0,0,0,0,0,0,0,0,0,0,0,0,0,0,0,0,0,0,0,0,0,0,0,0,0,0,0,0,0,0,0,0,0,0,0,0,0,0,0,0,0,0,0,0,0,0,0,0,0,0,0,2,0,0,0,0,0,0,0,0,0,0,0,0,0,2] [] (by kernel_rfl) (by kernel_rfl) (by kernel_rfl) fun K hK => ?_
         try simp only
         try simp only [ltb]
         simp only [go_sem,reduceAdd,reduceLT]
         refine hK _ _ (by kernel_rfl) ?_
         simp only [mkW,lkF,reduceAdd,reduceEqDiff,if_true,if_false]
         have hwi := i64_succ i (by omega)
         refine ⟨hlti, 3, [false,false,false,true,true,false,false,false,false,false,false,true,false,false,false,false,false,false,false,false,true,false,false,true,false,false,false,false,true,false,false,false,false,false,false,false,false,false,false,false,false,false,false,false,true,false,false,false,false,true,false,false,true,false,true,true,true], by omega, by simp only [maskFr,if_true,if_false,Bool.false_eq_true,List.all_cons,List.all_nil,belowV,reduceLT,decide_true,Bool.and_self], by simp only [List.all_cons,List.all_nil,belowV,belowB,Bool.and_self,List.take_succ_cons,List.take_zero], ?_⟩
         simp only [hwi,maskFr,if_true,if_false,Bool.false_eq_true,List.take_succ_cons,List.take_zero]
       ·skip
        cases hb20_3
      ·skip
       have hgei : ¬ i < (e.kids.length) := by simpa using hc57
       refine ex_exit ?_
       show Go.Eng.Ex _ _ _ _ _ _
       refine ex_region_w tt_ok 71 [0,0,0,0,2] [] (by kernel_rfl) (by kernel_rfl) fun K hK => ?_
       try simp only
       try simp only [ltb]
       simp only [go_sem,reduceAdd]
       refine hK _ _ (by kernel_rfl) ?_
       simp only [mkW,lkF,reduceAdd,if_true]
       refine ex_ret ?_
       exact ⟨.inl rfl, _, rfl, rfl⟩
     ·skip
      refine ex_skip ?_
      show Go.Eng.Ex _ _ _ _ _ _
      refine ex_region_w tt_ok 71 [0,0,0,0,2] [] (by kernel_rfl) (by kernel_rfl) fun K hK => ?_
      try simp only
      try simp only [ltb]
      simp only [go_sem,reduceAdd]
      refine hK _ _ (by kernel_rfl) ?_
      simp only [mkW,lkF,reduceAdd,if_true]
      refine ex_ret ?_
      exact ⟨.inl rfl, _, rfl, rfl⟩
  ·skip
   try simp only [List.drop_succ_cons,List.drop_zero]
   simp only [go_sem,reduceAdd,reduceLT,reduceEqDiff]
   refine hK _ _ (by kernel_rfl) ?_
   simp only [mkW,lkF,reduceAdd,reduceEqDiff,if_true,if_false]
   refine ex_cond rfl ?_
   refine ex_region_w tt_ok 71 [0,0,0,0,2] [] (by kernel_rfl) (by kernel_rfl) fun K hK => ?_
   try simp only
   try simp only [ltb]
   simp only [go_sem,reduceAdd]
   refine hK _ _ (by kernel_rfl) ?_
   simp only [mkW,lkF,reduceAdd,if_true]
   refine ex_ret ?_
   exact ⟨.inl rfl, _, rfl, rfl⟩
theorem partsLaw_ok (hG : Glob.g = some 0) (haw : FnOk Tryz.prog 10 [] (bl true)) (t : Ty) (e : Ex) (ht : t.wt ≤ 1048576) (he : e.wt ≤ 1048576) : FnOk Tryz.prog 4 [encTy t, encEx e] (bl true) := by
 obtain ⟨_, rfl, h⟩ := parts_law hG haw t e ht he
 exact h
end Go.Proofs.YtpjdfcigadnhcaaGreatDoor
end

section
namespace Go.Proofs.YtpjdfcigadnhcaaGreatDoor.lawSyntaxParts
open Go.Eng
set_option maxRecDepth 100000
open Go.ChangeShapes Go.WideShapes Go.ChangeAt Go.RowKit
theorem contract (H : Type) (enc : TypeId × Value → H) (W : World) (args : Array Value) (ds gs : List (DataW H)) (before : List MemPlace)
  (hW : DataW.Whole enc Tryz.prog Tryz.f4.params.toList Rows.syntaxPartsSpec.vars false W args.toList ds gs before) (hb : Rows.uptoBulkAll (ds ++ gs) ≤ 1048576) (hS : W.ShapedOpen Tryz.prog) :
  Calls Tryz.prog 4 args W fun e W' => ∃ v, e = .returned v ∧ Rows.syntaxPartsSpec.post enc Tryz.prog Tryz.f4 false true false false W args v W' := by
 have hW' := hW
 have hlt := hW.lt
 obtain ⟨p, q, hA0, hV, rfl, hfz, hnd⟩ := hW
 have hA : DataW.TrodAll enc Tryz.prog W 0 (fun _ => true) true Tryz.f4.params.toList args.toList ds p := hA0
 rw [Tryz.params4] at hA
 obtain ⟨v0, vs0, d0, ds0, p0, q0, hargs, rfl, rfl, h0, r0⟩ := trodAll_cons hA
 obtain ⟨v1, vs1, d1, ds1, p1, q1, rfl, rfl, rfl, h1, r1⟩ := trodAll_cons r0
 obtain ⟨rfl, rfl, rfl⟩ := trodAll_nil r1
 obtain rfl : args = #[v0, v1] := by cases args; simp_all
 obtain ⟨rfl, rfl⟩ := trodVars_none hV
 clear hA0 hA r0 r1 hargs hV
 simp only [List.append_nil] at hW' hlt
 simp only [List.append_nil,List.cons_append,List.nil_append,Rows.uptoBulkAll] at hb
 have h0' := h0
 have h1' := h1
 obtain ⟨f0, h0⟩ := h0
 obtain ⟨f1, h1⟩ := h1
 have main : Calls Tryz.prog 4 #[v0, v1] W fun e W' => e = .returned (.bool true) ∧ Below W.heap.size W W' := by
  obtain ⟨n, hn⟩ := maxLen_at hS
  have go : ∀ (G : Glob) (hG : G.g = some 0) (hg : @Gl G W.cell?), @FnOk G Tryz.prog 10 [] tru → Calls Tryz.prog 4 #[v0, v1] W fun e W' => e = .returned (.bool true) ∧ Below W.heap.size W W' := fun G hG hg haw => by
   obtain ⟨x0, hx0, b0⟩ := rd_ty (F := W.cell?) (hg := hg) rfl _ h0
   obtain ⟨x1, hx1, b1⟩ := rd_ex (F := W.cell?) (hg := hg) rfl _ h1
   rw [encTy_eq] at hx0
   rw [encEx_eq] at hx1
   have w0 := x0.size_le_wt
   have w1 := x1.bulk_le_wt
   have hc := partsLaw_ok hG haw x0 x1 (by omega) (by omega)
   refine (hc.2 W.cell? hg W #[v0, v1] (fun _ _ h => h) ?_).mono fun o W' h => ?_
   ·simp only [encEx_eq,encTy_eq]
    exact .cons (rep_one (by simp [tyCells]) hx0) (.cons (rep_one (by simp [exCells]) hx1) (.nil _))
   ·obtain ⟨F', x, rfl, -, -, -, ⟨hg', hx⟩, hbel⟩ := h
    obtain rfl := rep_sc hx
    exact ⟨rfl, hbel⟩
  by_cases hge : 4 ≤ n
  ·exact go (gGe n hge) rfl (@Gl.mk (gGe n hge) _ (fun g hg => by cases hg; exact hn) (fun g cs j x h => by cases h)) (awake_ge n hge)
  ·by_cases he3 : n = 3
   ·subst he3
    exact go gEq rfl (@Gl.mk gEq _ (fun g hg => by cases hg; exact hn) (fun g cs j x h => by cases h)) awake_eq
   ·have hl : n < 3 := by omega
    exact go (gLt n hl) rfl (@Gl.mk (gLt n hl) _ (fun g hg => by cases hg; exact hn) (fun g cs j x h => by cases h)) (awake_lt n hl)
 refine main.mono fun e W' ⟨he, hbel⟩ => ?_
 subst he
 have hlaid : laidOutB Tryz.prog = true := by kernel_rfl
 refine ⟨_, rfl, post_kept (pa := p0 ++ (p1 ++ [])) (pv := []) hW' (fun _ _ _ => trodAll_cons_mk (shut_bool Tryz.underlying4 _) trodAll_mk0) (fun sp hsp => ?_) (fun _ _ => rfl) (by simp)
  hbel (ok_one (by kernel_rfl) rfl (okWide_bool_mk Tryz.underlying4 _))⟩
 ·refine trodAll_cons_mk (WideElems.Trod_stays hlaid (by kernel_rfl) (of_decide_eq_true (by kernel_rfl)) h0' (fun x hx => hbel.same (hlt x (by simp [hx]))) (fun x hx => hsp x (by simp [hx])))
   (trodAll_cons_mk (WideElems.Trod_stays hlaid (by kernel_rfl) (of_decide_eq_true (by kernel_rfl)) h1' (fun x hx => hbel.same (hlt x (by simp [hx]))) (fun x hx => hsp x (by simp [hx])))
   trodAll_mk0)
end Go.Proofs.YtpjdfcigadnhcaaGreatDoor.lawSyntaxParts
end

section
namespace Go.Proofs.YtpjdfcigadnhcaaGreatDoor
open Go.ChangeShapes Go.WideShapes Go.ChangeAt Go.RowKit
theorem own : ownKnob Tryz.prog.godebug = none := by kernel_rfl
def wTy : Value := .agg #[.int .i64 0, .string ⟨#[]⟩, .string ⟨#[]⟩, .slice none 0 0, .slice none 0 0]
def wEx : Value := .agg #[.int .i64 0, .string ⟨#[]⟩, .string ⟨#[]⟩, .string ⟨#[]⟩, .int .i64 0, .slice none 0 0, .slice none 0 0, .slice none 0 0]
def wMd : Value := .agg #[.string ⟨#[]⟩, .slice none 0 0, .slice none 0 0]
def dTy (H : Type) : DataW H := .agg [.lit (.int .i64 0), .lit (.string []), .lit (.string []), .nil, .nil]
def dEx (H : Type) : DataW H := .agg [.lit (.int .i64 0), .lit (.string []), .lit (.string []), .lit (.string []), .lit (.int .i64 0), .nil, .nil, .nil]
def dMd (H : Type) : DataW H := .agg [.lit (.string []), .nil, .nil]
def layAs (cs : Array Value) : Obj → Obj
 | .cells _ t frozen => .cells cs t frozen
 | o => o
def accZ : List Nat := [128,191,160,191,128,159,144,191,128,143,0,0,0,0,0,0,0,0,0,0,0,0,0,0,0,0,0,0,0,0,0,0]
noncomputable def laidWorld (os : Os) : World :=
 { World.holding Tryz.prog os ⟨#[], #[], []⟩ with heap := ((World.holding Tryz.prog os ⟨#[], #[], []⟩).heap.modify 1 (layAs ⟨Pinned.utf8FirstZ.map fun n => Value.int .u8 (Int.ofNat n)⟩)).modify 2 (layAs ⟨accZ.map fun n => Value.int .u8 (Int.ofNat n)⟩) }
end Go.Proofs.YtpjdfcigadnhcaaGreatDoor
end
