/-
  CONTRACTS: neighbours, shapes.
  CONTRACTS: leaves of expressions.
  CONTRACTS: kids.
  CONTRACTS: neighbours of labels.
  CONTRACTS: closures over a form.
  CONTRACTS: labels against a form.
  CONTRACTS: how often a byte stands in a string.
  CONTRACTS: looking for a slash.
  CONTRACTS: prefixes, versions.
  CONTRACTS: splitting at a slash.
-/
import Derived.Test.YtpjdfcigadnhcaaGreatDoorP4
import Derived.Lib.Bytealg
set_option linter.all false
section
namespace Go.Proofs.YtpjdfcigadnhcaaGreatDoor
open Go.Eng
open Nat (reduceAdd reduceLT reduceLeDiff reduceMul reduceEqDiff reduceSub)
variable [Glob]
set_option maxHeartbeats 4000000
set_option maxRecDepth 100000
attribute [local irreducible] runM stepM valD stepOp stepD callF
theorem cmpS_tot (s t : ByteArray) : ∃ r, isN r ∧ FnOk Tryz.prog 183 [str s, str t] r := by
 refine fn_ex tt_ok (fn := Tryz.f183) Tryz.func183 rfl Tryz.call183 ?_
 simp only [startSt,Tryz.ntmps183,List.length_cons,List.length_nil,reduceAdd,reduceSub,List.replicate_succ,List.replicate_zero,List.cons_append,List.nil_append]
 refine ex_region_w tt_ok 8 [0,0,0,0,2] [] (by kernel_rfl) (by kernel_rfl) fun K hK => ?_
 try simp only [ltb]
 try simp only [ltb]
 simp only [go_sem,reduceIte,reduceAdd,reduceLT,reduceLeDiff,reduceMul,reduceEqDiff,reduceSub,reduceCtorEq,List.take_length]
 refine hK _ _ (by kernel_rfl) ?_
 simp only [mkW,lkF,reduceAdd,reduceEqDiff,if_true,if_false,reduceIte]
 refine ex_region_w tt_ok 8 [0,0,0,0,2,1,1,1] [] (by kernel_rfl) (by kernel_rfl) fun K hK => ?_
 try simp only [ltb]
 refine runX_cut 3 fun K1 hK1 => ?_
 simp only [ltb]
 simp only [go_sem,reduceIte,reduceAdd,reduceLT,reduceLeDiff,reduceMul,reduceEqDiff,reduceSub,reduceCtorEq,List.take_length]
 refine callF_nat (cmp_nat _ _) ?_
 rintro _ ⟨r1, rfl⟩
 try simp only [go_sem,reduceIte,reduceAdd,reduceLT,reduceLeDiff,reduceMul,reduceEqDiff,reduceSub,reduceCtorEq,List.take_length]
 refine hK1 _ ?_
 try simp only [ltb]
 simp only [go_sem,reduceIte,reduceAdd,reduceLT,reduceLeDiff,reduceMul,reduceEqDiff,reduceSub,reduceCtorEq,List.take_length]
 refine hK _ _ (by kernel_rfl) ?_
 simp only [mkW,lkF,reduceAdd,reduceEqDiff,if_true,if_false,reduceIte]
 refine ex_ret ?_
 exact ⟨.inl rfl, _, ⟨_, rfl⟩, rfl⟩
theorem compare_tot (s t : ByteArray) : ∃ r, isN r ∧ FnOk Tryz.prog 150 [str s, str t] r := by
 refine fn_ex tt_ok (fn := Tryz.f150) Tryz.func150 rfl Tryz.call150 ?_
 simp only [startSt,Tryz.ntmps150,List.length_cons,List.length_nil,reduceAdd,reduceSub,List.replicate_succ,List.replicate_zero,List.cons_append,List.nil_append]
 refine ex_region_w tt_ok 8 [0,0,0,0,2] [] (by kernel_rfl) (by kernel_rfl) fun K hK => ?_
 try simp only [ltb]
 try simp only [ltb]
 simp only [go_sem,reduceIte,reduceAdd,reduceLT,reduceLeDiff,reduceMul,reduceEqDiff,reduceSub,reduceCtorEq,List.take_length]
 refine hK _ _ (by kernel_rfl) ?_
 simp only [mkW,lkF,reduceAdd,reduceEqDiff,if_true,if_false,reduceIte]
 refine ex_region_w tt_ok 8 [0,0,0,0,2,1,1,1] [] (by kernel_rfl) (by kernel_rfl) fun K hK => ?_
 try simp only [ltb]
 refine runX_cut 3 fun K1 hK1 => ?_
 simp only [ltb]
 simp only [go_sem,reduceIte,reduceAdd,reduceLT,reduceLeDiff,reduceMul,reduceEqDiff,reduceSub,reduceCtorEq,List.take_length]
 refine callF_ex (cmpS_tot _ _) ?_
 rintro _ ⟨r1, rfl⟩
 try simp only [go_sem,reduceIte,reduceAdd,reduceLT,reduceLeDiff,reduceMul,reduceEqDiff,reduceSub,reduceCtorEq,List.take_length]
 refine hK1 _ ?_
 try simp only [ltb]
 simp only [go_sem,reduceIte,reduceAdd,reduceLT,reduceLeDiff,reduceMul,reduceEqDiff,reduceSub,reduceCtorEq,List.take_length]
 refine hK _ _ (by kernel_rfl) ?_
 simp only [mkW,lkF,reduceAdd,reduceEqDiff,if_true,if_false,reduceIte]
 refine ex_ret ?_
 exact ⟨.inl rfl, _, ⟨_, rfl⟩, rfl⟩
theorem increaseFd_tot (g : FuncId) (fs : List Fd) (hg : ∀ f : Fd, ∃ r, (∃ s : ByteArray, r = str s) ∧ FnOk Tryz.prog g [encFd f] r) (hl : fs.length ≤ 1048576) : ∃ r, isN r ∧ FnOk Tryz.prog 100 [.slice (encFds fs), .sc (.func (.func g) #[] #[])] r := by
 refine fn_ex tt_ok (fn := Tryz.f100) Tryz.func100 rfl Tryz.call100 ?_
 simp only [startSt,Tryz.ntmps100,List.length_cons,List.length_nil,reduceAdd,reduceSub,List.replicate_succ,List.replicate_zero,List.cons_append,List.nil_append]
 refine ex_region_w tt_ok 33 [0,0,0,0,2] [] (by kernel_rfl) (by kernel_rfl) fun K hK => ?_
 try simp only [ltb]
 try simp only [ltb]
 simp only [length_encFds,go_sem,reduceIte,reduceAdd,reduceLT,reduceLeDiff,reduceMul,reduceEqDiff,reduceSub,reduceCtorEq,List.take_length]
 refine hK _ _ (by kernel_rfl) ?_
 simp only [mkW,lkF,reduceAdd,reduceEqDiff,if_true,if_false,reduceIte]
 refine ex_seq ?_
 refine ex_region_w tt_ok 33 [0,0,0,0,0,2] [] (by kernel_rfl) (by kernel_rfl) fun K hK => ?_
 try simp only [ltb]
 try simp only [ltb]
 simp only [length_encFds,go_sem,reduceIte,reduceAdd,reduceLT,reduceLeDiff,reduceMul,reduceEqDiff,reduceSub,reduceCtorEq,List.take_length]
 refine hK _ _ (by kernel_rfl) ?_
 simp only [mkW,lkF,reduceAdd,reduceEqDiff,if_true,if_false,reduceIte]
 refine ex_block ?_
 refine ex_loopK [5] [num 1] 0 [true,true,false,false,true,true] (fun vs => ((fs.length : Int) - intOf (vs.headD .undef)).toNat) (fun vs => ∃ i : Nat, vs = [num i] ∧ 1 ≤ i) (by omega) (by simp only [maskFr,belowV,belowL,belowB,reduceLT,mkb]) (by simp only [maskFr,belowV,belowL,belowB,reduceLT,mkb]) (by rfl) (⟨1, rfl, by omega⟩) fun vs hI => ?_
 obtain ⟨i, rfl, hi⟩ := hI
 simp only [maskFr,belowV,belowL,belowB,reduceLT,mkb,putAll,List.set_cons_zero,List.set_cons_succ]
 refine ex_seq ?_
 refine ex_region_w tt_ok 33 [0,0,0,0,0,0,0,1,1,1,2] [] (by kernel_rfl) (by kernel_rfl) fun K hK => ?_
 try simp only [ltb]
 try simp only [ltb]
 simp only [length_encFds,go_sem,reduceIte,reduceAdd,reduceLT,reduceLeDiff,reduceMul,reduceEqDiff,reduceSub,reduceCtorEq,List.take_length]
 refine hK _ _ (by kernel_rfl) ?_
 simp only [mkW,lkF,reduceAdd,reduceEqDiff,if_true,if_false,reduceIte]
 refine ex_if rfl (fun hc10 => ?_) (fun hc10 => ?_)
 ·skip
  have hlt : i < fs.length := by simpa using hc10
  obtain ⟨x, hx⟩ : ∃ x, fs[i - 1]? = some x := ⟨_, List.getElem?_eq_getElem (by omega)⟩
  obtain ⟨y, hy⟩ : ∃ y, fs[i]? = some y := ⟨_, List.getElem?_eq_getElem hlt⟩
  have hw := i64_succ i (by omega)
  have hwm : IntKind.i64.wrap ((i : Int) - 1) = ((i - 1 : Nat) : Int) := by rw [IntWalk.i64_in _ (by omega)]; omega
  refine ex_skip ?_
  show Go.Eng.Ex _ _ _ _ _ _
  refine ex_seq ?_
  refine ex_block ?_
  refine ex_mixed_w tt_ok mixed_ok 33 [0,0,0,0,0,0,2,0,0,0,0,0,0,1,1,1,1,1,1,1,1,1,1,1,1,1,1] (by kernel_rfl) [⟨.n, 0, [], []⟩, ⟨.n, 0, [], []⟩, ⟨.n, 0, [], []⟩, ⟨.n, 0, [], []⟩, ⟨.r, 0, [], []⟩, ⟨.r, 0, [], []⟩, ⟨.n, 0, [], []⟩, ⟨.n, 0, [], []⟩, ⟨.n, 0, [], []⟩, ⟨.n, 0, [], []⟩, ⟨.r, 0, [], []⟩, ⟨.r, 0, [], []⟩, ⟨.n, 0, [], []⟩, ⟨.n, 0, [], []⟩, ⟨.n, 0, [], []⟩] 0 (by kernel_rfl) fun K hK => ?_
  try simp only [ltb,List.replicate_zero,List.replicate_succ]
  refine runM_cut 6 (by simp) (by simp) fun K1 hK1 => ?_
  try simp only [ltb]
  simp only [hw,hwm,get_encFds,hx,hy,encFd_eq,tyCells,length_encFds,go_sem,reduceIte,reduceAdd,reduceLT,reduceLeDiff,reduceMul,reduceEqDiff,reduceSub,reduceCtorEq,List.take_length,List.replicate]
  refine hK1 _ ?_
  refine runM_cut 1 (by simp) (by simp) fun K1 hK1 => ?_
  try simp only [ltb]
  simp only [hw,hwm,get_encFds,hx,hy,encFd_eq,tyCells,length_encFds,go_sem,reduceIte,reduceAdd,reduceLT,reduceLeDiff,reduceMul,reduceEqDiff,reduceSub,reduceCtorEq,List.take_length,List.replicate]
  refine callD_ex rfl (by have h := hg x; rw [encFd_eq] at h; exact h) ?_
  rintro _ ⟨sx, rfl⟩
  try simp only [hw,hwm,get_encFds,hx,hy,encFd_eq,tyCells,length_encFds,go_sem,reduceIte,reduceAdd,reduceLT,reduceLeDiff,reduceMul,reduceEqDiff,reduceSub,reduceCtorEq,List.take_length,List.replicate]
  refine hK1 _ ?_
  refine runM_cut 6 (by simp) (by simp) fun K1 hK1 => ?_
  try simp only [ltb]
  simp only [hw,hwm,get_encFds,hx,hy,encFd_eq,tyCells,length_encFds,go_sem,reduceIte,reduceAdd,reduceLT,reduceLeDiff,reduceMul,reduceEqDiff,reduceSub,reduceCtorEq,List.take_length,List.replicate]
  refine callD_ex rfl (by have h := hg y; rw [encFd_eq] at h; exact h) ?_
  rintro _ ⟨sy, rfl⟩
  try simp only [hw,hwm,get_encFds,hx,hy,encFd_eq,tyCells,length_encFds,go_sem,reduceIte,reduceAdd,reduceLT,reduceLeDiff,reduceMul,reduceEqDiff,reduceSub,reduceCtorEq,List.take_length,List.replicate]
  refine hK1 _ ?_
  refine runM_cut 1 (by simp) (by simp) fun K1 hK1 => ?_
  try simp only [ltb]
  simp only [hw,hwm,get_encFds,hx,hy,encFd_eq,tyCells,length_encFds,go_sem,reduceIte,reduceAdd,reduceLT,reduceLeDiff,reduceMul,reduceEqDiff,reduceSub,reduceCtorEq,List.take_length,List.replicate]
  refine callD_ex rfl (compare_tot _ _) ?_
  rintro _ ⟨r3, rfl⟩
  try simp only [hw,hwm,get_encFds,hx,hy,encFd_eq,tyCells,length_encFds,go_sem,reduceIte,reduceAdd,reduceLT,reduceLeDiff,reduceMul,reduceEqDiff,reduceSub,reduceCtorEq,List.take_length,List.replicate]
  refine hK1 _ ?_
  try simp only [ltb]
  simp only [hw,hwm,get_encFds,hx,hy,encFd_eq,tyCells,length_encFds,go_sem,reduceIte,reduceAdd,reduceLT,reduceLeDiff,reduceMul,reduceEqDiff,reduceSub,reduceCtorEq,List.take_length,List.replicate]
  refine hK _ _ (by kernel_rfl) ?_
  simp only [mkW,lkF,reduceAdd,reduceEqDiff,if_true,if_false,reduceIte]
  refine ex_block ?_
  refine ex_region_w tt_ok 33 [0,0,0,0,0,0,0,0,0,0,0,0,0,0,0,0,0,0,0,0,0,0,0,0,0,0,0,2,1,1] [] (by kernel_rfl) (by kernel_rfl) fun K hK => ?_
  try simp only [ltb]
  try simp only [ltb]
  simp only [hw,hwm,get_encFds,hx,hy,encFd_eq,tyCells,length_encFds,go_sem,reduceIte,reduceAdd,reduceLT,reduceLeDiff,reduceMul,reduceEqDiff,reduceSub,reduceCtorEq,List.take_length]
  refine hK _ _ (by kernel_rfl) ?_
  simp only [mkW,lkF,reduceAdd,reduceEqDiff,if_true,if_false,reduceIte]
  refine ex_if rfl (fun hc27 => ?_) (fun hc27 => ?_)
  ·skip
   refine ex_region_w tt_ok 33 [0,0,0,0,2] [] (by kernel_rfl) (by kernel_rfl) fun K hK => ?_
   try simp only [ltb]
   try simp only [ltb]
   simp only [hw,hwm,get_encFds,hx,hy,encFd_eq,tyCells,length_encFds,go_sem,reduceIte,reduceAdd,reduceLT,reduceLeDiff,reduceMul,reduceEqDiff,reduceSub,reduceCtorEq,List.take_length]
   refine hK _ _ (by kernel_rfl) ?_
   simp only [mkW,lkF,reduceAdd,reduceEqDiff,if_true,if_false,reduceIte]
   refine ex_ret ?_
   exact ⟨.inl rfl, _, ⟨_, rfl⟩, rfl⟩
  ·skip
   refine ex_region_w tt_ok 33 [0,0,0,0,0,0,0,0,0,0,0,0,0,0,0,0,0,0,0,0,0,0,0,0,0,0,0,0,0,0,2,1,1] [] (by kernel_rfl) (by kernel_rfl) fun K hK => ?_
   try simp only [ltb]
   try simp only [ltb]
   simp only [hw,hwm,get_encFds,hx,hy,encFd_eq,tyCells,length_encFds,go_sem,reduceIte,reduceAdd,reduceLT,reduceLeDiff,reduceMul,reduceEqDiff,reduceSub,reduceCtorEq,List.take_length]
   refine hK _ _ (by kernel_rfl) ?_
   simp only [mkW,lkF,reduceAdd,reduceEqDiff,if_true,if_false,reduceIte]
   refine ex_if rfl (fun hc30 => ?_) (fun hc30 => ?_)
   ·skip
    refine ex_region_w tt_ok 33 [0,0,0,0,2] [] (by kernel_rfl) (by kernel_rfl) fun K hK => ?_
    try simp only [ltb]
    try simp only [ltb]
    simp only [hw,hwm,get_encFds,hx,hy,encFd_eq,tyCells,length_encFds,go_sem,reduceIte,reduceAdd,reduceLT,reduceLeDiff,reduceMul,reduceEqDiff,reduceSub,reduceCtorEq,List.take_length]
    refine hK _ _ (by kernel_rfl) ?_
    simp only [mkW,lkF,reduceAdd,reduceEqDiff,if_true,if_false,reduceIte]
    refine ex_ret ?_
    exact ⟨.inl rfl, _, ⟨_, rfl⟩, rfl⟩
   ·skip
    refine ex_skip ?_
    show Go.Eng.Ex _ _ _ _ _ _
    refine ex_last_region_w tt_ok 33 [0,0,0,0,0,2,0,0,0,0,0,2,2] [] (by kernel_rfl) (by kernel_rfl) (by kernel_rfl) fun K hK => ?_
    try simp only [ltb]
    try simp only [ltb]
    simp only [hw,hwm,get_encFds,hx,hy,encFd_eq,tyCells,length_encFds,go_sem,reduceIte,reduceAdd,reduceLT,reduceLeDiff,reduceMul,reduceEqDiff,reduceSub,reduceCtorEq,List.take_length]
    refine hK _ _ (by kernel_rfl) ?_
    simp only [mkW,lkF,reduceAdd,reduceEqDiff,if_true,if_false,reduceIte]
    refine ⟨[_], ?_, ?_, 0, [true,true,false,false,true,true], by omega, by simp only [maskFr,belowV,belowL,belowB,reduceLT,mkb], by simp only [maskFr,belowV,belowL,belowB,reduceLT,mkb], by simp only [maskFr,belowV,belowL,belowB,reduceLT,mkb,putAll,List.set_cons_zero,List.set_cons_succ]; rfl⟩
    ·exact ⟨i + 1, rfl, by omega⟩
    ·simp only [intOf,List.headD_cons]; omega
 ·skip
  refine ex_exit ?_
  show Go.Eng.Ex _ _ _ _ _ _
  refine ex_region_w tt_ok 33 [0,0,0,0,2] [] (by kernel_rfl) (by kernel_rfl) fun K hK => ?_
  try simp only [ltb]
  try simp only [ltb]
  simp only [length_encFds,go_sem,reduceIte,reduceAdd,reduceLT,reduceLeDiff,reduceMul,reduceEqDiff,reduceSub,reduceCtorEq,List.take_length]
  refine hK _ _ (by kernel_rfl) ?_
  simp only [mkW,lkF,reduceAdd,reduceEqDiff,if_true,if_false,reduceIte]
  refine ex_ret ?_
  exact ⟨.inl rfl, _, ⟨_, rfl⟩, rfl⟩
theorem shaped_tot (t : Ty) (hl : t.flds.length ≤ 1048576) : ∃ r, isB r ∧ FnOk Tryz.prog 95 [encTy t] r := by
 refine fn_ex tt_ok (fn := Tryz.f95) Tryz.func95 rfl Tryz.call95 ?_
 simp only [startSt,Tryz.ntmps95,List.length_cons,List.length_nil,reduceAdd,reduceSub,List.replicate_succ,List.replicate_zero,List.cons_append,List.nil_append]
 simp only [encTy_eq,tyCells]
 refine ex_region_w tt_ok 106 [0,2,2] [] (by kernel_rfl) (by kernel_rfl) fun K hK => ?_
 try simp only [ltb]
 try simp only [ltb]
 simp only [length_encFds,length_encTys,go_sem,reduceIte,reduceAdd,reduceLT,reduceLeDiff,reduceMul,reduceEqDiff,reduceSub,reduceCtorEq,List.take_length]
 refine hK _ _ (by kernel_rfl) ?_
 simp only [mkW,lkF,reduceAdd,reduceEqDiff,if_true,if_false,reduceIte]
 refine ex_mixed_w tt_ok mixed_ok 106 [0,0,0,2,2,2,2,1,1,1,1,1,1,1,1,1,1,1,1] (by kernel_rfl) [⟨.n, 0, [], []⟩, ⟨.r, 0, [], []⟩, ⟨.n, 0, [], []⟩, ⟨.n, 0, [], []⟩, ⟨.r, 0, [], []⟩, ⟨.n, 0, [], []⟩, ⟨.n, 0, [], []⟩, ⟨.r, 0, [], []⟩, ⟨.n, 0, [], []⟩, ⟨.n, 0, [], []⟩, ⟨.r, 0, [], []⟩, ⟨.n, 0, [], []⟩, ⟨.n, 0, [], []⟩, ⟨.n, 0, [], []⟩, ⟨.n, 0, [], []⟩, ⟨.n, 0, [], []⟩] 0 (by kernel_rfl) fun K hK => ?_
 try simp only [ltb,List.replicate_zero,List.replicate_succ]
 refine runM_cut 6 (by simp) (by simp) fun K1 hK1 => ?_
 try simp only [ltb]
 simp only [length_encFds,length_encTys,go_sem,reduceIte,reduceAdd,reduceLT,reduceLeDiff,reduceMul,reduceEqDiff,reduceSub,reduceCtorEq,List.take_length,List.replicate]
 refine hK1 _ ?_
 refine runM_cut 6 (by simp) (by simp) fun K1 hK1 => ?_
 try simp only [ltb]
 simp only [length_encFds,length_encTys,go_sem,reduceIte,reduceAdd,reduceLT,reduceLeDiff,reduceMul,reduceEqDiff,reduceSub,reduceCtorEq,List.take_length,List.replicate]
 refine hK1 _ ?_
 try simp only [ltb]
 simp only [length_encFds,length_encTys,go_sem,reduceIte,reduceAdd,reduceLT,reduceLeDiff,reduceMul,reduceEqDiff,reduceSub,reduceCtorEq,List.take_length,List.replicate]
 refine hK _ _ (by kernel_rfl) ?_
 simp only [mkW,lkF,reduceAdd,reduceEqDiff,if_true,if_false,reduceIte]
 refine ex_seq ?_
 refine ex_region_w tt_ok 106 [0,0,0,0,0,0,0,0,0,0,0,0,0,0,0,0,0,0,0,1,1,1,1,1,1,1,2] [(3, 22)] (by kernel_rfl) (by kernel_rfl) fun K hK => ?_
 try simp only [ltb]
 refine runX_cut 4 fun K1 hK1 => ?_
 simp only [ltb]
 simp only [length_encFds,length_encTys,go_sem,reduceIte,reduceAdd,reduceLT,reduceLeDiff,reduceMul,reduceEqDiff,reduceSub,reduceCtorEq,List.take_length]
 refine hK1 _ ?_
 refine runX_case 22 (by rfl) fun b hb2_3 => ?_
 cases b
 ·skip
  try simp only [ltb]
  simp only [length_encFds,length_encTys,go_sem,reduceIte,reduceAdd,reduceLT,reduceLeDiff,reduceMul,reduceEqDiff,reduceSub,reduceCtorEq,List.take_length]
  refine hK _ _ (by kernel_rfl) ?_
  simp only [mkW,lkF,reduceAdd,reduceEqDiff,if_true,if_false,reduceIte]
  refine ex_cond rfl ?_
  refine ex_skip ?_
  show Go.Eng.Ex _ _ _ _ _ _
  refine ex_seq ?_
  refine ex_region_w tt_ok 106 [0,0,0,0,0,0,0,0,0,0,0,0,0,0,0,0,0,0,0,0,0,0,0,0,0,0,0,1,2] [] (by kernel_rfl) (by kernel_rfl) fun K hK => ?_
  try simp only [ltb]
  try simp only [ltb]
  simp only [length_encFds,length_encTys,go_sem,reduceIte,reduceAdd,reduceLT,reduceLeDiff,reduceMul,reduceEqDiff,reduceSub,reduceCtorEq,List.take_length]
  refine hK _ _ (by kernel_rfl) ?_
  simp only [mkW,lkF,reduceAdd,reduceEqDiff,if_true,if_false,reduceIte]
  refine ex_block ?_
  refine ex_seq ?_
  refine ex_region_w tt_ok 106 [0,0,0,0,0,0,0,0,0,0,0,0,0,0,0,0,0,0,0,0,0,0,0,0,0,0,0,0,0,2,1] [] (by kernel_rfl) (by kernel_rfl) fun K hK => ?_
  try simp only [ltb]
  try simp only [ltb]
  simp only [length_encFds,length_encTys,go_sem,reduceIte,reduceAdd,reduceLT,reduceLeDiff,reduceMul,reduceEqDiff,reduceSub,reduceCtorEq,List.take_length]
  refine hK _ _ (by kernel_rfl) ?_
  simp only [mkW,lkF,reduceAdd,reduceEqDiff,if_true,if_false,reduceIte]
  refine ex_if rfl (fun hc29 => ?_) (fun hc29 => ?_)
  ·skip
   refine ex_skip ?_
   show Go.Eng.Ex _ _ _ _ _ _
   refine ex_cond (b := true) (congrArg (fun b => V.sc (Value.bool b)) hc29) ?_
   refine ex_region_w tt_ok 106 [0,0,2,0,0,0,0,0,0,0,0,0,0,0,0,0,0,0,0,0,0,0,0,0,0,0,0,0,0,0,0,0,0,0,0,1,1,1,1,1,1,1,1,1,1,1,1,1,1] [(2, 37), (6, 41), (10, 45)] (by kernel_rfl) (by kernel_rfl) fun K hK => ?_
   try simp only [ltb]
   refine runX_cut 3 fun K1 hK1 => ?_
   simp only [ltb]
   simp only [length_encFds,length_encTys,go_sem,reduceIte,reduceAdd,reduceLT,reduceLeDiff,reduceMul,reduceEqDiff,reduceSub,reduceCtorEq,List.take_length]
   refine hK1 _ ?_
   refine runX_case 37 (by rfl) fun b hb10_2 => ?_
   cases b
   ·skip
    refine runX_cut 8 fun K1 hK1 => ?_
    simp only [ltb]
    simp only [length_encFds,length_encTys,go_sem,reduceIte,reduceAdd,reduceLT,reduceLeDiff,reduceMul,reduceEqDiff,reduceSub,reduceCtorEq,List.take_length]
    refine hK1 _ ?_
    try simp only [ltb]
    simp only [length_encFds,length_encTys,go_sem,reduceIte,reduceAdd,reduceLT,reduceLeDiff,reduceMul,reduceEqDiff,reduceSub,reduceCtorEq,List.take_length]
    refine hK _ _ (by kernel_rfl) ?_
    simp only [mkW,lkF,reduceAdd,reduceEqDiff,if_true,if_false,reduceIte]
    refine ex_ret ?_
    exact ⟨.inl rfl, _, ⟨_, rfl⟩, rfl⟩
   ·skip
    refine runX_cut 4 fun K1 hK1 => ?_
    simp only [ltb]
    simp only [length_encFds,length_encTys,go_sem,reduceIte,reduceAdd,reduceLT,reduceLeDiff,reduceMul,reduceEqDiff,reduceSub,reduceCtorEq,List.take_length]
    refine hK1 _ ?_
    refine runX_case 41 (by rfl) fun b hb10_6 => ?_
    cases b
    ·skip
     try simp only [ltb]
     simp only [length_encFds,length_encTys,go_sem,reduceIte,reduceAdd,reduceLT,reduceLeDiff,reduceMul,reduceEqDiff,reduceSub,reduceCtorEq,List.take_length]
     refine hK _ _ (by kernel_rfl) ?_
     simp only [mkW,lkF,reduceAdd,reduceEqDiff,if_true,if_false,reduceIte]
     refine ex_ret ?_
     exact ⟨.inl rfl, _, ⟨_, rfl⟩, rfl⟩
    ·skip
     refine runX_cut 4 fun K1 hK1 => ?_
     simp only [ltb]
     simp only [length_encFds,length_encTys,go_sem,reduceIte,reduceAdd,reduceLT,reduceLeDiff,reduceMul,reduceEqDiff,reduceSub,reduceCtorEq,List.take_length]
     refine hK1 _ ?_
     refine runX_case 45 (by rfl) fun b hb10_10 => ?_
     cases b
     ·skip
      try simp only [ltb]
      simp only [length_encFds,length_encTys,go_sem,reduceIte,reduceAdd,reduceLT,reduceLeDiff,reduceMul,reduceEqDiff,reduceSub,reduceCtorEq,List.take_length]
      refine hK _ _ (by kernel_rfl) ?_
      simp only [mkW,lkF,reduceAdd,reduceEqDiff,if_true,if_false,reduceIte]
      refine ex_ret ?_
      exact ⟨.inl rfl, _, ⟨_, rfl⟩, rfl⟩
     ·skip
      try simp only [ltb]
      simp only [length_encFds,length_encTys,go_sem,reduceIte,reduceAdd,reduceLT,reduceLeDiff,reduceMul,reduceEqDiff,reduceSub,reduceCtorEq,List.take_length]
      refine hK _ _ (by kernel_rfl) ?_
      simp only [mkW,lkF,reduceAdd,reduceEqDiff,if_true,if_false,reduceIte]
      refine ex_ret ?_
      exact ⟨.inl rfl, _, ⟨_, rfl⟩, rfl⟩
  ·skip
   refine ex_region_w tt_ok 106 [0,0,0,0,0,0,0,0,0,0,0,0,0,0,0,0,0,0,0,0,0,0,0,0,0,0,0,0,0,2,0,1] [] (by kernel_rfl) (by kernel_rfl) fun K hK => ?_
   try simp only [ltb]
   try simp only [ltb]
   simp only [length_encFds,length_encTys,go_sem,reduceIte,reduceAdd,reduceLT,reduceLeDiff,reduceMul,reduceEqDiff,reduceSub,reduceCtorEq,List.take_length]
   refine hK _ _ (by kernel_rfl) ?_
   simp only [mkW,lkF,reduceAdd,reduceEqDiff,if_true,if_false,reduceIte]
   refine ex_if rfl (fun hc29 => ?_) (fun hc29 => ?_)
   ·skip
    refine ex_skip ?_
    show Go.Eng.Ex _ _ _ _ _ _
    refine ex_cond (b := true) (congrArg (fun b => V.sc (Value.bool b)) hc29) ?_
    refine ex_region_w tt_ok 106 [0,0,2,0,0,0,0,0,0,0,0,0,0,0,0,0,0,0,0,0,0,0,0,0,0,0,0,0,0,0,0,0,0,0,0,1,1,1,1,1,1,1,1,1,1,1,1,1,1] [(2, 37), (6, 41), (10, 45)] (by kernel_rfl) (by kernel_rfl) fun K hK => ?_
    try simp only [ltb]
    refine runX_cut 3 fun K1 hK1 => ?_
    simp only [ltb]
    simp only [length_encFds,length_encTys,go_sem,reduceIte,reduceAdd,reduceLT,reduceLeDiff,reduceMul,reduceEqDiff,reduceSub,reduceCtorEq,List.take_length]
    refine hK1 _ ?_
    refine runX_case 37 (by rfl) fun b hb10_2 => ?_
    cases b
    ·skip
     refine runX_cut 8 fun K1 hK1 => ?_
     simp only [ltb]
     simp only [length_encFds,length_encTys,go_sem,reduceIte,reduceAdd,reduceLT,reduceLeDiff,reduceMul,reduceEqDiff,reduceSub,reduceCtorEq,List.take_length]
     refine hK1 _ ?_
     try simp only [ltb]
     simp only [length_encFds,length_encTys,go_sem,reduceIte,reduceAdd,reduceLT,reduceLeDiff,reduceMul,reduceEqDiff,reduceSub,reduceCtorEq,List.take_length]
     refine hK _ _ (by kernel_rfl) ?_
     simp only [mkW,lkF,reduceAdd,reduceEqDiff,if_true,if_false,reduceIte]
     refine ex_ret ?_
     exact ⟨.inl rfl, _, ⟨_, rfl⟩, rfl⟩
    ·skip
     refine runX_cut 4 fun K1 hK1 => ?_
     simp only [ltb]
     simp only [length_encFds,length_encTys,go_sem,reduceIte,reduceAdd,reduceLT,reduceLeDiff,reduceMul,reduceEqDiff,reduceSub,reduceCtorEq,List.take_length]
     refine hK1 _ ?_
     refine runX_case 41 (by rfl) fun b hb10_6 => ?_
     cases b
     ·skip
      try simp only [ltb]
      simp only [length_encFds,length_encTys,go_sem,reduceIte,reduceAdd,reduceLT,reduceLeDiff,reduceMul,reduceEqDiff,reduceSub,reduceCtorEq,List.take_length]
      refine hK _ _ (by kernel_rfl) ?_
      simp only [mkW,lkF,reduceAdd,reduceEqDiff,if_true,if_false,reduceIte]
      refine ex_ret ?_
      exact ⟨.inl rfl, _, ⟨_, rfl⟩, rfl⟩
     ·skip
      refine runX_cut 4 fun K1 hK1 => ?_
      simp only [ltb]
      simp only [length_encFds,length_encTys,go_sem,reduceIte,reduceAdd,reduceLT,reduceLeDiff,reduceMul,reduceEqDiff,reduceSub,reduceCtorEq,List.take_length]
      refine hK1 _ ?_
      refine runX_case 45 (by rfl) fun b hb10_10 => ?_
      cases b
      ·skip
       try simp only [ltb]
       simp only [length_encFds,length_encTys,go_sem,reduceIte,reduceAdd,reduceLT,reduceLeDiff,reduceMul,reduceEqDiff,reduceSub,reduceCtorEq,List.take_length]
       refine hK _ _ (by kernel_rfl) ?_
       simp only [mkW,lkF,reduceAdd,reduceEqDiff,if_true,if_false,reduceIte]
       refine ex_ret ?_
       exact ⟨.inl rfl, _, ⟨_, rfl⟩, rfl⟩
      ·skip
       try simp only [ltb]
       simp only [length_encFds,length_encTys,go_sem,reduceIte,reduceAdd,reduceLT,reduceLeDiff,reduceMul,reduceEqDiff,reduceSub,reduceCtorEq,List.take_length]
       refine hK _ _ (by kernel_rfl) ?_
       simp only [mkW,lkF,reduceAdd,reduceEqDiff,if_true,if_false,reduceIte]
       refine ex_ret ?_
       exact ⟨.inl rfl, _, ⟨_, rfl⟩, rfl⟩
   ·skip
    refine ex_region_w tt_ok 106 [0,0,0,0,0,0,0,0,0,0,0,0,0,0,0,0,0,0,0,0,0,0,0,0,0,0,0,0,0,2,0,0,1] [] (by kernel_rfl) (by kernel_rfl) fun K hK => ?_
    try simp only [ltb]
    try simp only [ltb]
    simp only [length_encFds,length_encTys,go_sem,reduceIte,reduceAdd,reduceLT,reduceLeDiff,reduceMul,reduceEqDiff,reduceSub,reduceCtorEq,List.take_length]
    refine hK _ _ (by kernel_rfl) ?_
    simp only [mkW,lkF,reduceAdd,reduceEqDiff,if_true,if_false,reduceIte]
    refine ex_if rfl (fun hc29 => ?_) (fun hc29 => ?_)
    ·skip
     refine ex_skip ?_
     show Go.Eng.Ex _ _ _ _ _ _
     refine ex_cond (b := true) (congrArg (fun b => V.sc (Value.bool b)) hc29) ?_
     refine ex_region_w tt_ok 106 [0,0,2,0,0,0,0,0,0,0,0,0,0,0,0,0,0,0,0,0,0,0,0,0,0,0,0,0,0,0,0,0,0,0,0,1,1,1,1,1,1,1,1,1,1,1,1,1,1] [(2, 37), (6, 41), (10, 45)] (by kernel_rfl) (by kernel_rfl) fun K hK => ?_
     try simp only [ltb]
     refine runX_cut 3 fun K1 hK1 => ?_
     simp only [ltb]
     simp only [length_encFds,length_encTys,go_sem,reduceIte,reduceAdd,reduceLT,reduceLeDiff,reduceMul,reduceEqDiff,reduceSub,reduceCtorEq,List.take_length]
     refine hK1 _ ?_
     refine runX_case 37 (by rfl) fun b hb10_2 => ?_
     cases b
     ·skip
      refine runX_cut 8 fun K1 hK1 => ?_
      simp only [ltb]
      simp only [length_encFds,length_encTys,go_sem,reduceIte,reduceAdd,reduceLT,reduceLeDiff,reduceMul,reduceEqDiff,reduceSub,reduceCtorEq,List.take_length]
      refine hK1 _ ?_
      try simp only [ltb]
      simp only [length_encFds,length_encTys,go_sem,reduceIte,reduceAdd,reduceLT,reduceLeDiff,reduceMul,reduceEqDiff,reduceSub,reduceCtorEq,List.take_length]
      refine hK _ _ (by kernel_rfl) ?_
      simp only [mkW,lkF,reduceAdd,reduceEqDiff,if_true,if_false,reduceIte]
      refine ex_ret ?_
      exact ⟨.inl rfl, _, ⟨_, rfl⟩, rfl⟩
     ·skip
      refine runX_cut 4 fun K1 hK1 => ?_
      simp only [ltb]
      simp only [length_encFds,length_encTys,go_sem,reduceIte,reduceAdd,reduceLT,reduceLeDiff,reduceMul,reduceEqDiff,reduceSub,reduceCtorEq,List.take_length]
      refine hK1 _ ?_
      refine runX_case 41 (by rfl) fun b hb10_6 => ?_
      cases b
      ·skip
       try simp only [ltb]
       simp only [length_encFds,length_encTys,go_sem,reduceIte,reduceAdd,reduceLT,reduceLeDiff,reduceMul,reduceEqDiff,reduceSub,reduceCtorEq,List.take_length]
       refine hK _ _ (by kernel_rfl) ?_
       simp only [mkW,lkF,reduceAdd,reduceEqDiff,if_true,if_false,reduceIte]
       refine ex_ret ?_
       exact ⟨.inl rfl, _, ⟨_, rfl⟩, rfl⟩
      ·skip
       refine runX_cut 4 fun K1 hK1 => ?_
       simp only [ltb]
       simp only [length_encFds,length_encTys,go_sem,reduceIte,reduceAdd,reduceLT,reduceLeDiff,reduceMul,reduceEqDiff,reduceSub,reduceCtorEq,List.take_length]
       refine hK1 _ ?_
       refine runX_case 45 (by rfl) fun b hb10_10 => ?_
       cases b
       ·skip
        try simp only [ltb]
        simp only [length_encFds,length_encTys,go_sem,reduceIte,reduceAdd,reduceLT,reduceLeDiff,reduceMul,reduceEqDiff,reduceSub,reduceCtorEq,List.take_length]
        refine hK _ _ (by kernel_rfl) ?_
        simp only [mkW,lkF,reduceAdd,reduceEqDiff,if_true,if_false,reduceIte]
        refine ex_ret ?_
        exact ⟨.inl rfl, _, ⟨_, rfl⟩, rfl⟩
       ·skip
        try simp only [ltb]
        simp only [length_encFds,length_encTys,go_sem,reduceIte,reduceAdd,reduceLT,reduceLeDiff,reduceMul,reduceEqDiff,reduceSub,reduceCtorEq,List.take_length]
        refine hK _ _ (by kernel_rfl) ?_
        simp only [mkW,lkF,reduceAdd,reduceEqDiff,if_true,if_false,reduceIte]
        refine ex_ret ?_
        exact ⟨.inl rfl, _, ⟨_, rfl⟩, rfl⟩
    ·skip
     refine ex_region_w tt_ok 106 [0,0,0,0,0,0,0,0,0,0,0,0,0,0,0,0,0,0,0,0,0,0,0,0,0,0,0,0,0,2,0,0,0,1] [] (by kernel_rfl) (by kernel_rfl) fun K hK => ?_
     try simp only [ltb]
     try simp only [ltb]
     simp only [length_encFds,length_encTys,go_sem,reduceIte,reduceAdd,reduceLT,reduceLeDiff,reduceMul,reduceEqDiff,reduceSub,reduceCtorEq,List.take_length]
     refine hK _ _ (by kernel_rfl) ?_
     simp only [mkW,lkF,reduceAdd,reduceEqDiff,if_true,if_false,reduceIte]
     refine ex_if rfl (fun hc29 => ?_) (fun hc29 => ?_)
     ·skip
      refine ex_skip ?_
      show Go.Eng.Ex _ _ _ _ _ _
      refine ex_cond (b := true) (congrArg (fun b => V.sc (Value.bool b)) hc29) ?_
      refine ex_region_w tt_ok 106 [0,0,2,0,0,0,0,0,0,0,0,0,0,0,0,0,0,0,0,0,0,0,0,0,0,0,0,0,0,0,0,0,0,0,0,1,1,1,1,1,1,1,1,1,1,1,1,1,1] [(2, 37), (6, 41), (10, 45)] (by kernel_rfl) (by kernel_rfl) fun K hK => ?_
      try simp only [ltb]
      refine runX_cut 3 fun K1 hK1 => ?_
      simp only [ltb]
      simp only [length_encFds,length_encTys,go_sem,reduceIte,reduceAdd,reduceLT,reduceLeDiff,reduceMul,reduceEqDiff,reduceSub,reduceCtorEq,List.take_length]
      refine hK1 _ ?_
      refine runX_case 37 (by rfl) fun b hb10_2 => ?_
      cases b
      ·skip
       refine runX_cut 8 fun K1 hK1 => ?_
       simp only [ltb]
       simp only [length_encFds,length_encTys,go_sem,reduceIte,reduceAdd,reduceLT,reduceLeDiff,reduceMul,reduceEqDiff,reduceSub,reduceCtorEq,List.take_length]
       refine hK1 _ ?_
       try simp only [ltb]
       simp only [length_encFds,length_encTys,go_sem,reduceIte,reduceAdd,reduceLT,reduceLeDiff,reduceMul,reduceEqDiff,reduceSub,reduceCtorEq,List.take_length]
       refine hK _ _ (by kernel_rfl) ?_
       simp only [mkW,lkF,reduceAdd,reduceEqDiff,if_true,if_false,reduceIte]
       refine ex_ret ?_
       exact ⟨.inl rfl, _, ⟨_, rfl⟩, rfl⟩
      ·skip
       refine runX_cut 4 fun K1 hK1 => ?_
       simp only [ltb]
       simp only [length_encFds,length_encTys,go_sem,reduceIte,reduceAdd,reduceLT,reduceLeDiff,reduceMul,reduceEqDiff,reduceSub,reduceCtorEq,List.take_length]
       refine hK1 _ ?_
       refine runX_case 41 (by rfl) fun b hb10_6 => ?_
       cases b
       ·skip
        try simp only [ltb]
        simp only [length_encFds,length_encTys,go_sem,reduceIte,reduceAdd,reduceLT,reduceLeDiff,reduceMul,reduceEqDiff,reduceSub,reduceCtorEq,List.take_length]
        refine hK _ _ (by kernel_rfl) ?_
        simp only [mkW,lkF,reduceAdd,reduceEqDiff,if_true,if_false,reduceIte]
        refine ex_ret ?_
        exact ⟨.inl rfl, _, ⟨_, rfl⟩, rfl⟩
       ·skip
        refine runX_cut 4 fun K1 hK1 => ?_
        simp only [ltb]
        simp only [length_encFds,length_encTys,go_sem,reduceIte,reduceAdd,reduceLT,reduceLeDiff,reduceMul,reduceEqDiff,reduceSub,reduceCtorEq,List.take_length]
        refine hK1 _ ?_
        refine runX_case 45 (by rfl) fun b hb10_10 => ?_
        cases b
        ·skip
         try simp only [ltb]
         simp only [length_encFds,length_encTys,go_sem,reduceIte,reduceAdd,reduceLT,reduceLeDiff,reduceMul,reduceEqDiff,reduceSub,reduceCtorEq,List.take_length]
         refine hK _ _ (by kernel_rfl) ?_
         simp only [mkW,lkF,reduceAdd,reduceEqDiff,if_true,if_false,reduceIte]
         refine ex_ret ?_
         exact ⟨.inl rfl, _, ⟨_, rfl⟩, rfl⟩
        ·skip
         try simp only [ltb]
         simp only [length_encFds,length_encTys,go_sem,reduceIte,reduceAdd,reduceLT,reduceLeDiff,reduceMul,reduceEqDiff,reduceSub,reduceCtorEq,List.take_length]
         refine hK _ _ (by kernel_rfl) ?_
         simp only [mkW,lkF,reduceAdd,reduceEqDiff,if_true,if_false,reduceIte]
         refine ex_ret ?_
         exact ⟨.inl rfl, _, ⟨_, rfl⟩, rfl⟩
     ·skip
      refine ex_last_region_w tt_ok 106 [0,0,0,0,0,0,0,0,0,0,0,0,0,0,0,0,0,0,0,0,0,0,0,0,0,0,0,0,0,2,0,0,0,0,2] [] (by kernel_rfl) (by kernel_rfl) (by kernel_rfl) fun K hK => ?_
      try simp only [ltb]
      try simp only [ltb]
      simp only [length_encFds,length_encTys,go_sem,reduceIte,reduceAdd,reduceLT,reduceLeDiff,reduceMul,reduceEqDiff,reduceSub,reduceCtorEq,List.take_length]
      refine hK _ _ (by kernel_rfl) ?_
      simp only [mkW,lkF,reduceAdd,reduceEqDiff,if_true,if_false,reduceIte]
      show Go.Eng.Ex _ _ _ _ _ _
      refine ex_if rfl (fun hc29 => ?_) (fun hc29 => ?_)
      ·skip
       refine ex_region_w tt_ok 106 [0,0,2,0,0,0,0,0,0,0,0,0,0,0,0,0,0,0,0,0,0,0,0,0,0,0,0,0,0,0,0,0,0,0,0,1,1,1,1,1,1,1,1,1,1,1,1,1,1] [(2, 37), (6, 41), (10, 45)] (by kernel_rfl) (by kernel_rfl) fun K hK => ?_
       try simp only [ltb]
       refine runX_cut 3 fun K1 hK1 => ?_
       simp only [ltb]
       simp only [length_encFds,length_encTys,go_sem,reduceIte,reduceAdd,reduceLT,reduceLeDiff,reduceMul,reduceEqDiff,reduceSub,reduceCtorEq,List.take_length]
       refine hK1 _ ?_
       refine runX_case 37 (by rfl) fun b hb10_2 => ?_
       cases b
       ·skip
        refine runX_cut 8 fun K1 hK1 => ?_
        simp only [ltb]
        simp only [length_encFds,length_encTys,go_sem,reduceIte,reduceAdd,reduceLT,reduceLeDiff,reduceMul,reduceEqDiff,reduceSub,reduceCtorEq,List.take_length]
        refine hK1 _ ?_
        try simp only [ltb]
        simp only [length_encFds,length_encTys,go_sem,reduceIte,reduceAdd,reduceLT,reduceLeDiff,reduceMul,reduceEqDiff,reduceSub,reduceCtorEq,List.take_length]
        refine hK _ _ (by kernel_rfl) ?_
        simp only [mkW,lkF,reduceAdd,reduceEqDiff,if_true,if_false,reduceIte]
        refine ex_ret ?_
        exact ⟨.inl rfl, _, ⟨_, rfl⟩, rfl⟩
       ·skip
        refine runX_cut 4 fun K1 hK1 => ?_
        simp only [ltb]
        simp only [length_encFds,length_encTys,go_sem,reduceIte,reduceAdd,reduceLT,reduceLeDiff,reduceMul,reduceEqDiff,reduceSub,reduceCtorEq,List.take_length]
        refine hK1 _ ?_
        refine runX_case 41 (by rfl) fun b hb10_6 => ?_
        cases b
        ·skip
         try simp only [ltb]
         simp only [length_encFds,length_encTys,go_sem,reduceIte,reduceAdd,reduceLT,reduceLeDiff,reduceMul,reduceEqDiff,reduceSub,reduceCtorEq,List.take_length]
         refine hK _ _ (by kernel_rfl) ?_
         simp only [mkW,lkF,reduceAdd,reduceEqDiff,if_true,if_false,reduceIte]
         refine ex_ret ?_
         exact ⟨.inl rfl, _, ⟨_, rfl⟩, rfl⟩
        ·skip
         refine runX_cut 4 fun K1 hK1 => ?_
         simp only [ltb]
         simp only [length_encFds,length_encTys,go_sem,reduceIte,reduceAdd,reduceLT,reduceLeDiff,reduceMul,reduceEqDiff,reduceSub,reduceCtorEq,List.take_length]
         refine hK1 _ ?_
         refine runX_case 45 (by rfl) fun b hb10_10 => ?_
         cases b
         ·skip
          try simp only [ltb]
          simp only [length_encFds,length_encTys,go_sem,reduceIte,reduceAdd,reduceLT,reduceLeDiff,reduceMul,reduceEqDiff,reduceSub,reduceCtorEq,List.take_length]
          refine hK _ _ (by kernel_rfl) ?_
          simp only [mkW,lkF,reduceAdd,reduceEqDiff,if_true,if_false,reduceIte]
          refine ex_ret ?_
          exact ⟨.inl rfl, _, ⟨_, rfl⟩, rfl⟩
         ·skip
          try simp only [ltb]
          simp only [length_encFds,length_encTys,go_sem,reduceIte,reduceAdd,reduceLT,reduceLeDiff,reduceMul,reduceEqDiff,reduceSub,reduceCtorEq,List.take_length]
          refine hK _ _ (by kernel_rfl) ?_
          simp only [mkW,lkF,reduceAdd,reduceEqDiff,if_true,if_false,reduceIte]
          refine ex_ret ?_
          exact ⟨.inl rfl, _, ⟨_, rfl⟩, rfl⟩
      ·skip
       refine ex_region_w tt_ok 106 [0,0,0,0,0,0,0,0,0,0,0,0,0,0,0,0,0,0,0,0,0,0,0,0,0,0,0,0,0,0,0,0,0,0,0,0,0,0,0,0,0,0,0,0,0,0,0,0,0,2,1] [] (by kernel_rfl) (by kernel_rfl) fun K hK => ?_
       try simp only [ltb]
       try simp only [ltb]
       simp only [length_encFds,length_encTys,go_sem,reduceIte,reduceAdd,reduceLT,reduceLeDiff,reduceMul,reduceEqDiff,reduceSub,reduceCtorEq,List.take_length]
       refine hK _ _ (by kernel_rfl) ?_
       simp only [mkW,lkF,reduceAdd,reduceEqDiff,if_true,if_false,reduceIte]
       refine ex_if rfl (fun hc49 => ?_) (fun hc49 => ?_)
       ·skip
        refine ex_region_w tt_ok 106 [0,0,2,0,0,0,0,0,0,0,0,0,0,0,0,0,0,0,0,0,0,0,0,0,0,0,0,0,0,0,0,0,0,0,0,0,0,0,0,0,0,0,0,0,0,0,0,0,0,0,0,1,1,1,1,1,1,1,1,1,1,1,1,1,1] [(2, 53), (6, 57), (10, 61)] (by kernel_rfl) (by kernel_rfl) fun K hK => ?_
        try simp only [ltb]
        refine runX_cut 3 fun K1 hK1 => ?_
        simp only [ltb]
        simp only [length_encFds,length_encTys,go_sem,reduceIte,reduceAdd,reduceLT,reduceLeDiff,reduceMul,reduceEqDiff,reduceSub,reduceCtorEq,List.take_length]
        refine hK1 _ ?_
        refine runX_case 53 (by rfl) fun b hb12_2 => ?_
        cases b
        ·skip
         refine runX_cut 8 fun K1 hK1 => ?_
         simp only [ltb]
         simp only [length_encFds,length_encTys,go_sem,reduceIte,reduceAdd,reduceLT,reduceLeDiff,reduceMul,reduceEqDiff,reduceSub,reduceCtorEq,List.take_length]
         refine hK1 _ ?_
         try simp only [ltb]
         simp only [length_encFds,length_encTys,go_sem,reduceIte,reduceAdd,reduceLT,reduceLeDiff,reduceMul,reduceEqDiff,reduceSub,reduceCtorEq,List.take_length]
         refine hK _ _ (by kernel_rfl) ?_
         simp only [mkW,lkF,reduceAdd,reduceEqDiff,if_true,if_false,reduceIte]
         refine ex_ret ?_
         exact ⟨.inl rfl, _, ⟨_, rfl⟩, rfl⟩
        ·skip
         refine runX_cut 4 fun K1 hK1 => ?_
         simp only [ltb]
         simp only [length_encFds,length_encTys,go_sem,reduceIte,reduceAdd,reduceLT,reduceLeDiff,reduceMul,reduceEqDiff,reduceSub,reduceCtorEq,List.take_length]
         refine hK1 _ ?_
         refine runX_case 57 (by rfl) fun b hb12_6 => ?_
         cases b
         ·skip
          try simp only [ltb]
          simp only [length_encFds,length_encTys,go_sem,reduceIte,reduceAdd,reduceLT,reduceLeDiff,reduceMul,reduceEqDiff,reduceSub,reduceCtorEq,List.take_length]
          refine hK _ _ (by kernel_rfl) ?_
          simp only [mkW,lkF,reduceAdd,reduceEqDiff,if_true,if_false,reduceIte]
          refine ex_ret ?_
          exact ⟨.inl rfl, _, ⟨_, rfl⟩, rfl⟩
         ·skip
          refine runX_cut 4 fun K1 hK1 => ?_
          simp only [ltb]
          simp only [length_encFds,length_encTys,go_sem,reduceIte,reduceAdd,reduceLT,reduceLeDiff,reduceMul,reduceEqDiff,reduceSub,reduceCtorEq,List.take_length]
          refine hK1 _ ?_
          refine runX_case 61 (by rfl) fun b hb12_10 => ?_
          cases b
          ·skip
           try simp only [ltb]
           simp only [length_encFds,length_encTys,go_sem,reduceIte,reduceAdd,reduceLT,reduceLeDiff,reduceMul,reduceEqDiff,reduceSub,reduceCtorEq,List.take_length]
           refine hK _ _ (by kernel_rfl) ?_
           simp only [mkW,lkF,reduceAdd,reduceEqDiff,if_true,if_false,reduceIte]
           refine ex_ret ?_
           exact ⟨.inl rfl, _, ⟨_, rfl⟩, rfl⟩
          ·skip
           try simp only [ltb]
           simp only [length_encFds,length_encTys,go_sem,reduceIte,reduceAdd,reduceLT,reduceLeDiff,reduceMul,reduceEqDiff,reduceSub,reduceCtorEq,List.take_length]
           refine hK _ _ (by kernel_rfl) ?_
           simp only [mkW,lkF,reduceAdd,reduceEqDiff,if_true,if_false,reduceIte]
           refine ex_ret ?_
           exact ⟨.inl rfl, _, ⟨_, rfl⟩, rfl⟩
       ·skip
        refine ex_seq ?_
        refine ex_region_w tt_ok 106 [0,0,0,0,0,0,0,0,0,0,0,0,0,0,0,0,0,0,0,0,0,0,0,0,0,0,0,0,0,0,0,0,0,0,0,0,0,0,0,0,0,0,0,0,0,0,0,0,0,0,0,0,0,0,0,0,0,0,0,0,0,0,0,0,0,2,1] [] (by kernel_rfl) (by kernel_rfl) fun K hK => ?_
        try simp only [ltb]
        try simp only [ltb]
        simp only [length_encFds,length_encTys,go_sem,reduceIte,reduceAdd,reduceLT,reduceLeDiff,reduceMul,reduceEqDiff,reduceSub,reduceCtorEq,List.take_length]
        refine hK _ _ (by kernel_rfl) ?_
        simp only [mkW,lkF,reduceAdd,reduceEqDiff,if_true,if_false,reduceIte]
        refine ex_if rfl (fun hc65 => ?_) (fun hc65 => ?_)
        ·skip
         refine ex_skip ?_
         show Go.Eng.Ex _ _ _ _ _ _
         refine ex_cond (b := true) (congrArg (fun b => V.sc (Value.bool b)) hc65) ?_
         refine ex_region_w tt_ok 106 [0,0,2,0,0,0,0,0,0,0,0,0,0,0,0,0,0,0,0,0,0,0,0,0,0,0,0,0,0,0,0,0,0,0,0,0,0,0,0,0,0,0,0,0,0,0,0,0,0,0,0,0,0,0,0,0,0,0,0,0,0,0,0,0,0,0,0,0,1,1,1,1,1,1,1,1,1,1] [(2, 70), (6, 74)] (by kernel_rfl) (by kernel_rfl) fun K hK => ?_
         try simp only [ltb]
         refine runX_cut 3 fun K1 hK1 => ?_
         simp only [ltb]
         simp only [length_encFds,length_encTys,go_sem,reduceIte,reduceAdd,reduceLT,reduceLeDiff,reduceMul,reduceEqDiff,reduceSub,reduceCtorEq,List.take_length]
         refine hK1 _ ?_
         refine runX_case 70 (by rfl) fun b hb15_2 => ?_
         cases b
         ·skip
          try simp only [ltb]
          simp only [length_encFds,length_encTys,go_sem,reduceIte,reduceAdd,reduceLT,reduceLeDiff,reduceMul,reduceEqDiff,reduceSub,reduceCtorEq,List.take_length]
          refine hK _ _ (by kernel_rfl) ?_
          simp only [mkW,lkF,reduceAdd,reduceEqDiff,if_true,if_false,reduceIte]
          refine ex_ret ?_
          exact ⟨.inl rfl, _, ⟨_, rfl⟩, rfl⟩
         ·skip
          refine runX_cut 4 fun K1 hK1 => ?_
          simp only [ltb]
          simp only [length_encFds,length_encTys,go_sem,reduceIte,reduceAdd,reduceLT,reduceLeDiff,reduceMul,reduceEqDiff,reduceSub,reduceCtorEq,List.take_length]
          refine hK1 _ ?_
          refine runX_case 74 (by rfl) fun b hb15_6 => ?_
          cases b
          ·skip
           try simp only [ltb]
           simp only [length_encFds,length_encTys,go_sem,reduceIte,reduceAdd,reduceLT,reduceLeDiff,reduceMul,reduceEqDiff,reduceSub,reduceCtorEq,List.take_length]
           refine hK _ _ (by kernel_rfl) ?_
           simp only [mkW,lkF,reduceAdd,reduceEqDiff,if_true,if_false,reduceIte]
           refine ex_ret ?_
           exact ⟨.inl rfl, _, ⟨_, rfl⟩, rfl⟩
          ·skip
           try simp only [ltb]
           simp only [length_encFds,length_encTys,go_sem,reduceIte,reduceAdd,reduceLT,reduceLeDiff,reduceMul,reduceEqDiff,reduceSub,reduceCtorEq,List.take_length]
           refine hK _ _ (by kernel_rfl) ?_
           simp only [mkW,lkF,reduceAdd,reduceEqDiff,if_true,if_false,reduceIte]
           refine ex_ret ?_
           exact ⟨.inl rfl, _, ⟨_, rfl⟩, rfl⟩
        ·skip
         refine ex_last_region_w tt_ok 106 [0,0,0,0,0,0,0,0,0,0,0,0,0,0,0,0,0,0,0,0,0,0,0,0,0,0,0,0,0,0,0,0,0,0,0,0,0,0,0,0,0,0,0,0,0,0,0,0,0,0,0,0,0,0,0,0,0,0,0,0,0,0,0,0,0,2,0,2] [] (by kernel_rfl) (by kernel_rfl) (by kernel_rfl) fun K hK => ?_
         try simp only [ltb]
         try simp only [ltb]
         simp only [length_encFds,length_encTys,go_sem,reduceIte,reduceAdd,reduceLT,reduceLeDiff,reduceMul,reduceEqDiff,reduceSub,reduceCtorEq,List.take_length]
         refine hK _ _ (by kernel_rfl) ?_
         simp only [mkW,lkF,reduceAdd,reduceEqDiff,if_true,if_false,reduceIte]
         show Go.Eng.Ex _ _ _ _ _ _
         refine ex_if rfl (fun hc65 => ?_) (fun hc65 => ?_)
         ·skip
          refine ex_region_w tt_ok 106 [0,0,2,0,0,0,0,0,0,0,0,0,0,0,0,0,0,0,0,0,0,0,0,0,0,0,0,0,0,0,0,0,0,0,0,0,0,0,0,0,0,0,0,0,0,0,0,0,0,0,0,0,0,0,0,0,0,0,0,0,0,0,0,0,0,0,0,0,1,1,1,1,1,1,1,1,1,1] [(2, 70), (6, 74)] (by kernel_rfl) (by kernel_rfl) fun K hK => ?_
          try simp only [ltb]
          refine runX_cut 3 fun K1 hK1 => ?_
          simp only [ltb]
          simp only [length_encFds,length_encTys,go_sem,reduceIte,reduceAdd,reduceLT,reduceLeDiff,reduceMul,reduceEqDiff,reduceSub,reduceCtorEq,List.take_length]
          refine hK1 _ ?_
          refine runX_case 70 (by rfl) fun b hb15_2 => ?_
          cases b
          ·skip
           try simp only [ltb]
           simp only [length_encFds,length_encTys,go_sem,reduceIte,reduceAdd,reduceLT,reduceLeDiff,reduceMul,reduceEqDiff,reduceSub,reduceCtorEq,List.take_length]
           refine hK _ _ (by kernel_rfl) ?_
           simp only [mkW,lkF,reduceAdd,reduceEqDiff,if_true,if_false,reduceIte]
           refine ex_ret ?_
           exact ⟨.inl rfl, _, ⟨_, rfl⟩, rfl⟩
          ·skip
           refine runX_cut 4 fun K1 hK1 => ?_
           simp only [ltb]
           simp only [length_encFds,length_encTys,go_sem,reduceIte,reduceAdd,reduceLT,reduceLeDiff,reduceMul,reduceEqDiff,reduceSub,reduceCtorEq,List.take_length]
           refine hK1 _ ?_
           refine runX_case 74 (by rfl) fun b hb15_6 => ?_
           cases b
           ·skip
            try simp only [ltb]
            simp only [length_encFds,length_encTys,go_sem,reduceIte,reduceAdd,reduceLT,reduceLeDiff,reduceMul,reduceEqDiff,reduceSub,reduceCtorEq,List.take_length]
            refine hK _ _ (by kernel_rfl) ?_
            simp only [mkW,lkF,reduceAdd,reduceEqDiff,if_true,if_false,reduceIte]
            refine ex_ret ?_
            exact ⟨.inl rfl, _, ⟨_, rfl⟩, rfl⟩
           ·skip
            try simp only [ltb]
            simp only [length_encFds,length_encTys,go_sem,reduceIte,reduceAdd,reduceLT,reduceLeDiff,reduceMul,reduceEqDiff,reduceSub,reduceCtorEq,List.take_length]
            refine hK _ _ (by kernel_rfl) ?_
            simp only [mkW,lkF,reduceAdd,reduceEqDiff,if_true,if_false,reduceIte]
            refine ex_ret ?_
            exact ⟨.inl rfl, _, ⟨_, rfl⟩, rfl⟩
         ·skip
          refine ex_region_w tt_ok 106 [0,0,0,0,0,0,0,0,0,0,0,0,0,0,0,0,0,0,0,0,0,0,0,0,0,0,0,0,0,0,0,0,0,0,0,0,0,0,0,0,0,0,0,0,0,0,0,0,0,0,0,0,0,0,0,0,0,0,0,0,0,0,0,0,0,0,0,0,0,0,0,0,0,0,0,0,0,0,2,1] [] (by kernel_rfl) (by kernel_rfl) fun K hK => ?_
          try simp only [ltb]
          try simp only [ltb]
          simp only [length_encFds,length_encTys,go_sem,reduceIte,reduceAdd,reduceLT,reduceLeDiff,reduceMul,reduceEqDiff,reduceSub,reduceCtorEq,List.take_length]
          refine hK _ _ (by kernel_rfl) ?_
          simp only [mkW,lkF,reduceAdd,reduceEqDiff,if_true,if_false,reduceIte]
          refine ex_if rfl (fun hc78 => ?_) (fun hc78 => ?_)
          ·skip
           refine ex_region_w tt_ok 106 [0,0,2,0,0,0,0,0,0,0,0,0,0,0,0,0,0,0,0,0,0,0,0,0,0,0,0,0,0,0,0,0,0,0,0,0,0,0,0,0,0,0,0,0,0,0,0,0,0,0,0,0,0,0,0,0,0,0,0,0,0,0,0,0,0,0,0,0,0,0,0,0,0,0,0,0,0,0,0,0,1,1,1,1,1,1,1,1,1,1] [(2, 82), (6, 86)] (by kernel_rfl) (by kernel_rfl) fun K hK => ?_
           try simp only [ltb]
           refine runX_cut 3 fun K1 hK1 => ?_
           simp only [ltb]
           simp only [length_encFds,length_encTys,go_sem,reduceIte,reduceAdd,reduceLT,reduceLeDiff,reduceMul,reduceEqDiff,reduceSub,reduceCtorEq,List.take_length]
           refine hK1 _ ?_
           refine runX_case 82 (by rfl) fun b hb17_2 => ?_
           cases b
           ·skip
            try simp only [ltb]
            simp only [length_encFds,length_encTys,go_sem,reduceIte,reduceAdd,reduceLT,reduceLeDiff,reduceMul,reduceEqDiff,reduceSub,reduceCtorEq,List.take_length]
            refine hK _ _ (by kernel_rfl) ?_
            simp only [mkW,lkF,reduceAdd,reduceEqDiff,if_true,if_false,reduceIte]
            refine ex_ret ?_
            exact ⟨.inl rfl, _, ⟨_, rfl⟩, rfl⟩
           ·skip
            refine runX_cut 4 fun K1 hK1 => ?_
            simp only [ltb]
            simp only [length_encFds,length_encTys,go_sem,reduceIte,reduceAdd,reduceLT,reduceLeDiff,reduceMul,reduceEqDiff,reduceSub,reduceCtorEq,List.take_length]
            refine hK1 _ ?_
            refine runX_case 86 (by rfl) fun b hb17_6 => ?_
            cases b
            ·skip
             try simp only [ltb]
             simp only [length_encFds,length_encTys,go_sem,reduceIte,reduceAdd,reduceLT,reduceLeDiff,reduceMul,reduceEqDiff,reduceSub,reduceCtorEq,List.take_length]
             refine hK _ _ (by kernel_rfl) ?_
             simp only [mkW,lkF,reduceAdd,reduceEqDiff,if_true,if_false,reduceIte]
             refine ex_ret ?_
             exact ⟨.inl rfl, _, ⟨_, rfl⟩, rfl⟩
            ·skip
             try simp only [ltb]
             simp only [length_encFds,length_encTys,go_sem,reduceIte,reduceAdd,reduceLT,reduceLeDiff,reduceMul,reduceEqDiff,reduceSub,reduceCtorEq,List.take_length]
             refine hK _ _ (by kernel_rfl) ?_
             simp only [mkW,lkF,reduceAdd,reduceEqDiff,if_true,if_false,reduceIte]
             refine ex_ret ?_
             exact ⟨.inl rfl, _, ⟨_, rfl⟩, rfl⟩
          ·skip
           refine ex_region_w tt_ok 106 [0,0,0,0,0,0,0,0,0,0,0,0,0,0,0,0,0,0,0,0,0,0,0,0,0,0,0,0,0,0,0,0,0,0,0,0,0,0,0,0,0,0,0,0,0,0,0,0,0,0,0,0,0,0,0,0,0,0,0,0,0,0,0,0,0,0,0,0,0,0,0,0,0,0,0,0,0,0,0,0,0,0,0,0,0,0,0,0,0,0,2,1] [] (by kernel_rfl) (by kernel_rfl) fun K hK => ?_
           try simp only [ltb]
           try simp only [ltb]
           simp only [length_encFds,length_encTys,go_sem,reduceIte,reduceAdd,reduceLT,reduceLeDiff,reduceMul,reduceEqDiff,reduceSub,reduceCtorEq,List.take_length]
           refine hK _ _ (by kernel_rfl) ?_
           simp only [mkW,lkF,reduceAdd,reduceEqDiff,if_true,if_false,reduceIte]
           refine ex_if rfl (fun hc90 => ?_) (fun hc90 => ?_)
           ·skip
            refine ex_region_w tt_ok 106 [0,0,2,0,0,0,0,0,0,0,0,0,0,0,0,0,0,0,0,0,0,0,0,0,0,0,0,0,0,0,0,0,0,0,0,0,0,0,0,0,0,0,0,0,0,0,0,0,0,0,0,0,0,0,0,0,0,0,0,0,0,0,0,0,0,0,0,0,0,0,0,0,0,0,0,0,0,0,0,0,0,0,0,0,0,0,0,0,0,0,0,0,1,1,1,1,1,1,1,1,1,1] [(2, 94), (6, 98)] (by kernel_rfl) (by kernel_rfl) fun K hK => ?_
            try simp only [ltb]
            refine runX_cut 3 fun K1 hK1 => ?_
            simp only [ltb]
            simp only [length_encFds,length_encTys,go_sem,reduceIte,reduceAdd,reduceLT,reduceLeDiff,reduceMul,reduceEqDiff,reduceSub,reduceCtorEq,List.take_length]
            refine hK1 _ ?_
            refine runX_case 94 (by rfl) fun b hb19_2 => ?_
            cases b
            ·skip
             try simp only [ltb]
             simp only [length_encFds,length_encTys,go_sem,reduceIte,reduceAdd,reduceLT,reduceLeDiff,reduceMul,reduceEqDiff,reduceSub,reduceCtorEq,List.take_length]
             refine hK _ _ (by kernel_rfl) ?_
             simp only [mkW,lkF,reduceAdd,reduceEqDiff,if_true,if_false,reduceIte]
             refine ex_ret ?_
             exact ⟨.inl rfl, _, ⟨_, rfl⟩, rfl⟩
            ·skip
             refine runX_cut 4 fun K1 hK1 => ?_
             simp only [ltb]
             simp only [length_encFds,length_encTys,go_sem,reduceIte,reduceAdd,reduceLT,reduceLeDiff,reduceMul,reduceEqDiff,reduceSub,reduceCtorEq,List.take_length]
             refine hK1 _ ?_
             refine runX_case 98 (by rfl) fun b hb19_6 => ?_
             cases b
             ·skip
              try simp only [ltb]
              simp only [length_encFds,length_encTys,go_sem,reduceIte,reduceAdd,reduceLT,reduceLeDiff,reduceMul,reduceEqDiff,reduceSub,reduceCtorEq,List.take_length]
              refine hK _ _ (by kernel_rfl) ?_
              simp only [mkW,lkF,reduceAdd,reduceEqDiff,if_true,if_false,reduceIte]
              refine ex_ret ?_
              exact ⟨.inl rfl, _, ⟨_, rfl⟩, rfl⟩
             ·skip
              try simp only [ltb]
              simp only [length_encFds,length_encTys,go_sem,reduceIte,reduceAdd,reduceLT,reduceLeDiff,reduceMul,reduceEqDiff,reduceSub,reduceCtorEq,List.take_length]
              refine hK _ _ (by kernel_rfl) ?_
              simp only [mkW,lkF,reduceAdd,reduceEqDiff,if_true,if_false,reduceIte]
              refine ex_ret ?_
              exact ⟨.inl rfl, _, ⟨_, rfl⟩, rfl⟩
           ·skip
            refine ex_region_w tt_ok 106 [0,0,0,0,0,0,0,0,0,0,0,0,0,0,0,0,0,0,0,0,0,0,0,0,0,0,0,0,0,0,0,0,0,0,0,0,0,0,0,0,0,0,0,0,0,0,0,0,0,0,0,0,0,0,0,0,0,0,0,0,0,0,0,0,0,0,0,0,0,0,0,0,0,0,0,0,0,0,0,0,0,0,0,0,0,0,0,0,0,0,0,0,0,0,0,0,0,0,0,0,0,0,2,1] [] (by kernel_rfl) (by kernel_rfl) fun K hK => ?_
            try simp only [ltb]
            try simp only [ltb]
            simp only [length_encFds,length_encTys,go_sem,reduceIte,reduceAdd,reduceLT,reduceLeDiff,reduceMul,reduceEqDiff,reduceSub,reduceCtorEq,List.take_length]
            refine hK _ _ (by kernel_rfl) ?_
            simp only [mkW,lkF,reduceAdd,reduceEqDiff,if_true,if_false,reduceIte]
            refine ex_if rfl (fun hc102 => ?_) (fun hc102 => ?_)
            ·skip
             refine ex_region_w tt_ok 106 [0,0,2,0,0,0,0,0,0,0,0,0,0,0,0,0,0,0,0,0,0,0,0,0,0,0,0,0,0,0,0,0,0,0,0,0,0,0,0,0,0,0,0,0,0,0,0,0,0,0,0,0,0,0,0,0,0,0,0,0,0,0,0,0,0,0,0,0,0,0,0,0,0,0,0,0,0,0,0,0,0,0,0,0,0,0,0,0,0,0,0,0,0,0,0,0,0,0,0,0,0,0,0,0,1,1] [] (by kernel_rfl) (by kernel_rfl) fun K hK => ?_
             try simp only [ltb]
             try simp only [ltb]
             simp only [length_encFds,length_encTys,go_sem,reduceIte,reduceAdd,reduceLT,reduceLeDiff,reduceMul,reduceEqDiff,reduceSub,reduceCtorEq,List.take_length]
             refine hK _ _ (by kernel_rfl) ?_
             simp only [mkW,lkF,reduceAdd,reduceEqDiff,if_true,if_false,reduceIte]
             refine ex_ret ?_
             exact ⟨.inl rfl, _, ⟨_, rfl⟩, rfl⟩
            ·skip
             refine ex_skip ?_
             show Go.Eng.Ex _ _ _ _ _ _
             refine ex_region_w tt_ok 106 [0,0,2] [] (by kernel_rfl) (by kernel_rfl) fun K hK => ?_
             try simp only [ltb]
             try simp only [ltb]
             simp only [length_encFds,length_encTys,go_sem,reduceIte,reduceAdd,reduceLT,reduceLeDiff,reduceMul,reduceEqDiff,reduceSub,reduceCtorEq,List.take_length]
             refine hK _ _ (by kernel_rfl) ?_
             simp only [mkW,lkF,reduceAdd,reduceEqDiff,if_true,if_false,reduceIte]
             refine ex_ret ?_
             exact ⟨.inl rfl, _, ⟨_, rfl⟩, rfl⟩
 ·skip
  refine runX_cut 3 fun K1 hK1 => ?_
  simp only [ltb]
  simp only [length_encFds,length_encTys,go_sem,reduceIte,reduceAdd,reduceLT,reduceLeDiff,reduceMul,reduceEqDiff,reduceSub,reduceCtorEq,List.take_length]
  refine callF_ex (containsFd_tot 146 t.flds shaped1_tot hl) ?_
  rintro _ ⟨r1, rfl⟩
  try simp only [length_encFds,length_encTys,go_sem,reduceIte,reduceAdd,reduceLT,reduceLeDiff,reduceMul,reduceEqDiff,reduceSub,reduceCtorEq,List.take_length]
  refine hK1 _ ?_
  try simp only [ltb]
  simp only [length_encFds,length_encTys,go_sem,reduceIte,reduceAdd,reduceLT,reduceLeDiff,reduceMul,reduceEqDiff,reduceSub,reduceCtorEq,List.take_length]
  refine hK _ _ (by kernel_rfl) ?_
  simp only [mkW,lkF,reduceAdd,reduceEqDiff,if_true,if_false,reduceIte]
  refine ex_if rfl (fun hc26 => ?_) (fun hc26 => ?_)
  ·skip
   refine ex_region_w tt_ok 106 [0,0,2] [] (by kernel_rfl) (by kernel_rfl) fun K hK => ?_
   try simp only [ltb]
   try simp only [ltb]
   simp only [length_encFds,length_encTys,go_sem,reduceIte,reduceAdd,reduceLT,reduceLeDiff,reduceMul,reduceEqDiff,reduceSub,reduceCtorEq,List.take_length]
   refine hK _ _ (by kernel_rfl) ?_
   simp only [mkW,lkF,reduceAdd,reduceEqDiff,if_true,if_false,reduceIte]
   refine ex_ret ?_
   exact ⟨.inl rfl, _, ⟨_, rfl⟩, rfl⟩
  ·skip
   refine ex_skip ?_
   show Go.Eng.Ex _ _ _ _ _ _
   refine ex_seq ?_
   refine ex_region_w tt_ok 106 [0,0,0,0,0,0,0,0,0,0,0,0,0,0,0,0,0,0,0,0,0,0,0,0,0,0,0,1,2] [] (by kernel_rfl) (by kernel_rfl) fun K hK => ?_
   try simp only [ltb]
   try simp only [ltb]
   simp only [length_encFds,length_encTys,go_sem,reduceIte,reduceAdd,reduceLT,reduceLeDiff,reduceMul,reduceEqDiff,reduceSub,reduceCtorEq,List.take_length]
   refine hK _ _ (by kernel_rfl) ?_
   simp only [mkW,lkF,reduceAdd,reduceEqDiff,if_true,if_false,reduceIte]
   refine ex_block ?_
   refine ex_seq ?_
   refine ex_region_w tt_ok 106 [0,0,0,0,0,0,0,0,0,0,0,0,0,0,0,0,0,0,0,0,0,0,0,0,0,0,0,0,0,2,1] [] (by kernel_rfl) (by kernel_rfl) fun K hK => ?_
   try simp only [ltb]
   try simp only [ltb]
   simp only [length_encFds,length_encTys,go_sem,reduceIte,reduceAdd,reduceLT,reduceLeDiff,reduceMul,reduceEqDiff,reduceSub,reduceCtorEq,List.take_length]
   refine hK _ _ (by kernel_rfl) ?_
   simp only [mkW,lkF,reduceAdd,reduceEqDiff,if_true,if_false,reduceIte]
   refine ex_if rfl (fun hc29 => ?_) (fun hc29 => ?_)
   ·skip
    refine ex_skip ?_
    show Go.Eng.Ex _ _ _ _ _ _
    refine ex_cond (b := true) (congrArg (fun b => V.sc (Value.bool b)) hc29) ?_
    refine ex_region_w tt_ok 106 [0,0,2,0,0,0,0,0,0,0,0,0,0,0,0,0,0,0,0,0,0,0,0,0,0,0,0,0,0,0,0,0,0,0,0,1,1,1,1,1,1,1,1,1,1,1,1,1,1] [(2, 37), (6, 41), (10, 45)] (by kernel_rfl) (by kernel_rfl) fun K hK => ?_
    try simp only [ltb]
    refine runX_cut 3 fun K1 hK1 => ?_
    simp only [ltb]
    simp only [length_encFds,length_encTys,go_sem,reduceIte,reduceAdd,reduceLT,reduceLeDiff,reduceMul,reduceEqDiff,reduceSub,reduceCtorEq,List.take_length]
    refine hK1 _ ?_
    refine runX_case 37 (by rfl) fun b hb10_2 => ?_
    cases b
    ·skip
     refine runX_cut 8 fun K1 hK1 => ?_
     simp only [ltb]
     simp only [length_encFds,length_encTys,go_sem,reduceIte,reduceAdd,reduceLT,reduceLeDiff,reduceMul,reduceEqDiff,reduceSub,reduceCtorEq,List.take_length]
     refine hK1 _ ?_
     try simp only [ltb]
     simp only [length_encFds,length_encTys,go_sem,reduceIte,reduceAdd,reduceLT,reduceLeDiff,reduceMul,reduceEqDiff,reduceSub,reduceCtorEq,List.take_length]
     refine hK _ _ (by kernel_rfl) ?_
     simp only [mkW,lkF,reduceAdd,reduceEqDiff,if_true,if_false,reduceIte]
     refine ex_ret ?_
     exact ⟨.inl rfl, _, ⟨_, rfl⟩, rfl⟩
    ·skip
     refine runX_cut 4 fun K1 hK1 => ?_
     simp only [ltb]
     simp only [length_encFds,length_encTys,go_sem,reduceIte,reduceAdd,reduceLT,reduceLeDiff,reduceMul,reduceEqDiff,reduceSub,reduceCtorEq,List.take_length]
     refine hK1 _ ?_
     refine runX_case 41 (by rfl) fun b hb10_6 => ?_
     cases b
     ·skip
      try simp only [ltb]
      simp only [length_encFds,length_encTys,go_sem,reduceIte,reduceAdd,reduceLT,reduceLeDiff,reduceMul,reduceEqDiff,reduceSub,reduceCtorEq,List.take_length]
      refine hK _ _ (by kernel_rfl) ?_
      simp only [mkW,lkF,reduceAdd,reduceEqDiff,if_true,if_false,reduceIte]
      refine ex_ret ?_
      exact ⟨.inl rfl, _, ⟨_, rfl⟩, rfl⟩
     ·skip
      refine runX_cut 4 fun K1 hK1 => ?_
      simp only [ltb]
      simp only [length_encFds,length_encTys,go_sem,reduceIte,reduceAdd,reduceLT,reduceLeDiff,reduceMul,reduceEqDiff,reduceSub,reduceCtorEq,List.take_length]
      refine hK1 _ ?_
      refine runX_case 45 (by rfl) fun b hb10_10 => ?_
      cases b
      ·skip
       try simp only [ltb]
       simp only [length_encFds,length_encTys,go_sem,reduceIte,reduceAdd,reduceLT,reduceLeDiff,reduceMul,reduceEqDiff,reduceSub,reduceCtorEq,List.take_length]
       refine hK _ _ (by kernel_rfl) ?_
       simp only [mkW,lkF,reduceAdd,reduceEqDiff,if_true,if_false,reduceIte]
       refine ex_ret ?_
       exact ⟨.inl rfl, _, ⟨_, rfl⟩, rfl⟩
      ·skip
       try simp only [ltb]
       simp only [length_encFds,length_encTys,go_sem,reduceIte,reduceAdd,reduceLT,reduceLeDiff,reduceMul,reduceEqDiff,reduceSub,reduceCtorEq,List.take_length]
       refine hK _ _ (by kernel_rfl) ?_
       simp only [mkW,lkF,reduceAdd,reduceEqDiff,if_true,if_false,reduceIte]
       refine ex_ret ?_
       exact ⟨.inl rfl, _, ⟨_, rfl⟩, rfl⟩
   ·skip
    refine ex_region_w tt_ok 106 [0,0,0,0,0,0,0,0,0,0,0,0,0,0,0,0,0,0,0,0,0,0,0,0,0,0,0,0,0,2,0,1] [] (by kernel_rfl) (by kernel_rfl) fun K hK => ?_
    try simp only [ltb]
    try simp only [ltb]
    simp only [length_encFds,length_encTys,go_sem,reduceIte,reduceAdd,reduceLT,reduceLeDiff,reduceMul,reduceEqDiff,reduceSub,reduceCtorEq,List.take_length]
    refine hK _ _ (by kernel_rfl) ?_
    simp only [mkW,lkF,reduceAdd,reduceEqDiff,if_true,if_false,reduceIte]
    refine ex_if rfl (fun hc29 => ?_) (fun hc29 => ?_)
    ·skip
     refine ex_skip ?_
     show Go.Eng.Ex _ _ _ _ _ _
     refine ex_cond (b := true) (congrArg (fun b => V.sc (Value.bool b)) hc29) ?_
     refine ex_region_w tt_ok 106 [0,0,2,0,0,0,0,0,0,0,0,0,0,0,0,0,0,0,0,0,0,0,0,0,0,0,0,0,0,0,0,0,0,0,0,1,1,1,1,1,1,1,1,1,1,1,1,1,1] [(2, 37), (6, 41), (10, 45)] (by kernel_rfl) (by kernel_rfl) fun K hK => ?_
     try simp only [ltb]
     refine runX_cut 3 fun K1 hK1 => ?_
     simp only [ltb]
     simp only [length_encFds,length_encTys,go_sem,reduceIte,reduceAdd,reduceLT,reduceLeDiff,reduceMul,reduceEqDiff,reduceSub,reduceCtorEq,List.take_length]
     refine hK1 _ ?_
     refine runX_case 37 (by rfl) fun b hb10_2 => ?_
     cases b
     ·skip
      refine runX_cut 8 fun K1 hK1 => ?_
      simp only [ltb]
      simp only [length_encFds,length_encTys,go_sem,reduceIte,reduceAdd,reduceLT,reduceLeDiff,reduceMul,reduceEqDiff,reduceSub,reduceCtorEq,List.take_length]
      refine hK1 _ ?_
      try simp only [ltb]
      simp only [length_encFds,length_encTys,go_sem,reduceIte,reduceAdd,reduceLT,reduceLeDiff,reduceMul,reduceEqDiff,reduceSub,reduceCtorEq,List.take_length]
      refine hK _ _ (by kernel_rfl) ?_
      simp only [mkW,lkF,reduceAdd,reduceEqDiff,if_true,if_false,reduceIte]
      refine ex_ret ?_
      exact ⟨.inl rfl, _, ⟨_, rfl⟩, rfl⟩
     ·skip
      refine runX_cut 4 fun K1 hK1 => ?_
      simp only [ltb]
      simp only [length_encFds,length_encTys,go_sem,reduceIte,reduceAdd,reduceLT,reduceLeDiff,reduceMul,reduceEqDiff,reduceSub,reduceCtorEq,List.take_length]
      refine hK1 _ ?_
      refine runX_case 41 (by rfl) fun b hb10_6 => ?_
      cases b
      ·skip
       try simp only [ltb]
       simp only [length_encFds,length_encTys,go_sem,reduceIte,reduceAdd,reduceLT,reduceLeDiff,reduceMul,reduceEqDiff,reduceSub,reduceCtorEq,List.take_length]
       refine hK _ _ (by kernel_rfl) ?_
       simp only [mkW,lkF,reduceAdd,reduceEqDiff,if_true,if_false,reduceIte]
       refine ex_ret ?_
       exact ⟨.inl rfl, _, ⟨_, rfl⟩, rfl⟩
      ·skip
       refine runX_cut 4 fun K1 hK1 => ?_
       simp only [ltb]
       simp only [length_encFds,length_encTys,go_sem,reduceIte,reduceAdd,reduceLT,reduceLeDiff,reduceMul,reduceEqDiff,reduceSub,reduceCtorEq,List.take_length]
       refine hK1 _ ?_
       refine runX_case 45 (by rfl) fun b hb10_10 => ?_
       cases b
       ·skip
        try simp only [ltb]
        simp only [length_encFds,length_encTys,go_sem,reduceIte,reduceAdd,reduceLT,reduceLeDiff,reduceMul,reduceEqDiff,reduceSub,reduceCtorEq,List.take_length]
        refine hK _ _ (by kernel_rfl) ?_
        simp only [mkW,lkF,reduceAdd,reduceEqDiff,if_true,if_false,reduceIte]
        refine ex_ret ?_
        exact ⟨.inl rfl, _, ⟨_, rfl⟩, rfl⟩
       ·skip
        try simp only [ltb]
        simp only [length_encFds,length_encTys,go_sem,reduceIte,reduceAdd,reduceLT,reduceLeDiff,reduceMul,reduceEqDiff,reduceSub,reduceCtorEq,List.take_length]
        refine hK _ _ (by kernel_rfl) ?_
        simp only [mkW,lkF,reduceAdd,reduceEqDiff,if_true,if_false,reduceIte]
        refine ex_ret ?_
        exact ⟨.inl rfl, _, ⟨_, rfl⟩, rfl⟩
    ·skip
     refine ex_region_w tt_ok 106 [0,0,0,0,0,0,0,0,0,0,0,0,0,0,0,0,0,0,0,0,0,0,0,0,0,0,0,0,0,2,0,0,1] [] (by kernel_rfl) (by kernel_rfl) fun K hK => ?_
     try simp only [ltb]
     try simp only [ltb]
     simp only [length_encFds,length_encTys,go_sem,reduceIte,reduceAdd,reduceLT,reduceLeDiff,reduceMul,reduceEqDiff,reduceSub,reduceCtorEq,List.take_length]
     refine hK _ _ (by kernel_rfl) ?_
     simp only [mkW,lkF,reduceAdd,reduceEqDiff,if_true,if_false,reduceIte]
     refine ex_if rfl (fun hc29 => ?_) (fun hc29 => ?_)
     ·skip
      refine ex_skip ?_
      show Go.Eng.Ex _ _ _ _ _ _
      refine ex_cond (b := true) (congrArg (fun b => V.sc (Value.bool b)) hc29) ?_
      refine ex_region_w tt_ok 106 [0,0,2,0,0,0,0,0,0,0,0,0,0,0,0,0,0,0,0,0,0,0,0,0,0,0,0,0,0,0,0,0,0,0,0,1,1,1,1,1,1,1,1,1,1,1,1,1,1] [(2, 37), (6, 41), (10, 45)] (by kernel_rfl) (by kernel_rfl) fun K hK => ?_
      try simp only [ltb]
      refine runX_cut 3 fun K1 hK1 => ?_
      simp only [ltb]
      simp only [length_encFds,length_encTys,go_sem,reduceIte,reduceAdd,reduceLT,reduceLeDiff,reduceMul,reduceEqDiff,reduceSub,reduceCtorEq,List.take_length]
      refine hK1 _ ?_
      refine runX_case 37 (by rfl) fun b hb10_2 => ?_
      cases b
      ·skip
       refine runX_cut 8 fun K1 hK1 => ?_
       simp only [ltb]
       simp only [length_encFds,length_encTys,go_sem,reduceIte,reduceAdd,reduceLT,reduceLeDiff,reduceMul,reduceEqDiff,reduceSub,reduceCtorEq,List.take_length]
       refine hK1 _ ?_
       try simp only [ltb]
       simp only [length_encFds,length_encTys,go_sem,reduceIte,reduceAdd,reduceLT,reduceLeDiff,reduceMul,reduceEqDiff,reduceSub,reduceCtorEq,List.take_length]
       refine hK _ _ (by kernel_rfl) ?_
       simp only [mkW,lkF,reduceAdd,reduceEqDiff,if_true,if_false,reduceIte]
       refine ex_ret ?_
       exact ⟨.inl rfl, _, ⟨_, rfl⟩, rfl⟩
      ·skip
       refine runX_cut 4 fun K1 hK1 => ?_
       simp only [ltb]
       simp only [length_encFds,length_encTys,go_sem,reduceIte,reduceAdd,reduceLT,reduceLeDiff,reduceMul,reduceEqDiff,reduceSub,reduceCtorEq,List.take_length]
       refine hK1 _ ?_
       refine runX_case 41 (by rfl) fun b hb10_6 => ?_
       cases b
       ·skip
        try simp only [ltb]
        simp only [length_encFds,length_encTys,go_sem,reduceIte,reduceAdd,reduceLT,reduceLeDiff,reduceMul,reduceEqDiff,reduceSub,reduceCtorEq,List.take_length]
        refine hK _ _ (by kernel_rfl) ?_
        simp only [mkW,lkF,reduceAdd,reduceEqDiff,if_true,if_false,reduceIte]
        refine ex_ret ?_
        exact ⟨.inl rfl, _, ⟨_, rfl⟩, rfl⟩
       ·skip
        refine runX_cut 4 fun K1 hK1 => ?_
        simp only [ltb]
        simp only [length_encFds,length_encTys,go_sem,reduceIte,reduceAdd,reduceLT,reduceLeDiff,reduceMul,reduceEqDiff,reduceSub,reduceCtorEq,List.take_length]
        refine hK1 _ ?_
        refine runX_case 45 (by rfl) fun b hb10_10 => ?_
        cases b
        ·skip
         try simp only [ltb]
         simp only [length_encFds,length_encTys,go_sem,reduceIte,reduceAdd,reduceLT,reduceLeDiff,reduceMul,reduceEqDiff,reduceSub,reduceCtorEq,List.take_length]
         refine hK _ _ (by kernel_rfl) ?_
         simp only [mkW,lkF,reduceAdd,reduceEqDiff,if_true,if_false,reduceIte]
         refine ex_ret ?_
         exact ⟨.inl rfl, _, ⟨_, rfl⟩, rfl⟩
        ·skip
         try simp only [ltb]
         simp only [length_encFds,length_encTys,go_sem,reduceIte,reduceAdd,reduceLT,reduceLeDiff,reduceMul,reduceEqDiff,reduceSub,reduceCtorEq,List.take_length]
         refine hK _ _ (by kernel_rfl) ?_
         simp only [mkW,lkF,reduceAdd,reduceEqDiff,if_true,if_false,reduceIte]
         refine ex_ret ?_
         exact ⟨.inl rfl, _, ⟨_, rfl⟩, rfl⟩
     ·skip
      refine ex_region_w tt_ok 106 [0,0,0,0,0,0,0,0,0,0,0,0,0,0,0,0,0,0,0,0,0,0,0,0,0,0,0,0,0,2,0,0,0,1] [] (by kernel_rfl) (by kernel_rfl) fun K hK => ?_
      try simp only [ltb]
      try simp only [ltb]
      simp only [length_encFds,length_encTys,go_sem,reduceIte,reduceAdd,reduceLT,reduceLeDiff,reduceMul,reduceEqDiff,reduceSub,reduceCtorEq,List.take_length]
      refine hK _ _ (by kernel_rfl) ?_
      simp only [mkW,lkF,reduceAdd,reduceEqDiff,if_true,if_false,reduceIte]
      refine ex_if rfl (fun hc29 => ?_) (fun hc29 => ?_)
      ·skip
       refine ex_skip ?_
       show Go.Eng.Ex _ _ _ _ _ _
       refine ex_cond (b := true) (congrArg (fun b => V.sc (Value.bool b)) hc29) ?_
       refine ex_region_w tt_ok 106 [0,0,2,0,0,0,0,0,0,0,0,0,0,0,0,0,0,0,0,0,0,0,0,0,0,0,0,0,0,0,0,0,0,0,0,1,1,1,1,1,1,1,1,1,1,1,1,1,1] [(2, 37), (6, 41), (10, 45)] (by kernel_rfl) (by kernel_rfl) fun K hK => ?_
       try simp only [ltb]
       refine runX_cut 3 fun K1 hK1 => ?_
       simp only [ltb]
       simp only [length_encFds,length_encTys,go_sem,reduceIte,reduceAdd,reduceLT,reduceLeDiff,reduceMul,reduceEqDiff,reduceSub,reduceCtorEq,List.take_length]
       refine hK1 _ ?_
       refine runX_case 37 (by rfl) fun b hb10_2 => ?_
       cases b
       ·skip
        refine runX_cut 8 fun K1 hK1 => ?_
        simp only [ltb]
        simp only [length_encFds,length_encTys,go_sem,reduceIte,reduceAdd,reduceLT,reduceLeDiff,reduceMul,reduceEqDiff,reduceSub,reduceCtorEq,List.take_length]
        refine hK1 _ ?_
        try simp only [ltb]
        simp only [length_encFds,length_encTys,go_sem,reduceIte,reduceAdd,reduceLT,reduceLeDiff,reduceMul,reduceEqDiff,reduceSub,reduceCtorEq,List.take_length]
        refine hK _ _ (by kernel_rfl) ?_
        simp only [mkW,lkF,reduceAdd,reduceEqDiff,if_true,if_false,reduceIte]
        refine ex_ret ?_
        exact ⟨.inl rfl, _, ⟨_, rfl⟩, rfl⟩
       ·skip
        refine runX_cut 4 fun K1 hK1 => ?_
        simp only [ltb]
        simp only [length_encFds,length_encTys,go_sem,reduceIte,reduceAdd,reduceLT,reduceLeDiff,reduceMul,reduceEqDiff,reduceSub,reduceCtorEq,List.take_length]
        refine hK1 _ ?_
        refine runX_case 41 (by rfl) fun b hb10_6 => ?_
        cases b
        ·skip
         try simp only [ltb]
         simp only [length_encFds,length_encTys,go_sem,reduceIte,reduceAdd,reduceLT,reduceLeDiff,reduceMul,reduceEqDiff,reduceSub,reduceCtorEq,List.take_length]
         refine hK _ _ (by kernel_rfl) ?_
         simp only [mkW,lkF,reduceAdd,reduceEqDiff,if_true,if_false,reduceIte]
         refine ex_ret ?_
         exact ⟨.inl rfl, _, ⟨_, rfl⟩, rfl⟩
        ·skip
         refine runX_cut 4 fun K1 hK1 => ?_
         simp only [ltb]
         simp only [length_encFds,length_encTys,go_sem,reduceIte,reduceAdd,reduceLT,reduceLeDiff,reduceMul,reduceEqDiff,reduceSub,reduceCtorEq,List.take_length]
         refine hK1 _ ?_
         refine runX_case 45 (by rfl) fun b hb10_10 => ?_
         cases b
         ·skip
          try simp only [ltb]
          simp only [length_encFds,length_encTys,go_sem,reduceIte,reduceAdd,reduceLT,reduceLeDiff,reduceMul,reduceEqDiff,reduceSub,reduceCtorEq,List.take_length]
          refine hK _ _ (by kernel_rfl) ?_
          simp only [mkW,lkF,reduceAdd,reduceEqDiff,if_true,if_false,reduceIte]
          refine ex_ret ?_
          exact ⟨.inl rfl, _, ⟨_, rfl⟩, rfl⟩
         ·skip
          try simp only [ltb]
          simp only [length_encFds,length_encTys,go_sem,reduceIte,reduceAdd,reduceLT,reduceLeDiff,reduceMul,reduceEqDiff,reduceSub,reduceCtorEq,List.take_length]
          refine hK _ _ (by kernel_rfl) ?_
          simp only [mkW,lkF,reduceAdd,reduceEqDiff,if_true,if_false,reduceIte]
          refine ex_ret ?_
          exact ⟨.inl rfl, _, ⟨_, rfl⟩, rfl⟩
      ·skip
       refine ex_last_region_w tt_ok 106 [0,0,0,0,0,0,0,0,0,0,0,0,0,0,0,0,0,0,0,0,0,0,0,0,0,0,0,0,0,2,0,0,0,0,2] [] (by kernel_rfl) (by kernel_rfl) (by kernel_rfl) fun K hK => ?_
       try simp only [ltb]
       try simp only [ltb]
       simp only [length_encFds,length_encTys,go_sem,reduceIte,reduceAdd,reduceLT,reduceLeDiff,reduceMul,reduceEqDiff,reduceSub,reduceCtorEq,List.take_length]
       refine hK _ _ (by kernel_rfl) ?_
       simp only [mkW,lkF,reduceAdd,reduceEqDiff,if_true,if_false,reduceIte]
       show Go.Eng.Ex _ _ _ _ _ _
       refine ex_if rfl (fun hc29 => ?_) (fun hc29 => ?_)
       ·skip
        refine ex_region_w tt_ok 106 [0,0,2,0,0,0,0,0,0,0,0,0,0,0,0,0,0,0,0,0,0,0,0,0,0,0,0,0,0,0,0,0,0,0,0,1,1,1,1,1,1,1,1,1,1,1,1,1,1] [(2, 37), (6, 41), (10, 45)] (by kernel_rfl) (by kernel_rfl) fun K hK => ?_
        try simp only [ltb]
        refine runX_cut 3 fun K1 hK1 => ?_
        simp only [ltb]
        simp only [length_encFds,length_encTys,go_sem,reduceIte,reduceAdd,reduceLT,reduceLeDiff,reduceMul,reduceEqDiff,reduceSub,reduceCtorEq,List.take_length]
        refine hK1 _ ?_
        refine runX_case 37 (by rfl) fun b hb10_2 => ?_
        cases b
        ·skip
         refine runX_cut 8 fun K1 hK1 => ?_
         simp only [ltb]
         simp only [length_encFds,length_encTys,go_sem,reduceIte,reduceAdd,reduceLT,reduceLeDiff,reduceMul,reduceEqDiff,reduceSub,reduceCtorEq,List.take_length]
         refine hK1 _ ?_
         try simp only [ltb]
         simp only [length_encFds,length_encTys,go_sem,reduceIte,reduceAdd,reduceLT,reduceLeDiff,reduceMul,reduceEqDiff,reduceSub,reduceCtorEq,List.take_length]
         refine hK _ _ (by kernel_rfl) ?_
         simp only [mkW,lkF,reduceAdd,reduceEqDiff,if_true,if_false,reduceIte]
         refine ex_ret ?_
         exact ⟨.inl rfl, _, ⟨_, rfl⟩, rfl⟩
        ·skip
         refine runX_cut 4 fun K1 hK1 => ?_
         simp only [ltb]
         simp only [length_encFds,length_encTys,go_sem,reduceIte,reduceAdd,reduceLT,reduceLeDiff,reduceMul,reduceEqDiff,reduceSub,reduceCtorEq,List.take_length]
         refine hK1 _ ?_
         refine runX_case 41 (by rfl) fun b hb10_6 => ?_
         cases b
         ·skip
          try simp only [ltb]
          simp only [length_encFds,length_encTys,go_sem,reduceIte,reduceAdd,reduceLT,reduceLeDiff,reduceMul,reduceEqDiff,reduceSub,reduceCtorEq,List.take_length]
          refine hK _ _ (by kernel_rfl) ?_
          simp only [mkW,lkF,reduceAdd,reduceEqDiff,if_true,if_false,reduceIte]
          refine ex_ret ?_
          exact ⟨.inl rfl, _, ⟨_, rfl⟩, rfl⟩
         ·skip
          refine runX_cut 4 fun K1 hK1 => ?_
          simp only [ltb]
          simp only [length_encFds,length_encTys,go_sem,reduceIte,reduceAdd,reduceLT,reduceLeDiff,reduceMul,reduceEqDiff,reduceSub,reduceCtorEq,List.take_length]
          refine hK1 _ ?_
          refine runX_case 45 (by rfl) fun b hb10_10 => ?_
          cases b
          ·skip
           try simp only [ltb]
           simp only [length_encFds,length_encTys,go_sem,reduceIte,reduceAdd,reduceLT,reduceLeDiff,reduceMul,reduceEqDiff,reduceSub,reduceCtorEq,List.take_length]
           refine hK _ _ (by kernel_rfl) ?_
           simp only [mkW,lkF,reduceAdd,reduceEqDiff,if_true,if_false,reduceIte]
           refine ex_ret ?_
           exact ⟨.inl rfl, _, ⟨_, rfl⟩, rfl⟩
          ·skip
           try simp only [ltb]
           simp only [length_encFds,length_encTys,go_sem,reduceIte,reduceAdd,reduceLT,reduceLeDiff,reduceMul,reduceEqDiff,reduceSub,reduceCtorEq,List.take_length]
           refine hK _ _ (by kernel_rfl) ?_
           simp only [mkW,lkF,reduceAdd,reduceEqDiff,if_true,if_false,reduceIte]
           refine ex_ret ?_
           exact ⟨.inl rfl, _, ⟨_, rfl⟩, rfl⟩
       ·skip
        refine ex_region_w tt_ok 106 [0,0,0,0,0,0,0,0,0,0,0,0,0,0,0,0,0,0,0,0,0,0,0,0,0,0,0,0,0,0,0,0,0,0,0,0,0,0,0,0,0,0,0,0,0,0,0,0,0,2,1] [] (by kernel_rfl) (by kernel_rfl) fun K hK => ?_
        try simp only [ltb]
        try simp only [ltb]
        simp only [length_encFds,length_encTys,go_sem,reduceIte,reduceAdd,reduceLT,reduceLeDiff,reduceMul,reduceEqDiff,reduceSub,reduceCtorEq,List.take_length]
        refine hK _ _ (by kernel_rfl) ?_
        simp only [mkW,lkF,reduceAdd,reduceEqDiff,if_true,if_false,reduceIte]
        refine ex_if rfl (fun hc49 => ?_) (fun hc49 => ?_)
        ·skip
         refine ex_region_w tt_ok 106 [0,0,2,0,0,0,0,0,0,0,0,0,0,0,0,0,0,0,0,0,0,0,0,0,0,0,0,0,0,0,0,0,0,0,0,0,0,0,0,0,0,0,0,0,0,0,0,0,0,0,0,1,1,1,1,1,1,1,1,1,1,1,1,1,1] [(2, 53), (6, 57), (10, 61)] (by kernel_rfl) (by kernel_rfl) fun K hK => ?_
         try simp only [ltb]
         refine runX_cut 3 fun K1 hK1 => ?_
         simp only [ltb]
         simp only [length_encFds,length_encTys,go_sem,reduceIte,reduceAdd,reduceLT,reduceLeDiff,reduceMul,reduceEqDiff,reduceSub,reduceCtorEq,List.take_length]
         refine hK1 _ ?_
         refine runX_case 53 (by rfl) fun b hb12_2 => ?_
         cases b
         ·skip
          refine runX_cut 8 fun K1 hK1 => ?_
          simp only [ltb]
          simp only [length_encFds,length_encTys,go_sem,reduceIte,reduceAdd,reduceLT,reduceLeDiff,reduceMul,reduceEqDiff,reduceSub,reduceCtorEq,List.take_length]
          refine hK1 _ ?_
          try simp only [ltb]
          simp only [length_encFds,length_encTys,go_sem,reduceIte,reduceAdd,reduceLT,reduceLeDiff,reduceMul,reduceEqDiff,reduceSub,reduceCtorEq,List.take_length]
          refine hK _ _ (by kernel_rfl) ?_
          simp only [mkW,lkF,reduceAdd,reduceEqDiff,if_true,if_false,reduceIte]
          refine ex_ret ?_
          exact ⟨.inl rfl, _, ⟨_, rfl⟩, rfl⟩
         ·skip
          refine runX_cut 4 fun K1 hK1 => ?_
          simp only [ltb]
          simp only [length_encFds,length_encTys,go_sem,reduceIte,reduceAdd,reduceLT,reduceLeDiff,reduceMul,reduceEqDiff,reduceSub,reduceCtorEq,List.take_length]
          refine hK1 _ ?_
          refine runX_case 57 (by rfl) fun b hb12_6 => ?_
          cases b
          ·skip
           try simp only [ltb]
           simp only [length_encFds,length_encTys,go_sem,reduceIte,reduceAdd,reduceLT,reduceLeDiff,reduceMul,reduceEqDiff,reduceSub,reduceCtorEq,List.take_length]
           refine hK _ _ (by kernel_rfl) ?_
           simp only [mkW,lkF,reduceAdd,reduceEqDiff,if_true,if_false,reduceIte]
           refine ex_ret ?_
           exact ⟨.inl rfl, _, ⟨_, rfl⟩, rfl⟩
          ·skip
           refine runX_cut 4 fun K1 hK1 => ?_
           simp only [ltb]
           simp only [length_encFds,length_encTys,go_sem,reduceIte,reduceAdd,reduceLT,reduceLeDiff,reduceMul,reduceEqDiff,reduceSub,reduceCtorEq,List.take_length]
           refine hK1 _ ?_
           refine runX_case 61 (by rfl) fun b hb12_10 => ?_
           cases b
           ·skip
            try simp only [ltb]
            simp only [length_encFds,length_encTys,go_sem,reduceIte,reduceAdd,reduceLT,reduceLeDiff,reduceMul,reduceEqDiff,reduceSub,reduceCtorEq,List.take_length]
            refine hK _ _ (by kernel_rfl) ?_
            simp only [mkW,lkF,reduceAdd,reduceEqDiff,if_true,if_false,reduceIte]
            refine ex_ret ?_
            exact ⟨.inl rfl, _, ⟨_, rfl⟩, rfl⟩
           ·skip
            try simp only [ltb]
            simp only [length_encFds,length_encTys,go_sem,reduceIte,reduceAdd,reduceLT,reduceLeDiff,reduceMul,reduceEqDiff,reduceSub,reduceCtorEq,List.take_length]
            refine hK _ _ (by kernel_rfl) ?_
            simp only [mkW,lkF,reduceAdd,reduceEqDiff,if_true,if_false,reduceIte]
            refine ex_ret ?_
            exact ⟨.inl rfl, _, ⟨_, rfl⟩, rfl⟩
        ·skip
         refine ex_seq ?_
         refine ex_region_w tt_ok 106 [0,0,0,0,0,0,0,0,0,0,0,0,0,0,0,0,0,0,0,0,0,0,0,0,0,0,0,0,0,0,0,0,0,0,0,0,0,0,0,0,0,0,0,0,0,0,0,0,0,0,0,0,0,0,0,0,0,0,0,0,0,0,0,0,0,2,1] [] (by kernel_rfl) (by kernel_rfl) fun K hK => ?_
         try simp only [ltb]
         try simp only [ltb]
         simp only [length_encFds,length_encTys,go_sem,reduceIte,reduceAdd,reduceLT,reduceLeDiff,reduceMul,reduceEqDiff,reduceSub,reduceCtorEq,List.take_length]
         refine hK _ _ (by kernel_rfl) ?_
         simp only [mkW,lkF,reduceAdd,reduceEqDiff,if_true,if_false,reduceIte]
         refine ex_if rfl (fun hc65 => ?_) (fun hc65 => ?_)
         ·skip
          refine ex_skip ?_
          show Go.Eng.Ex _ _ _ _ _ _
          refine ex_cond (b := true) (congrArg (fun b => V.sc (Value.bool b)) hc65) ?_
          refine ex_region_w tt_ok 106 [0,0,2,0,0,0,0,0,0,0,0,0,0,0,0,0,0,0,0,0,0,0,0,0,0,0,0,0,0,0,0,0,0,0,0,0,0,0,0,0,0,0,0,0,0,0,0,0,0,0,0,0,0,0,0,0,0,0,0,0,0,0,0,0,0,0,0,0,1,1,1,1,1,1,1,1,1,1] [(2, 70), (6, 74)] (by kernel_rfl) (by kernel_rfl) fun K hK => ?_
          try simp only [ltb]
          refine runX_cut 3 fun K1 hK1 => ?_
          simp only [ltb]
          simp only [length_encFds,length_encTys,go_sem,reduceIte,reduceAdd,reduceLT,reduceLeDiff,reduceMul,reduceEqDiff,reduceSub,reduceCtorEq,List.take_length]
          refine hK1 _ ?_
          refine runX_case 70 (by rfl) fun b hb15_2 => ?_
          cases b
          ·skip
           try simp only [ltb]
           simp only [length_encFds,length_encTys,go_sem,reduceIte,reduceAdd,reduceLT,reduceLeDiff,reduceMul,reduceEqDiff,reduceSub,reduceCtorEq,List.take_length]
           refine hK _ _ (by kernel_rfl) ?_
           simp only [mkW,lkF,reduceAdd,reduceEqDiff,if_true,if_false,reduceIte]
           refine ex_ret ?_
           exact ⟨.inl rfl, _, ⟨_, rfl⟩, rfl⟩
          ·skip
           refine runX_cut 4 fun K1 hK1 => ?_
           simp only [ltb]
           simp only [length_encFds,length_encTys,go_sem,reduceIte,reduceAdd,reduceLT,reduceLeDiff,reduceMul,reduceEqDiff,reduceSub,reduceCtorEq,List.take_length]
           refine hK1 _ ?_
           refine runX_case 74 (by rfl) fun b hb15_6 => ?_
           cases b
           ·skip
            try simp only [ltb]
            simp only [length_encFds,length_encTys,go_sem,reduceIte,reduceAdd,reduceLT,reduceLeDiff,reduceMul,reduceEqDiff,reduceSub,reduceCtorEq,List.take_length]
            refine hK _ _ (by kernel_rfl) ?_
            simp only [mkW,lkF,reduceAdd,reduceEqDiff,if_true,if_false,reduceIte]
            refine ex_ret ?_
            exact ⟨.inl rfl, _, ⟨_, rfl⟩, rfl⟩
           ·skip
            try simp only [ltb]
            simp only [length_encFds,length_encTys,go_sem,reduceIte,reduceAdd,reduceLT,reduceLeDiff,reduceMul,reduceEqDiff,reduceSub,reduceCtorEq,List.take_length]
            refine hK _ _ (by kernel_rfl) ?_
            simp only [mkW,lkF,reduceAdd,reduceEqDiff,if_true,if_false,reduceIte]
            refine ex_ret ?_
            exact ⟨.inl rfl, _, ⟨_, rfl⟩, rfl⟩
         ·skip
          refine ex_last_region_w tt_ok 106 [0,0,0,0,0,0,0,0,0,0,0,0,0,0,0,0,0,0,0,0,0,0,0,0,0,0,0,0,0,0,0,0,0,0,0,0,0,0,0,0,0,0,0,0,0,0,0,0,0,0,0,0,0,0,0,0,0,0,0,0,0,0,0,0,0,2,0,2] [] (by kernel_rfl) (by kernel_rfl) (by kernel_rfl) fun K hK => ?_
          try simp only [ltb]
          try simp only [ltb]
          simp only [length_encFds,length_encTys,go_sem,reduceIte,reduceAdd,reduceLT,reduceLeDiff,reduceMul,reduceEqDiff,reduceSub,reduceCtorEq,List.take_length]
          refine hK _ _ (by kernel_rfl) ?_
          simp only [mkW,lkF,reduceAdd,reduceEqDiff,if_true,if_false,reduceIte]
          show Go.Eng.Ex _ _ _ _ _ _
          refine ex_if rfl (fun hc65 => ?_) (fun hc65 => ?_)
          ·skip
           refine ex_region_w tt_ok 106 [0,0,2,0,0,0,0,0,0,0,0,0,0,0,0,0,0,0,0,0,0,0,0,0,0,0,0,0,0,0,0,0,0,0,0,0,0,0,0,0,0,0,0,0,0,0,0,0,0,0,0,0,0,0,0,0,0,0,0,0,0,0,0,0,0,0,0,0,1,1,1,1,1,1,1,1,1,1] [(2, 70), (6, 74)] (by kernel_rfl) (by kernel_rfl) fun K hK => ?_
           try simp only [ltb]
           refine runX_cut 3 fun K1 hK1 => ?_
           simp only [ltb]
           simp only [length_encFds,length_encTys,go_sem,reduceIte,reduceAdd,reduceLT,reduceLeDiff,reduceMul,reduceEqDiff,reduceSub,reduceCtorEq,List.take_length]
           refine hK1 _ ?_
           refine runX_case 70 (by rfl) fun b hb15_2 => ?_
           cases b
           ·skip
            try simp only [ltb]
            simp only [length_encFds,length_encTys,go_sem,reduceIte,reduceAdd,reduceLT,reduceLeDiff,reduceMul,reduceEqDiff,reduceSub,reduceCtorEq,List.take_length]
            refine hK _ _ (by kernel_rfl) ?_
            simp only [mkW,lkF,reduceAdd,reduceEqDiff,if_true,if_false,reduceIte]
            refine ex_ret ?_
            exact ⟨.inl rfl, _, ⟨_, rfl⟩, rfl⟩
           ·skip
            refine runX_cut 4 fun K1 hK1 => ?_
            simp only [ltb]
            simp only [length_encFds,length_encTys,go_sem,reduceIte,reduceAdd,reduceLT,reduceLeDiff,reduceMul,reduceEqDiff,reduceSub,reduceCtorEq,List.take_length]
            refine hK1 _ ?_
            refine runX_case 74 (by rfl) fun b hb15_6 => ?_
            cases b
            ·skip
             try simp only [ltb]
             simp only [length_encFds,length_encTys,go_sem,reduceIte,reduceAdd,reduceLT,reduceLeDiff,reduceMul,reduceEqDiff,reduceSub,reduceCtorEq,List.take_length]
             refine hK _ _ (by kernel_rfl) ?_
             simp only [mkW,lkF,reduceAdd,reduceEqDiff,if_true,if_false,reduceIte]
             refine ex_ret ?_
             exact ⟨.inl rfl, _, ⟨_, rfl⟩, rfl⟩
            ·skip
             try simp only [ltb]
             simp only [length_encFds,length_encTys,go_sem,reduceIte,reduceAdd,reduceLT,reduceLeDiff,reduceMul,reduceEqDiff,reduceSub,reduceCtorEq,List.take_length]
             refine hK _ _ (by kernel_rfl) ?_
             simp only [mkW,lkF,reduceAdd,reduceEqDiff,if_true,if_false,reduceIte]
             refine ex_ret ?_
             exact ⟨.inl rfl, _, ⟨_, rfl⟩, rfl⟩
          ·skip
           refine ex_region_w tt_ok 106 [0,0,0,0,0,0,0,0,0,0,0,0,0,0,0,0,0,0,0,0,0,0,0,0,0,0,0,0,0,0,0,0,0,0,0,0,0,0,0,0,0,0,0,0,0,0,0,0,0,0,0,0,0,0,0,0,0,0,0,0,0,0,0,0,0,0,0,0,0,0,0,0,0,0,0,0,0,0,2,1] [] (by kernel_rfl) (by kernel_rfl) fun K hK => ?_
           try simp only [ltb]
           try simp only [ltb]
           simp only [length_encFds,length_encTys,go_sem,reduceIte,reduceAdd,reduceLT,reduceLeDiff,reduceMul,reduceEqDiff,reduceSub,reduceCtorEq,List.take_length]
           refine hK _ _ (by kernel_rfl) ?_
           simp only [mkW,lkF,reduceAdd,reduceEqDiff,if_true,if_false,reduceIte]
           refine ex_if rfl (fun hc78 => ?_) (fun hc78 => ?_)
           ·skip
            refine ex_region_w tt_ok 106 [0,0,2,0,0,0,0,0,0,0,0,0,0,0,0,0,0,0,0,0,0,0,0,0,0,0,0,0,0,0,0,0,0,0,0,0,0,0,0,0,0,0,0,0,0,0,0,0,0,0,0,0,0,0,0,0,0,0,0,0,0,0,0,0,0,0,0,0,0,0,0,0,0,0,0,0,0,0,0,0,1,1,1,1,1,1,1,1,1,1] [(2, 82), (6, 86)] (by kernel_rfl) (by kernel_rfl) fun K hK => ?_
            try simp only [ltb]
            refine runX_cut 3 fun K1 hK1 => ?_
            simp only [ltb]
            simp only [length_encFds,length_encTys,go_sem,reduceIte,reduceAdd,reduceLT,reduceLeDiff,reduceMul,reduceEqDiff,reduceSub,reduceCtorEq,List.take_length]
            refine hK1 _ ?_
            refine runX_case 82 (by rfl) fun b hb17_2 => ?_
            cases b
            ·skip
             try simp only [ltb]
             simp only [length_encFds,length_encTys,go_sem,reduceIte,reduceAdd,reduceLT,reduceLeDiff,reduceMul,reduceEqDiff,reduceSub,reduceCtorEq,List.take_length]
             refine hK _ _ (by kernel_rfl) ?_
             simp only [mkW,lkF,reduceAdd,reduceEqDiff,if_true,if_false,reduceIte]
             refine ex_ret ?_
             exact ⟨.inl rfl, _, ⟨_, rfl⟩, rfl⟩
            ·skip
             refine runX_cut 4 fun K1 hK1 => ?_
             simp only [ltb]
             simp only [length_encFds,length_encTys,go_sem,reduceIte,reduceAdd,reduceLT,reduceLeDiff,reduceMul,reduceEqDiff,reduceSub,reduceCtorEq,List.take_length]
             refine hK1 _ ?_
             refine runX_case 86 (by rfl) fun b hb17_6 => ?_
             cases b
             ·skip
              try simp only [ltb]
              simp only [length_encFds,length_encTys,go_sem,reduceIte,reduceAdd,reduceLT,reduceLeDiff,reduceMul,reduceEqDiff,reduceSub,reduceCtorEq,List.take_length]
              refine hK _ _ (by kernel_rfl) ?_
              simp only [mkW,lkF,reduceAdd,reduceEqDiff,if_true,if_false,reduceIte]
              refine ex_ret ?_
              exact ⟨.inl rfl, _, ⟨_, rfl⟩, rfl⟩
             ·skip
              try simp only [ltb]
              simp only [length_encFds,length_encTys,go_sem,reduceIte,reduceAdd,reduceLT,reduceLeDiff,reduceMul,reduceEqDiff,reduceSub,reduceCtorEq,List.take_length]
              refine hK _ _ (by kernel_rfl) ?_
              simp only [mkW,lkF,reduceAdd,reduceEqDiff,if_true,if_false,reduceIte]
              refine ex_ret ?_
              exact ⟨.inl rfl, _, ⟨_, rfl⟩, rfl⟩
           ·skip
            refine ex_region_w tt_ok 106 [0,0,0,0,0,0,0,0,0,0,0,0,0,0,0,0,0,0,0,0,0,0,0,0,0,0,0,0,0,0,0,0,0,0,0,0,0,0,0,0,0,0,0,0,0,0,0,0,0,0,0,0,0,0,0,0,0,0,0,0,0,0,0,0,0,0,0,0,0,0,0,0,0,0,0,0,0,0,0,0,0,0,0,0,0,0,0,0,0,0,2,1] [] (by kernel_rfl) (by kernel_rfl) fun K hK => ?_
            try simp only [ltb]
            try simp only [ltb]
            simp only [length_encFds,length_encTys,go_sem,reduceIte,reduceAdd,reduceLT,reduceLeDiff,reduceMul,reduceEqDiff,reduceSub,reduceCtorEq,List.take_length]
            refine hK _ _ (by kernel_rfl) ?_
            simp only [mkW,lkF,reduceAdd,reduceEqDiff,if_true,if_false,reduceIte]
            refine ex_if rfl (fun hc90 => ?_) (fun hc90 => ?_)
            ·skip
             refine ex_region_w tt_ok 106 [0,0,2,0,0,0,0,0,0,0,0,0,0,0,0,0,0,0,0,0,0,0,0,0,0,0,0,0,0,0,0,0,0,0,0,0,0,0,0,0,0,0,0,0,0,0,0,0,0,0,0,0,0,0,0,0,0,0,0,0,0,0,0,0,0,0,0,0,0,0,0,0,0,0,0,0,0,0,0,0,0,0,0,0,0,0,0,0,0,0,0,0,1,1,1,1,1,1,1,1,1,1] [(2, 94), (6, 98)] (by kernel_rfl) (by kernel_rfl) fun K hK => ?_
             try simp only [ltb]
             refine runX_cut 3 fun K1 hK1 => ?_
             simp only [ltb]
             simp only [length_encFds,length_encTys,go_sem,reduceIte,reduceAdd,reduceLT,reduceLeDiff,reduceMul,reduceEqDiff,reduceSub,reduceCtorEq,List.take_length]
             refine hK1 _ ?_
             refine runX_case 94 (by rfl) fun b hb19_2 => ?_
             cases b
             ·skip
              try simp only [ltb]
              simp only [length_encFds,length_encTys,go_sem,reduceIte,reduceAdd,reduceLT,reduceLeDiff,reduceMul,reduceEqDiff,reduceSub,reduceCtorEq,List.take_length]
              refine hK _ _ (by kernel_rfl) ?_
              simp only [mkW,lkF,reduceAdd,reduceEqDiff,if_true,if_false,reduceIte]
              refine ex_ret ?_
              exact ⟨.inl rfl, _, ⟨_, rfl⟩, rfl⟩
             ·skip
              refine runX_cut 4 fun K1 hK1 => ?_
              simp only [ltb]
              simp only [length_encFds,length_encTys,go_sem,reduceIte,reduceAdd,reduceLT,reduceLeDiff,reduceMul,reduceEqDiff,reduceSub,reduceCtorEq,List.take_length]
              refine hK1 _ ?_
              refine runX_case 98 (by rfl) fun b hb19_6 => ?_
              cases b
              ·skip
               try simp only [ltb]
               simp only [length_encFds,length_encTys,go_sem,reduceIte,reduceAdd,reduceLT,reduceLeDiff,reduceMul,reduceEqDiff,reduceSub,reduceCtorEq,List.take_length]
               refine hK _ _ (by kernel_rfl) ?_
               simp only [mkW,lkF,reduceAdd,reduceEqDiff,if_true,if_false,reduceIte]
               refine ex_ret ?_
               exact ⟨.inl rfl, _, ⟨_, rfl⟩, rfl⟩
              ·skip
               try simp only [ltb]
               simp only [length_encFds,length_encTys,go_sem,reduceIte,reduceAdd,reduceLT,reduceLeDiff,reduceMul,reduceEqDiff,reduceSub,reduceCtorEq,List.take_length]
               refine hK _ _ (by kernel_rfl) ?_
               simp only [mkW,lkF,reduceAdd,reduceEqDiff,if_true,if_false,reduceIte]
               refine ex_ret ?_
               exact ⟨.inl rfl, _, ⟨_, rfl⟩, rfl⟩
            ·skip
             refine ex_region_w tt_ok 106 [0,0,0,0,0,0,0,0,0,0,0,0,0,0,0,0,0,0,0,0,0,0,0,0,0,0,0,0,0,0,0,0,0,0,0,0,0,0,0,0,0,0,0,0,0,0,0,0,0,0,0,0,0,0,0,0,0,0,0,0,0,0,0,0,0,0,0,0,0,0,0,0,0,0,0,0,0,0,0,0,0,0,0,0,0,0,0,0,0,0,0,0,0,0,0,0,0,0,0,0,0,0,2,1] [] (by kernel_rfl) (by kernel_rfl) fun K hK => ?_
             try simp only [ltb]
             try simp only [ltb]
             simp only [length_encFds,length_encTys,go_sem,reduceIte,reduceAdd,reduceLT,reduceLeDiff,reduceMul,reduceEqDiff,reduceSub,reduceCtorEq,List.take_length]
             refine hK _ _ (by kernel_rfl) ?_
             simp only [mkW,lkF,reduceAdd,reduceEqDiff,if_true,if_false,reduceIte]
             refine ex_if rfl (fun hc102 => ?_) (fun hc102 => ?_)
             ·skip
              refine ex_region_w tt_ok 106 [0,0,2,0,0,0,0,0,0,0,0,0,0,0,0,0,0,0,0,0,0,0,0,0,0,0,0,0,0,0,0,0,0,0,0,0,0,0,0,0,0,0,0,0,0,0,0,0,0,0,0,0,0,0,0,0,0,0,0,0,0,0,0,0,0,0,0,0,0,0,0,0,0,0,0,0,0,0,0,0,0,0,0,0,0,0,0,0,0,0,0,0,0,0,0,0,0,0,0,0,0,0,0,0,1,1] [] (by kernel_rfl) (by kernel_rfl) fun K hK => ?_
              try simp only [ltb]
              try simp only [ltb]
              simp only [length_encFds,length_encTys,go_sem,reduceIte,reduceAdd,reduceLT,reduceLeDiff,reduceMul,reduceEqDiff,reduceSub,reduceCtorEq,List.take_length]
              refine hK _ _ (by kernel_rfl) ?_
              simp only [mkW,lkF,reduceAdd,reduceEqDiff,if_true,if_false,reduceIte]
              refine ex_ret ?_
              exact ⟨.inl rfl, _, ⟨_, rfl⟩, rfl⟩
             ·skip
              refine ex_skip ?_
              show Go.Eng.Ex _ _ _ _ _ _
              refine ex_region_w tt_ok 106 [0,0,2] [] (by kernel_rfl) (by kernel_rfl) fun K hK => ?_
              try simp only [ltb]
              try simp only [ltb]
              simp only [length_encFds,length_encTys,go_sem,reduceIte,reduceAdd,reduceLT,reduceLeDiff,reduceMul,reduceEqDiff,reduceSub,reduceCtorEq,List.take_length]
              refine hK _ _ (by kernel_rfl) ?_
              simp only [mkW,lkF,reduceAdd,reduceEqDiff,if_true,if_false,reduceIte]
              refine ex_ret ?_
              exact ⟨.inl rfl, _, ⟨_, rfl⟩, rfl⟩
end Go.Proofs.YtpjdfcigadnhcaaGreatDoor
end

section
namespace Go.Proofs.YtpjdfcigadnhcaaGreatDoor
open Go.Eng
open Nat (reduceAdd reduceLT reduceLeDiff reduceMul reduceEqDiff reduceSub)
variable [Glob]
set_option maxHeartbeats 4000000
set_option maxRecDepth 100000
attribute [local irreducible] runM stepM valD stepOp stepD callF
theorem zeroType_tot (t : Ty) : ∃ r, isB r ∧ FnOk Tryz.prog 156 [encTy t] r := by
 refine fn_ex tt_ok (fn := Tryz.f156) Tryz.func156 rfl Tryz.call156 ?_
 simp only [startSt,Tryz.ntmps156,List.length_cons,List.length_nil,reduceAdd,reduceSub,List.replicate_succ,List.replicate_zero,List.cons_append,List.nil_append]
 simp only [encTy_eq,tyCells]
 refine ex_region_w tt_ok 28 [0,2,2] [] (by kernel_rfl) (by kernel_rfl) fun K hK => ?_
 try simp only [ltb]
 try simp only [ltb]
 simp only [length_encFds,length_encTys,go_sem,reduceIte,reduceAdd,reduceLT,reduceLeDiff,reduceMul,reduceEqDiff,reduceSub,reduceCtorEq,List.take_length]
 refine hK _ _ (by kernel_rfl) ?_
 simp only [mkW,lkF,reduceAdd,reduceEqDiff,if_true,if_false,reduceIte]
 refine ex_region_w tt_ok 28 [0,0,2,1,1,1,1,1,1,1,1,1,1,1,1,1,1,1,1,1,1,1,1,1,1,1,1,1] [(3, 6), (8, 11), (13, 16), (19, 22)] (by kernel_rfl) (by kernel_rfl) fun K hK => ?_
 try simp only [ltb]
 refine runX_cut 4 fun K1 hK1 => ?_
 simp only [ltb]
 simp only [length_encFds,length_encTys,go_sem,reduceIte,reduceAdd,reduceLT,reduceLeDiff,reduceMul,reduceEqDiff,reduceSub,reduceCtorEq,List.take_length]
 refine hK1 _ ?_
 refine runX_case 6 (by rfl) fun b hb1_3 => ?_
 cases b
 ·skip
  refine runX_cut 8 fun K1 hK1 => ?_
  simp only [ltb]
  simp only [length_encFds,length_encTys,go_sem,reduceIte,reduceAdd,reduceLT,reduceLeDiff,reduceMul,reduceEqDiff,reduceSub,reduceCtorEq,List.take_length]
  refine hK1 _ ?_
  refine runX_cut 8 fun K1 hK1 => ?_
  simp only [ltb]
  simp only [length_encFds,length_encTys,go_sem,reduceIte,reduceAdd,reduceLT,reduceLeDiff,reduceMul,reduceEqDiff,reduceSub,reduceCtorEq,List.take_length]
  refine hK1 _ ?_
  try simp only [ltb]
  simp only [length_encFds,length_encTys,go_sem,reduceIte,reduceAdd,reduceLT,reduceLeDiff,reduceMul,reduceEqDiff,reduceSub,reduceCtorEq,List.take_length]
  refine hK _ _ (by kernel_rfl) ?_
  simp only [mkW,lkF,reduceAdd,reduceEqDiff,if_true,if_false,reduceIte]
  refine ex_ret ?_
  exact ⟨.inl rfl, _, ⟨_, rfl⟩, rfl⟩
 ·skip
  refine runX_cut 5 fun K1 hK1 => ?_
  simp only [ltb]
  simp only [length_encFds,length_encTys,go_sem,reduceIte,reduceAdd,reduceLT,reduceLeDiff,reduceMul,reduceEqDiff,reduceSub,reduceCtorEq,List.take_length]
  refine hK1 _ ?_
  refine runX_case 11 (by rfl) fun b hb1_8 => ?_
  cases b
  ·skip
   refine runX_cut 8 fun K1 hK1 => ?_
   simp only [ltb]
   simp only [length_encFds,length_encTys,go_sem,reduceIte,reduceAdd,reduceLT,reduceLeDiff,reduceMul,reduceEqDiff,reduceSub,reduceCtorEq,List.take_length]
   refine hK1 _ ?_
   refine runX_cut 8 fun K1 hK1 => ?_
   simp only [ltb]
   simp only [length_encFds,length_encTys,go_sem,reduceIte,reduceAdd,reduceLT,reduceLeDiff,reduceMul,reduceEqDiff,reduceSub,reduceCtorEq,List.take_length]
   refine hK1 _ ?_
   try simp only [ltb]
   simp only [length_encFds,length_encTys,go_sem,reduceIte,reduceAdd,reduceLT,reduceLeDiff,reduceMul,reduceEqDiff,reduceSub,reduceCtorEq,List.take_length]
   refine hK _ _ (by kernel_rfl) ?_
   simp only [mkW,lkF,reduceAdd,reduceEqDiff,if_true,if_false,reduceIte]
   refine ex_ret ?_
   exact ⟨.inl rfl, _, ⟨_, rfl⟩, rfl⟩
  ·skip
   refine runX_cut 5 fun K1 hK1 => ?_
   simp only [ltb]
   simp only [length_encFds,length_encTys,go_sem,reduceIte,reduceAdd,reduceLT,reduceLeDiff,reduceMul,reduceEqDiff,reduceSub,reduceCtorEq,List.take_length]
   refine hK1 _ ?_
   refine runX_case 16 (by rfl) fun b hb1_13 => ?_
   cases b
   ·skip
    refine runX_cut 8 fun K1 hK1 => ?_
    simp only [ltb]
    simp only [length_encFds,length_encTys,go_sem,reduceIte,reduceAdd,reduceLT,reduceLeDiff,reduceMul,reduceEqDiff,reduceSub,reduceCtorEq,List.take_length]
    refine hK1 _ ?_
    try simp only [ltb]
    simp only [length_encFds,length_encTys,go_sem,reduceIte,reduceAdd,reduceLT,reduceLeDiff,reduceMul,reduceEqDiff,reduceSub,reduceCtorEq,List.take_length]
    refine hK _ _ (by kernel_rfl) ?_
    simp only [mkW,lkF,reduceAdd,reduceEqDiff,if_true,if_false,reduceIte]
    refine ex_ret ?_
    exact ⟨.inl rfl, _, ⟨_, rfl⟩, rfl⟩
   ·skip
    refine runX_cut 6 fun K1 hK1 => ?_
    simp only [ltb]
    simp only [length_encFds,length_encTys,go_sem,reduceIte,reduceAdd,reduceLT,reduceLeDiff,reduceMul,reduceEqDiff,reduceSub,reduceCtorEq,List.take_length]
    refine hK1 _ ?_
    refine runX_case 22 (by rfl) fun b hb1_19 => ?_
    cases b
    ·skip
     try simp only [ltb]
     simp only [length_encFds,length_encTys,go_sem,reduceIte,reduceAdd,reduceLT,reduceLeDiff,reduceMul,reduceEqDiff,reduceSub,reduceCtorEq,List.take_length]
     refine hK _ _ (by kernel_rfl) ?_
     simp only [mkW,lkF,reduceAdd,reduceEqDiff,if_true,if_false,reduceIte]
     refine ex_ret ?_
     exact ⟨.inl rfl, _, ⟨_, rfl⟩, rfl⟩
    ·skip
     try simp only [ltb]
     simp only [length_encFds,length_encTys,go_sem,reduceIte,reduceAdd,reduceLT,reduceLeDiff,reduceMul,reduceEqDiff,reduceSub,reduceCtorEq,List.take_length]
     refine hK _ _ (by kernel_rfl) ?_
     simp only [mkW,lkF,reduceAdd,reduceEqDiff,if_true,if_false,reduceIte]
     refine ex_ret ?_
     exact ⟨.inl rfl, _, ⟨_, rfl⟩, rfl⟩
theorem operands_tot (s : ByteArray) : ∃ r, isN r ∧ FnOk Tryz.prog 185 [str s] r := by
 refine fn_ex tt_ok (fn := Tryz.f185) Tryz.func185 rfl Tryz.call185 ?_
 simp only [startSt,Tryz.ntmps185,List.length_cons,List.length_nil,reduceAdd,reduceSub,List.replicate_succ,List.replicate_zero,List.cons_append,List.nil_append]
 refine ex_region_w tt_ok 17 [0,0,2] [] (by kernel_rfl) (by kernel_rfl) fun K hK => ?_
 try simp only [ltb]
 try simp only [ltb]
 simp only [go_sem,reduceIte,reduceAdd,reduceLT,reduceLeDiff,reduceMul,reduceEqDiff,reduceSub,reduceCtorEq,List.take_length]
 refine hK _ _ (by kernel_rfl) ?_
 simp only [mkW,lkF,reduceAdd,reduceEqDiff,if_true,if_false,reduceIte]
 refine ex_seq ?_
 refine ex_region_w tt_ok 17 [0,0,0,2] [] (by kernel_rfl) (by kernel_rfl) fun K hK => ?_
 try simp only [ltb]
 try simp only [ltb]
 simp only [go_sem,reduceIte,reduceAdd,reduceLT,reduceLeDiff,reduceMul,reduceEqDiff,reduceSub,reduceCtorEq,List.take_length]
 refine hK _ _ (by kernel_rfl) ?_
 simp only [mkW,lkF,reduceAdd,reduceEqDiff,if_true,if_false,reduceIte]
 refine ex_block ?_
 refine ex_seq_joinK [4] 0 [true,false,true,true,true] (fun vs => ∃ b : Bool, vs = [bl b]) ?_ ?_
 ·skip
  refine ex_region_w tt_ok 17 [0,0,0,0,2,1] [] (by kernel_rfl) (by kernel_rfl) fun K hK => ?_
  try simp only [ltb]
  try simp only [ltb]
  simp only [go_sem,reduceIte,reduceAdd,reduceLT,reduceLeDiff,reduceMul,reduceEqDiff,reduceSub,reduceCtorEq,List.take_length]
  refine hK _ _ (by kernel_rfl) ?_
  simp only [mkW,lkF,reduceAdd,reduceEqDiff,if_true,if_false,reduceIte]
  refine ex_if rfl (fun hc4 => ?_) (fun hc4 => ?_)
  ·skip
   refine ex_skip ?_
   refine ⟨[_], ?_, 0, [true,false,true,true,true], by omega, by simp only [maskFr,belowV,belowL,belowB,reduceLT,mkb], by simp only [maskFr,belowV,belowL,belowB,reduceLT,mkb], by simp only [maskFr,belowV,belowL,belowB,reduceLT,mkb,putAll,List.set_cons_zero,List.set_cons_succ]; rfl⟩
   exact ⟨_, rfl⟩
  ·skip
   refine ex_region_w tt_ok 17 [0,0,0,0,2,0,1] [] (by kernel_rfl) (by kernel_rfl) fun K hK => ?_
   try simp only [ltb]
   try simp only [ltb]
   simp only [go_sem,reduceIte,reduceAdd,reduceLT,reduceLeDiff,reduceMul,reduceEqDiff,reduceSub,reduceCtorEq,List.take_length]
   refine hK _ _ (by kernel_rfl) ?_
   simp only [mkW,lkF,reduceAdd,reduceEqDiff,if_true,if_false,reduceIte]
   refine ex_if rfl (fun hc4 => ?_) (fun hc4 => ?_)
   ·skip
    refine ex_skip ?_
    refine ⟨[_], ?_, 0, [true,false,true,true,true], by omega, by simp only [maskFr,belowV,belowL,belowB,reduceLT,mkb], by simp only [maskFr,belowV,belowL,belowB,reduceLT,mkb], by simp only [maskFr,belowV,belowL,belowB,reduceLT,mkb,putAll,List.set_cons_zero,List.set_cons_succ]; rfl⟩
    exact ⟨_, rfl⟩
   ·skip
    refine ex_region_w tt_ok 17 [0,0,0,0,2,0,0,1] [] (by kernel_rfl) (by kernel_rfl) fun K hK => ?_
    try simp only [ltb]
    try simp only [ltb]
    simp only [go_sem,reduceIte,reduceAdd,reduceLT,reduceLeDiff,reduceMul,reduceEqDiff,reduceSub,reduceCtorEq,List.take_length]
    refine hK _ _ (by kernel_rfl) ?_
    simp only [mkW,lkF,reduceAdd,reduceEqDiff,if_true,if_false,reduceIte]
    refine ex_if rfl (fun hc4 => ?_) (fun hc4 => ?_)
    ·skip
     refine ex_skip ?_
     refine ⟨[_], ?_, 0, [true,false,true,true,true], by omega, by simp only [maskFr,belowV,belowL,belowB,reduceLT,mkb], by simp only [maskFr,belowV,belowL,belowB,reduceLT,mkb], by simp only [maskFr,belowV,belowL,belowB,reduceLT,mkb,putAll,List.set_cons_zero,List.set_cons_succ]; rfl⟩
     exact ⟨_, rfl⟩
    ·skip
     refine ex_region_w tt_ok 17 [0,0,0,0,2,0,0,0,1] [] (by kernel_rfl) (by kernel_rfl) fun K hK => ?_
     try simp only [ltb]
     try simp only [ltb]
     simp only [go_sem,reduceIte,reduceAdd,reduceLT,reduceLeDiff,reduceMul,reduceEqDiff,reduceSub,reduceCtorEq,List.take_length]
     refine hK _ _ (by kernel_rfl) ?_
     simp only [mkW,lkF,reduceAdd,reduceEqDiff,if_true,if_false,reduceIte]
     refine ex_if rfl (fun hc4 => ?_) (fun hc4 => ?_)
     ·skip
      refine ex_skip ?_
      refine ⟨[_], ?_, 0, [true,false,true,true,true], by omega, by simp only [maskFr,belowV,belowL,belowB,reduceLT,mkb], by simp only [maskFr,belowV,belowL,belowB,reduceLT,mkb], by simp only [maskFr,belowV,belowL,belowB,reduceLT,mkb,putAll,List.set_cons_zero,List.set_cons_succ]; rfl⟩
      exact ⟨_, rfl⟩
     ·skip
      refine ex_region_w tt_ok 17 [0,0,0,0,2,0,0,0,0,1] [] (by kernel_rfl) (by kernel_rfl) fun K hK => ?_
      try simp only [ltb]
      try simp only [ltb]
      simp only [go_sem,reduceIte,reduceAdd,reduceLT,reduceLeDiff,reduceMul,reduceEqDiff,reduceSub,reduceCtorEq,List.take_length]
      refine hK _ _ (by kernel_rfl) ?_
      simp only [mkW,lkF,reduceAdd,reduceEqDiff,if_true,if_false,reduceIte]
      refine ex_if rfl (fun hc4 => ?_) (fun hc4 => ?_)
      ·skip
       refine ex_skip ?_
       refine ⟨[_], ?_, 0, [true,false,true,true,true], by omega, by simp only [maskFr,belowV,belowL,belowB,reduceLT,mkb], by simp only [maskFr,belowV,belowL,belowB,reduceLT,mkb], by simp only [maskFr,belowV,belowL,belowB,reduceLT,mkb,putAll,List.set_cons_zero,List.set_cons_succ]; rfl⟩
       exact ⟨_, rfl⟩
      ·skip
       refine ex_region_w tt_ok 17 [0,0,0,0,2,0,0,0,0,0,1] [] (by kernel_rfl) (by kernel_rfl) fun K hK => ?_
       try simp only [ltb]
       try simp only [ltb]
       simp only [go_sem,reduceIte,reduceAdd,reduceLT,reduceLeDiff,reduceMul,reduceEqDiff,reduceSub,reduceCtorEq,List.take_length]
       refine hK _ _ (by kernel_rfl) ?_
       simp only [mkW,lkF,reduceAdd,reduceEqDiff,if_true,if_false,reduceIte]
       refine ex_if rfl (fun hc4 => ?_) (fun hc4 => ?_)
       ·skip
        refine ex_skip ?_
        refine ⟨[_], ?_, 0, [true,false,true,true,true], by omega, by simp only [maskFr,belowV,belowL,belowB,reduceLT,mkb], by simp only [maskFr,belowV,belowL,belowB,reduceLT,mkb], by simp only [maskFr,belowV,belowL,belowB,reduceLT,mkb,putAll,List.set_cons_zero,List.set_cons_succ]; rfl⟩
        exact ⟨_, rfl⟩
       ·skip
        refine ex_region_w tt_ok 17 [0,0,0,0,2,0,0,0,0,0,0,1] [] (by kernel_rfl) (by kernel_rfl) fun K hK => ?_
        try simp only [ltb]
        try simp only [ltb]
        simp only [go_sem,reduceIte,reduceAdd,reduceLT,reduceLeDiff,reduceMul,reduceEqDiff,reduceSub,reduceCtorEq,List.take_length]
        refine hK _ _ (by kernel_rfl) ?_
        simp only [mkW,lkF,reduceAdd,reduceEqDiff,if_true,if_false,reduceIte]
        refine ex_if rfl (fun hc4 => ?_) (fun hc4 => ?_)
        ·skip
         refine ex_skip ?_
         refine ⟨[_], ?_, 0, [true,false,true,true,true], by omega, by simp only [maskFr,belowV,belowL,belowB,reduceLT,mkb], by simp only [maskFr,belowV,belowL,belowB,reduceLT,mkb], by simp only [maskFr,belowV,belowL,belowB,reduceLT,mkb,putAll,List.set_cons_zero,List.set_cons_succ]; rfl⟩
         exact ⟨_, rfl⟩
        ·skip
         refine ex_region_w tt_ok 17 [0,0,0,0,2,0,0,0,0,0,0,0,1] [] (by kernel_rfl) (by kernel_rfl) fun K hK => ?_
         try simp only [ltb]
         try simp only [ltb]
         simp only [go_sem,reduceIte,reduceAdd,reduceLT,reduceLeDiff,reduceMul,reduceEqDiff,reduceSub,reduceCtorEq,List.take_length]
         refine hK _ _ (by kernel_rfl) ?_
         simp only [mkW,lkF,reduceAdd,reduceEqDiff,if_true,if_false,reduceIte]
         refine ex_if rfl (fun hc4 => ?_) (fun hc4 => ?_)
         ·skip
          refine ex_skip ?_
          refine ⟨[_], ?_, 0, [true,false,true,true,true], by omega, by simp only [maskFr,belowV,belowL,belowB,reduceLT,mkb], by simp only [maskFr,belowV,belowL,belowB,reduceLT,mkb], by simp only [maskFr,belowV,belowL,belowB,reduceLT,mkb,putAll,List.set_cons_zero,List.set_cons_succ]; rfl⟩
          exact ⟨_, rfl⟩
         ·skip
          refine ex_last_region_w tt_ok 17 [0,0,0,0,2,0,0,0,0,0,0,0,0,2] [] (by kernel_rfl) (by kernel_rfl) (by kernel_rfl) fun K hK => ?_
          try simp only [ltb]
          try simp only [ltb]
          simp only [go_sem,reduceIte,reduceAdd,reduceLT,reduceLeDiff,reduceMul,reduceEqDiff,reduceSub,reduceCtorEq,List.take_length]
          refine hK _ _ (by kernel_rfl) ?_
          simp only [mkW,lkF,reduceAdd,reduceEqDiff,if_true,if_false,reduceIte]
          refine ⟨[_], ?_, 0, [true,false,true,true,true], by omega, by simp only [maskFr,belowV,belowL,belowB,reduceLT,mkb], by simp only [maskFr,belowV,belowL,belowB,reduceLT,mkb], by simp only [maskFr,belowV,belowL,belowB,reduceLT,mkb,putAll,List.set_cons_zero,List.set_cons_succ]; rfl⟩
          exact ⟨_, rfl⟩
 ·intro vs hJ
  obtain ⟨b4, rfl⟩ := hJ
  simp only [maskFr,belowV,belowL,belowB,reduceLT,mkb,putAll,List.set_cons_zero,List.set_cons_succ]
  refine ex_if rfl (fun hc4 => ?_) (fun hc4 => ?_)
  ·skip
   refine ex_region_w tt_ok 17 [0,0,2] [] (by kernel_rfl) (by kernel_rfl) fun K hK => ?_
   try simp only [ltb]
   try simp only [ltb]
   simp only [go_sem,reduceIte,reduceAdd,reduceLT,reduceLeDiff,reduceMul,reduceEqDiff,reduceSub,reduceCtorEq,List.take_length]
   refine hK _ _ (by kernel_rfl) ?_
   simp only [mkW,lkF,reduceAdd,reduceEqDiff,if_true,if_false,reduceIte]
   refine ex_ret ?_
   exact ⟨.inl rfl, _, ⟨_, rfl⟩, rfl⟩
  ·skip
   refine ex_seq_joinK [14] 0 [true,false,true,true,true,true,true,true,true,true,true,true,true,true,true] (fun vs => ∃ b : Bool, vs = [bl b]) ?_ ?_
   ·skip
    refine ex_region_w tt_ok 17 [0,0,0,0,0,0,0,0,0,0,0,0,0,0,2,1] [] (by kernel_rfl) (by kernel_rfl) fun K hK => ?_
    try simp only [ltb]
    try simp only [ltb]
    simp only [go_sem,reduceIte,reduceAdd,reduceLT,reduceLeDiff,reduceMul,reduceEqDiff,reduceSub,reduceCtorEq,List.take_length]
    refine hK _ _ (by kernel_rfl) ?_
    simp only [mkW,lkF,reduceAdd,reduceEqDiff,if_true,if_false,reduceIte]
    refine ex_if rfl (fun hc14 => ?_) (fun hc14 => ?_)
    ·skip
     refine ex_skip ?_
     refine ⟨[_], ?_, 0, [true,false,true,true,true,true,true,true,true,true,true,true,true,true,true], by omega, by simp only [maskFr,belowV,belowL,belowB,reduceLT,mkb], by simp only [maskFr,belowV,belowL,belowB,reduceLT,mkb], by simp only [maskFr,belowV,belowL,belowB,reduceLT,mkb,putAll,List.set_cons_zero,List.set_cons_succ]; rfl⟩
     exact ⟨_, rfl⟩
    ·skip
     refine ex_last_region_w tt_ok 17 [0,0,0,0,0,0,0,0,0,0,0,0,0,0,2,0,2] [] (by kernel_rfl) (by kernel_rfl) (by kernel_rfl) fun K hK => ?_
     try simp only [ltb]
     try simp only [ltb]
     simp only [go_sem,reduceIte,reduceAdd,reduceLT,reduceLeDiff,reduceMul,reduceEqDiff,reduceSub,reduceCtorEq,List.take_length]
     refine hK _ _ (by kernel_rfl) ?_
     simp only [mkW,lkF,reduceAdd,reduceEqDiff,if_true,if_false,reduceIte]
     refine ⟨[_], ?_, 0, [true,false,true,true,true,true,true,true,true,true,true,true,true,true,true], by omega, by simp only [maskFr,belowV,belowL,belowB,reduceLT,mkb], by simp only [maskFr,belowV,belowL,belowB,reduceLT,mkb], by simp only [maskFr,belowV,belowL,belowB,reduceLT,mkb,putAll,List.set_cons_zero,List.set_cons_succ]; rfl⟩
     exact ⟨_, rfl⟩
   ·intro vs hJ
    obtain ⟨b14, rfl⟩ := hJ
    simp only [maskFr,belowV,belowL,belowB,reduceLT,mkb,putAll,List.set_cons_zero,List.set_cons_succ]
    refine ex_if rfl (fun hc14 => ?_) (fun hc14 => ?_)
    ·skip
     refine ex_region_w tt_ok 17 [0,0,2] [] (by kernel_rfl) (by kernel_rfl) fun K hK => ?_
     try simp only [ltb]
     try simp only [ltb]
     simp only [go_sem,reduceIte,reduceAdd,reduceLT,reduceLeDiff,reduceMul,reduceEqDiff,reduceSub,reduceCtorEq,List.take_length]
     refine hK _ _ (by kernel_rfl) ?_
     simp only [mkW,lkF,reduceAdd,reduceEqDiff,if_true,if_false,reduceIte]
     refine ex_ret ?_
     exact ⟨.inl rfl, _, ⟨_, rfl⟩, rfl⟩
    ·skip
     refine ex_skip ?_
     show Go.Eng.Ex _ _ _ _ _ _
     refine ex_region_w tt_ok 17 [0,0,2] [] (by kernel_rfl) (by kernel_rfl) fun K hK => ?_
     try simp only [ltb]
     try simp only [ltb]
     simp only [go_sem,reduceIte,reduceAdd,reduceLT,reduceLeDiff,reduceMul,reduceEqDiff,reduceSub,reduceCtorEq,List.take_length]
     refine hK _ _ (by kernel_rfl) ?_
     simp only [mkW,lkF,reduceAdd,reduceEqDiff,if_true,if_false,reduceIte]
     refine ex_ret ?_
     exact ⟨.inl rfl, _, ⟨_, rfl⟩, rfl⟩
end Go.Proofs.YtpjdfcigadnhcaaGreatDoor
end

section
namespace Go.Proofs.YtpjdfcigadnhcaaGreatDoor
open Go.Eng
open Nat (reduceAdd reduceLT reduceLeDiff reduceMul reduceEqDiff reduceSub)
variable [Glob]
set_option maxHeartbeats 4000000
set_option maxRecDepth 100000
attribute [local irreducible] runM stepM valD stepOp stepD callF callS
theorem kids_tot (x : Ex) (fl : ByteArray) (ty kd : Int) (lb : Bool) (hl : x.labels.length ≤ 1048576) : ∃ r, isN r ∧ FnOk Tryz.prog 153 [encEx x, .agg [str fl, num ty, bl lb, num kd]] r := by
 refine fn_ex tt_ok (fn := Tryz.f153) Tryz.func153 rfl Tryz.call153 ?_
 simp only [startSt,Tryz.ntmps153,List.length_cons,List.length_nil,reduceAdd,reduceSub,List.replicate_succ,List.replicate_zero,List.cons_append,List.nil_append]
 simp only [encEx_eq,exCells]
 refine ex_region_w tt_ok 42 [0,0,2,2,2] [] (by kernel_rfl) (by kernel_rfl) fun K hK => ?_
 try simp only [ltb]
 try simp only [ltb]
 simp only [List.length_map,go_sem,reduceIte,reduceAdd,reduceLT,reduceLeDiff,reduceMul,reduceEqDiff,reduceSub,reduceCtorEq,List.take_length]
 refine hK _ _ (by kernel_rfl) ?_
 simp only [mkW,lkF,reduceAdd,reduceEqDiff,if_true,if_false,reduceIte]
 refine ex_seq ?_
 refine ex_block ?_
 refine ex_region_w tt_ok 42 [0,0,0,0,0,0,0,0,2,1,1,1] [] (by kernel_rfl) (by kernel_rfl) fun K hK => ?_
 try simp only [ltb]
 try simp only [ltb]
 simp only [List.length_map,go_sem,reduceIte,reduceAdd,reduceLT,reduceLeDiff,reduceMul,reduceEqDiff,reduceSub,reduceCtorEq,List.take_length]
 refine hK _ _ (by kernel_rfl) ?_
 simp only [mkW,lkF,reduceAdd,reduceEqDiff,if_true,if_false,reduceIte]
 refine ex_if rfl (fun hc8 => ?_) (fun hc8 => ?_)
 ·skip
  refine ex_region_w tt_ok 42 [0,0,0,0,2,0,0,0,0,0,0,0,1,1,1] [] (by kernel_rfl) (by kernel_rfl) fun K hK => ?_
  try simp only [ltb]
  refine runX_cut 3 fun K1 hK1 => ?_
  simp only [ltb]
  simp only [List.length_map,go_sem,reduceIte,reduceAdd,reduceLT,reduceLeDiff,reduceMul,reduceEqDiff,reduceSub,reduceCtorEq,List.take_length]
  refine callF_ex (operands_tot _) ?_
  rintro _ ⟨r1, rfl⟩
  try simp only [List.length_map,go_sem,reduceIte,reduceAdd,reduceLT,reduceLeDiff,reduceMul,reduceEqDiff,reduceSub,reduceCtorEq,List.take_length]
  refine hK1 _ ?_
  try simp only [ltb]
  simp only [List.length_map,go_sem,reduceIte,reduceAdd,reduceLT,reduceLeDiff,reduceMul,reduceEqDiff,reduceSub,reduceCtorEq,List.take_length]
  refine hK _ _ (by kernel_rfl) ?_
  simp only [mkW,lkF,reduceAdd,reduceEqDiff,if_true,if_false,reduceIte]
  refine ex_ret ?_
  exact ⟨.inl rfl, _, ⟨_, rfl⟩, rfl⟩
 ·skip
  refine ex_region_w tt_ok 42 [0,0,0,0,0,0,0,0,0,0,0,0,0,0,0,2,1,1,1] [] (by kernel_rfl) (by kernel_rfl) fun K hK => ?_
  try simp only [ltb]
  try simp only [ltb]
  simp only [List.length_map,go_sem,reduceIte,reduceAdd,reduceLT,reduceLeDiff,reduceMul,reduceEqDiff,reduceSub,reduceCtorEq,List.take_length]
  refine hK _ _ (by kernel_rfl) ?_
  simp only [mkW,lkF,reduceAdd,reduceEqDiff,if_true,if_false,reduceIte]
  refine ex_if rfl (fun hc15 => ?_) (fun hc15 => ?_)
  ·skip
   refine ex_region_w tt_ok 42 [0,0,0,0,0,2] [] (by kernel_rfl) (by kernel_rfl) fun K hK => ?_
   try simp only [ltb]
   try simp only [ltb]
   simp only [List.length_map,go_sem,reduceIte,reduceAdd,reduceLT,reduceLeDiff,reduceMul,reduceEqDiff,reduceSub,reduceCtorEq,List.take_length]
   refine hK _ _ (by kernel_rfl) ?_
   simp only [mkW,lkF,reduceAdd,reduceEqDiff,if_true,if_false,reduceIte]
   refine ex_seq ?_
   refine ex_region_w tt_ok 42 [0,0,0,0,0,0,0,0,0,0,0,0,0,0,0,0,0,0,0,1,2,2,2] [] (by kernel_rfl) (by kernel_rfl) fun K hK => ?_
   try simp only [ltb]
   try simp only [ltb]
   simp only [List.length_map,go_sem,reduceIte,reduceAdd,reduceLT,reduceLeDiff,reduceMul,reduceEqDiff,reduceSub,reduceCtorEq,List.take_length]
   refine hK _ _ (by kernel_rfl) ?_
   simp only [mkW,lkF,reduceAdd,reduceEqDiff,if_true,if_false,reduceIte]
   refine ex_block ?_
   refine ex_loopK [22,5] [num 0, num 1] 2 [false,false,true,true,true,true,false,false,true,false,false,false,false,false,false,true,false,false,false,false,true,true,true] (fun vs => ((x.labels.length : Int) - intOf (vs.headD .undef)).toNat) (fun vs => ∃ (i : Nat) (h : Int), vs = [num i, num h]) (by omega) (by simp only [maskFr,belowV,belowL,belowB,reduceLT,mkb]) (by simp only [maskFr,belowV,belowL,belowB,reduceLT,mkb]) (by rfl) (⟨0, 1, rfl⟩) fun vs hI => ?_
   obtain ⟨i, h, rfl⟩ := hI
   simp only [maskFr,belowV,belowL,belowB,reduceLT,mkb,putAll,List.set_cons_zero,List.set_cons_succ]
   refine ex_region_w tt_ok 42 [0,0,0,0,0,0,0,0,0,0,0,0,0,0,0,0,0,0,0,0,0,0,0,2] [] (by kernel_rfl) (by kernel_rfl) fun K hK => ?_
   try simp only [ltb]
   try simp only [ltb]
   simp only [List.length_map,go_sem,reduceIte,reduceAdd,reduceLT,reduceLeDiff,reduceMul,reduceEqDiff,reduceSub,reduceCtorEq,List.take_length]
   refine hK _ _ (by kernel_rfl) ?_
   simp only [mkW,lkF,reduceAdd,reduceEqDiff,if_true,if_false,reduceIte]
   refine ex_seq ?_
   refine ex_if rfl (fun hc23 => ?_) (fun hc23 => ?_)
   ·skip
    have hlt : i < x.labels.length := by simpa using hc23
    obtain ⟨l, hx⟩ : ∃ l, x.labels[i]? = some l := ⟨_, List.getElem?_eq_getElem hlt⟩
    have hw := i64_succ i (by omega)
    refine ex_skip ?_
    show Go.Eng.Ex _ _ _ _ _ _
    refine ex_seq ?_
    refine ex_block ?_
    refine ex_region_w tt_ok 42 [0,0,0,0,0,0,0,2,0,0,0,0,0,0,0,0,0,0,0,0,0,0,0,0,1,1] [] (by kernel_rfl) (by kernel_rfl) fun K hK => ?_
    try simp only [ltb]
    try simp only [ltb]
    simp only [hw,List.getElem?_map,hx,encLb,tyCells,List.length_map,go_sem,reduceIte,reduceAdd,reduceLT,reduceLeDiff,reduceMul,reduceEqDiff,reduceSub,reduceCtorEq,List.take_length]
    refine hK _ _ (by kernel_rfl) ?_
    simp only [mkW,lkF,reduceAdd,reduceEqDiff,if_true,if_false,reduceIte]
    refine ex_region_w tt_ok 42 [0,0,0,0,0,0,0,0,0,0,0,0,0,0,0,0,0,0,0,0,0,0,0,0,0,0,1,2] [] (by kernel_rfl) (by kernel_rfl) fun K hK => ?_
    try simp only [ltb]
    try simp only [ltb]
    simp only [hw,List.getElem?_map,hx,encLb,tyCells,List.length_map,go_sem,reduceIte,reduceAdd,reduceLT,reduceLeDiff,reduceMul,reduceEqDiff,reduceSub,reduceCtorEq,List.take_length]
    refine hK _ _ (by kernel_rfl) ?_
    simp only [mkW,lkF,reduceAdd,reduceEqDiff,if_true,if_false,reduceIte]
    refine ex_if rfl (fun hc27 => ?_) (fun hc27 => ?_)
    ·skip
     refine ex_last_region_w tt_ok 42 [0,0,0,0,0,2,0,0,0,0,0,0,0,0,0,0,0,0,0,0,0,0,0,0,0,0,0,0,2,2] [] (by kernel_rfl) (by kernel_rfl) (by kernel_rfl) fun K hK => ?_
     try simp only [ltb]
     try simp only [ltb]
     simp only [hw,List.getElem?_map,hx,encLb,tyCells,List.length_map,go_sem,reduceIte,reduceAdd,reduceLT,reduceLeDiff,reduceMul,reduceEqDiff,reduceSub,reduceCtorEq,List.take_length]
     refine hK _ _ (by kernel_rfl) ?_
     simp only [mkW,lkF,reduceAdd,reduceEqDiff,if_true,if_false,reduceIte]
     show Go.Eng.Ex _ _ _ _ _ _
     refine ex_last_region_w tt_ok 42 [0,0,0,0,0,0,0,0,0,0,0,0,0,0,0,0,0,0,0,0,0,0,2,0,0,0,0,0,0,0,2] [] (by kernel_rfl) (by kernel_rfl) (by kernel_rfl) fun K hK => ?_
     try simp only [ltb]
     try simp only [ltb]
     simp only [hw,List.getElem?_map,hx,encLb,tyCells,List.length_map,go_sem,reduceIte,reduceAdd,reduceLT,reduceLeDiff,reduceMul,reduceEqDiff,reduceSub,reduceCtorEq,List.take_length]
     refine hK _ _ (by kernel_rfl) ?_
     simp only [mkW,lkF,reduceAdd,reduceEqDiff,if_true,if_false,reduceIte]
     refine ⟨[_, _], ?_, ?_, 2, [false,false,true,true,true,true,false,false,true,false,false,false,false,false,false,true,false,false,false,false,true,true,true], by omega, by simp only [maskFr,belowV,belowL,belowB,reduceLT,mkb], by simp only [maskFr,belowV,belowL,belowB,reduceLT,mkb], by simp only [maskFr,belowV,belowL,belowB,reduceLT,mkb,putAll,List.set_cons_zero,List.set_cons_succ]; rfl⟩
     ·exact ⟨i + 1, _, rfl⟩
     ·simp only [intOf,List.headD_cons]; omega
    ·skip
     refine ex_skip ?_
     show Go.Eng.Ex _ _ _ _ _ _
     refine ex_last_region_w tt_ok 42 [0,0,0,0,0,0,0,0,0,0,0,0,0,0,0,0,0,0,0,0,0,0,2,0,0,0,0,0,0,0,2] [] (by kernel_rfl) (by kernel_rfl) (by kernel_rfl) fun K hK => ?_
     try simp only [ltb]
     try simp only [ltb]
     simp only [hw,List.getElem?_map,hx,encLb,tyCells,List.length_map,go_sem,reduceIte,reduceAdd,reduceLT,reduceLeDiff,reduceMul,reduceEqDiff,reduceSub,reduceCtorEq,List.take_length]
     refine hK _ _ (by kernel_rfl) ?_
     simp only [mkW,lkF,reduceAdd,reduceEqDiff,if_true,if_false,reduceIte]
     refine ⟨[_, _], ?_, ?_, 2, [false,false,true,true,true,true,false,false,true,false,false,false,false,false,false,true,false,false,false,false,true,true,true], by omega, by simp only [maskFr,belowV,belowL,belowB,reduceLT,mkb], by simp only [maskFr,belowV,belowL,belowB,reduceLT,mkb], by simp only [maskFr,belowV,belowL,belowB,reduceLT,mkb,putAll,List.set_cons_zero,List.set_cons_succ]; rfl⟩
     ·exact ⟨i + 1, _, rfl⟩
     ·simp only [intOf,List.headD_cons]; omega
   ·skip
    refine ex_exit ?_
    show Go.Eng.Ex _ _ _ _ _ _
    refine ex_region_w tt_ok 42 [0,0,0,0,2,0,0,0,0,0,0,0,0,0,0,0,0,0,0,0,0,0,0,0,0,0,0,0,0,0,0,1] [] (by kernel_rfl) (by kernel_rfl) fun K hK => ?_
    try simp only [ltb]
    try simp only [ltb]
    simp only [List.length_map,go_sem,reduceIte,reduceAdd,reduceLT,reduceLeDiff,reduceMul,reduceEqDiff,reduceSub,reduceCtorEq,List.take_length]
    refine hK _ _ (by kernel_rfl) ?_
    simp only [mkW,lkF,reduceAdd,reduceEqDiff,if_true,if_false,reduceIte]
    refine ex_ret ?_
    exact ⟨.inl rfl, _, ⟨_, rfl⟩, rfl⟩
  ·skip
   refine ex_region_w tt_ok 42 [0,0,0,0,0,0,0,0,0,0,0,0,0,0,0,0,0,0,0,0,0,0,0,0,0,0,0,0,0,0,0,0,2,1,1,1] [] (by kernel_rfl) (by kernel_rfl) fun K hK => ?_
   try simp only [ltb]
   try simp only [ltb]
   simp only [List.length_map,go_sem,reduceIte,reduceAdd,reduceLT,reduceLeDiff,reduceMul,reduceEqDiff,reduceSub,reduceCtorEq,List.take_length]
   refine hK _ _ (by kernel_rfl) ?_
   simp only [mkW,lkF,reduceAdd,reduceEqDiff,if_true,if_false,reduceIte]
   refine ex_if rfl (fun hc32 => ?_) (fun hc32 => ?_)
   ·skip
    refine ex_region_w tt_ok 42 [0,0,0,0,2] [] (by kernel_rfl) (by kernel_rfl) fun K hK => ?_
    try simp only [ltb]
    try simp only [ltb]
    simp only [List.length_map,go_sem,reduceIte,reduceAdd,reduceLT,reduceLeDiff,reduceMul,reduceEqDiff,reduceSub,reduceCtorEq,List.take_length]
    refine hK _ _ (by kernel_rfl) ?_
    simp only [mkW,lkF,reduceAdd,reduceEqDiff,if_true,if_false,reduceIte]
    refine ex_ret ?_
    exact ⟨.inl rfl, _, ⟨_, rfl⟩, rfl⟩
   ·skip
    refine ex_skip ?_
    show Go.Eng.Ex _ _ _ _ _ _
    refine ex_region_w tt_ok 42 [0,0,0,0,2,0,0,0,0,0,0,0,0,0,0,0,0,0,0,0,0,0,0,0,0,0,0,0,0,0,0,0,0,0,0,0,1,1,1,1,1,1] [] (by kernel_rfl) (by kernel_rfl) fun K hK => ?_
    try simp only [ltb]
    try simp only [ltb]
    simp only [List.length_map,go_sem,reduceIte,reduceAdd,reduceLT,reduceLeDiff,reduceMul,reduceEqDiff,reduceSub,reduceCtorEq,List.take_length]
    refine hK _ _ (by kernel_rfl) ?_
    simp only [mkW,lkF,reduceAdd,reduceEqDiff,if_true,if_false,reduceIte]
    refine ex_ret ?_
    exact ⟨.inl rfl, _, ⟨_, rfl⟩, rfl⟩
end Go.Proofs.YtpjdfcigadnhcaaGreatDoor
end

section
namespace Go.Proofs.YtpjdfcigadnhcaaGreatDoor
open Go.Eng
open Nat (reduceAdd reduceLT reduceLeDiff reduceMul reduceEqDiff reduceSub)
variable [Glob]
set_option maxHeartbeats 4000000
set_option maxRecDepth 100000
attribute [local irreducible] runM stepM valD stepOp stepD callF
theorem lbName_tot (l : Lb) : ∃ r, (fun v => v = str l.name) r ∧ FnOk Tryz.prog 105 [encLb l] r := by
 refine fn_ex tt_ok (fn := Tryz.f105) Tryz.func105 rfl Tryz.call105 ?_
 simp only [startSt,Tryz.ntmps105,List.length_cons,List.length_nil,reduceAdd,reduceSub,List.replicate_succ,List.replicate_zero,List.cons_append,List.nil_append]
 simp only [encLb,tyCells,List.cons_append,List.nil_append]
 refine ex_region_w tt_ok 5 [0,2,2] [] (by kernel_rfl) (by kernel_rfl) fun K hK => ?_
 try simp only [ltb]
 try simp only [ltb]
 simp only [go_sem,reduceIte,reduceAdd,reduceLT,reduceLeDiff,reduceMul,reduceEqDiff,reduceSub,reduceCtorEq,List.take_length]
 refine hK _ _ (by kernel_rfl) ?_
 simp only [mkW,lkF,reduceAdd,reduceEqDiff,if_true,if_false,reduceIte]
 refine ex_region_w tt_ok 5 [0,0,2,1,1] [] (by kernel_rfl) (by kernel_rfl) fun K hK => ?_
 try simp only [ltb]
 try simp only [ltb]
 simp only [go_sem,reduceIte,reduceAdd,reduceLT,reduceLeDiff,reduceMul,reduceEqDiff,reduceSub,reduceCtorEq,List.take_length]
 refine hK _ _ (by kernel_rfl) ?_
 simp only [mkW,lkF,reduceAdd,reduceEqDiff,if_true,if_false,reduceIte]
 refine ex_ret ?_
 exact ⟨.inl rfl, _, rfl, rfl⟩
theorem increaseLb_tot (g : FuncId) (fs : List Lb) (hg : ∀ f : Lb, ∃ r, (∃ s : ByteArray, r = str s) ∧ FnOk Tryz.prog g [encLb f] r) (hl : fs.length ≤ 1048576) : ∃ r, isN r ∧ FnOk Tryz.prog 104 [.slice (fs.map encLb), .sc (.func (.func g) #[] #[])] r := by
 refine fn_ex tt_ok (fn := Tryz.f104) Tryz.func104 rfl Tryz.call104 ?_
 simp only [startSt,Tryz.ntmps104,List.length_cons,List.length_nil,reduceAdd,reduceSub,List.replicate_succ,List.replicate_zero,List.cons_append,List.nil_append]
 refine ex_region_w tt_ok 33 [0,0,0,0,2] [] (by kernel_rfl) (by kernel_rfl) fun K hK => ?_
 try simp only [ltb]
 try simp only [ltb]
 simp only [List.length_map,go_sem,reduceIte,reduceAdd,reduceLT,reduceLeDiff,reduceMul,reduceEqDiff,reduceSub,reduceCtorEq,List.take_length]
 refine hK _ _ (by kernel_rfl) ?_
 simp only [mkW,lkF,reduceAdd,reduceEqDiff,if_true,if_false,reduceIte]
 refine ex_seq ?_
 refine ex_region_w tt_ok 33 [0,0,0,0,0,2] [] (by kernel_rfl) (by kernel_rfl) fun K hK => ?_
 try simp only [ltb]
 try simp only [ltb]
 simp only [List.length_map,go_sem,reduceIte,reduceAdd,reduceLT,reduceLeDiff,reduceMul,reduceEqDiff,reduceSub,reduceCtorEq,List.take_length]
 refine hK _ _ (by kernel_rfl) ?_
 simp only [mkW,lkF,reduceAdd,reduceEqDiff,if_true,if_false,reduceIte]
 refine ex_block ?_
 refine ex_loopK [5] [num 1] 0 [true,true,false,false,true,true] (fun vs => ((fs.length : Int) - intOf (vs.headD .undef)).toNat) (fun vs => ∃ i : Nat, vs = [num i] ∧ 1 ≤ i) (by omega) (by simp only [maskFr,belowV,belowL,belowB,reduceLT,mkb]) (by simp only [maskFr,belowV,belowL,belowB,reduceLT,mkb]) (by rfl) (⟨1, rfl, by omega⟩) fun vs hI => ?_
 obtain ⟨i, rfl, hi⟩ := hI
 simp only [maskFr,belowV,belowL,belowB,reduceLT,mkb,putAll,List.set_cons_zero,List.set_cons_succ]
 refine ex_seq ?_
 refine ex_region_w tt_ok 33 [0,0,0,0,0,0,0,1,1,1,2] [] (by kernel_rfl) (by kernel_rfl) fun K hK => ?_
 try simp only [ltb]
 try simp only [ltb]
 simp only [List.length_map,go_sem,reduceIte,reduceAdd,reduceLT,reduceLeDiff,reduceMul,reduceEqDiff,reduceSub,reduceCtorEq,List.take_length]
 refine hK _ _ (by kernel_rfl) ?_
 simp only [mkW,lkF,reduceAdd,reduceEqDiff,if_true,if_false,reduceIte]
 refine ex_if rfl (fun hc10 => ?_) (fun hc10 => ?_)
 ·skip
  have hlt : i < fs.length := by simpa using hc10
  obtain ⟨x, hx⟩ : ∃ x, fs[i - 1]? = some x := ⟨_, List.getElem?_eq_getElem (by omega)⟩
  obtain ⟨y, hy⟩ : ∃ y, fs[i]? = some y := ⟨_, List.getElem?_eq_getElem hlt⟩
  have hw := i64_succ i (by omega)
  have hwm : IntKind.i64.wrap ((i : Int) - 1) = ((i - 1 : Nat) : Int) := by rw [IntWalk.i64_in _ (by omega)]; omega
  refine ex_skip ?_
  show Go.Eng.Ex _ _ _ _ _ _
  refine ex_seq ?_
  refine ex_block ?_
  refine ex_mixed_w tt_ok mixed_ok 33 [0,0,0,0,0,0,2,0,0,0,0,0,0,1,1,1,1,1,1,1,1,1,1,1,1,1,1] (by kernel_rfl) [⟨.n, 0, [], []⟩, ⟨.n, 0, [], []⟩, ⟨.n, 0, [], []⟩, ⟨.n, 0, [], []⟩, ⟨.r, 0, [], []⟩, ⟨.r, 0, [], []⟩, ⟨.n, 0, [], []⟩, ⟨.n, 0, [], []⟩, ⟨.n, 0, [], []⟩, ⟨.n, 0, [], []⟩, ⟨.r, 0, [], []⟩, ⟨.r, 0, [], []⟩, ⟨.n, 0, [], []⟩, ⟨.n, 0, [], []⟩, ⟨.n, 0, [], []⟩] 0 (by kernel_rfl) fun K hK => ?_
  try simp only [ltb,List.replicate_zero,List.replicate_succ]
  refine runM_cut 6 (by simp) (by simp) fun K1 hK1 => ?_
  try simp only [ltb]
  simp only [hw,hwm,List.getElem?_map,hx,hy,encLb,tyCells,List.length_map,go_sem,reduceIte,reduceAdd,reduceLT,reduceLeDiff,reduceMul,reduceEqDiff,reduceSub,reduceCtorEq,List.take_length,List.replicate]
  refine hK1 _ ?_
  refine runM_cut 1 (by simp) (by simp) fun K1 hK1 => ?_
  try simp only [ltb]
  simp only [hw,hwm,List.getElem?_map,hx,hy,encLb,tyCells,List.length_map,go_sem,reduceIte,reduceAdd,reduceLT,reduceLeDiff,reduceMul,reduceEqDiff,reduceSub,reduceCtorEq,List.take_length,List.replicate]
  refine callD_ex rfl (by have h := hg x; simp only [encLb,tyCells,List.cons_append,List.nil_append] at h; exact h) ?_
  rintro _ ⟨sx, rfl⟩
  try simp only [hw,hwm,List.getElem?_map,hx,hy,encLb,tyCells,List.length_map,go_sem,reduceIte,reduceAdd,reduceLT,reduceLeDiff,reduceMul,reduceEqDiff,reduceSub,reduceCtorEq,List.take_length,List.replicate]
  refine hK1 _ ?_
  refine runM_cut 6 (by simp) (by simp) fun K1 hK1 => ?_
  try simp only [ltb]
  simp only [hw,hwm,List.getElem?_map,hx,hy,encLb,tyCells,List.length_map,go_sem,reduceIte,reduceAdd,reduceLT,reduceLeDiff,reduceMul,reduceEqDiff,reduceSub,reduceCtorEq,List.take_length,List.replicate]
  refine callD_ex rfl (by have h := hg y; simp only [encLb,tyCells,List.cons_append,List.nil_append] at h; exact h) ?_
  rintro _ ⟨sy, rfl⟩
  try simp only [hw,hwm,List.getElem?_map,hx,hy,encLb,tyCells,List.length_map,go_sem,reduceIte,reduceAdd,reduceLT,reduceLeDiff,reduceMul,reduceEqDiff,reduceSub,reduceCtorEq,List.take_length,List.replicate]
  refine hK1 _ ?_
  refine runM_cut 1 (by simp) (by simp) fun K1 hK1 => ?_
  try simp only [ltb]
  simp only [hw,hwm,List.getElem?_map,hx,hy,encLb,tyCells,List.length_map,go_sem,reduceIte,reduceAdd,reduceLT,reduceLeDiff,reduceMul,reduceEqDiff,reduceSub,reduceCtorEq,List.take_length,List.replicate]
  refine callD_ex rfl (compare_tot _ _) ?_
  rintro _ ⟨r3, rfl⟩
  try simp only [hw,hwm,List.getElem?_map,hx,hy,encLb,tyCells,List.length_map,go_sem,reduceIte,reduceAdd,reduceLT,reduceLeDiff,reduceMul,reduceEqDiff,reduceSub,reduceCtorEq,List.take_length,List.replicate]
  refine hK1 _ ?_
  try simp only [ltb]
  simp only [hw,hwm,List.getElem?_map,hx,hy,encLb,tyCells,List.length_map,go_sem,reduceIte,reduceAdd,reduceLT,reduceLeDiff,reduceMul,reduceEqDiff,reduceSub,reduceCtorEq,List.take_length,List.replicate]
  refine hK _ _ (by kernel_rfl) ?_
  simp only [mkW,lkF,reduceAdd,reduceEqDiff,if_true,if_false,reduceIte]
  refine ex_block ?_
  refine ex_region_w tt_ok 33 [0,0,0,0,0,0,0,0,0,0,0,0,0,0,0,0,0,0,0,0,0,0,0,0,0,0,0,2,1,1] [] (by kernel_rfl) (by kernel_rfl) fun K hK => ?_
  try simp only [ltb]
  try simp only [ltb]
  simp only [hw,hwm,List.getElem?_map,hx,hy,encLb,tyCells,List.length_map,go_sem,reduceIte,reduceAdd,reduceLT,reduceLeDiff,reduceMul,reduceEqDiff,reduceSub,reduceCtorEq,List.take_length]
  refine hK _ _ (by kernel_rfl) ?_
  simp only [mkW,lkF,reduceAdd,reduceEqDiff,if_true,if_false,reduceIte]
  refine ex_if rfl (fun hc27 => ?_) (fun hc27 => ?_)
  ·skip
   refine ex_region_w tt_ok 33 [0,0,0,0,2] [] (by kernel_rfl) (by kernel_rfl) fun K hK => ?_
   try simp only [ltb]
   try simp only [ltb]
   simp only [hw,hwm,List.getElem?_map,hx,hy,encLb,tyCells,List.length_map,go_sem,reduceIte,reduceAdd,reduceLT,reduceLeDiff,reduceMul,reduceEqDiff,reduceSub,reduceCtorEq,List.take_length]
   refine hK _ _ (by kernel_rfl) ?_
   simp only [mkW,lkF,reduceAdd,reduceEqDiff,if_true,if_false,reduceIte]
   refine ex_ret ?_
   exact ⟨.inl rfl, _, ⟨_, rfl⟩, rfl⟩
  ·skip
   refine ex_region_w tt_ok 33 [0,0,0,0,0,0,0,0,0,0,0,0,0,0,0,0,0,0,0,0,0,0,0,0,0,0,0,0,0,0,2,1,1] [] (by kernel_rfl) (by kernel_rfl) fun K hK => ?_
   try simp only [ltb]
   try simp only [ltb]
   simp only [hw,hwm,List.getElem?_map,hx,hy,encLb,tyCells,List.length_map,go_sem,reduceIte,reduceAdd,reduceLT,reduceLeDiff,reduceMul,reduceEqDiff,reduceSub,reduceCtorEq,List.take_length]
   refine hK _ _ (by kernel_rfl) ?_
   simp only [mkW,lkF,reduceAdd,reduceEqDiff,if_true,if_false,reduceIte]
   refine ex_if rfl (fun hc30 => ?_) (fun hc30 => ?_)
   ·skip
    refine ex_region_w tt_ok 33 [0,0,0,0,2] [] (by kernel_rfl) (by kernel_rfl) fun K hK => ?_
    try simp only [ltb]
    try simp only [ltb]
    simp only [hw,hwm,List.getElem?_map,hx,hy,encLb,tyCells,List.length_map,go_sem,reduceIte,reduceAdd,reduceLT,reduceLeDiff,reduceMul,reduceEqDiff,reduceSub,reduceCtorEq,List.take_length]
    refine hK _ _ (by kernel_rfl) ?_
    simp only [mkW,lkF,reduceAdd,reduceEqDiff,if_true,if_false,reduceIte]
    refine ex_ret ?_
    exact ⟨.inl rfl, _, ⟨_, rfl⟩, rfl⟩
   ·skip
    refine ex_skip ?_
    show Go.Eng.Ex _ _ _ _ _ _
    refine ex_last_region_w tt_ok 33 [0,0,0,0,0,2,0,0,0,0,0,2,2] [] (by kernel_rfl) (by kernel_rfl) (by kernel_rfl) fun K hK => ?_
    try simp only [ltb]
    try simp only [ltb]
    simp only [hw,hwm,List.getElem?_map,hx,hy,encLb,tyCells,List.length_map,go_sem,reduceIte,reduceAdd,reduceLT,reduceLeDiff,reduceMul,reduceEqDiff,reduceSub,reduceCtorEq,List.take_length]
    refine hK _ _ (by kernel_rfl) ?_
    simp only [mkW,lkF,reduceAdd,reduceEqDiff,if_true,if_false,reduceIte]
    refine ⟨[_], ?_, ?_, 0, [true,true,false,false,true,true], by omega, by simp only [maskFr,belowV,belowL,belowB,reduceLT,mkb], by simp only [maskFr,belowV,belowL,belowB,reduceLT,mkb], by simp only [maskFr,belowV,belowL,belowB,reduceLT,mkb,putAll,List.set_cons_zero,List.set_cons_succ]; rfl⟩
    ·exact ⟨i + 1, rfl, by omega⟩
    ·simp only [intOf,List.headD_cons]; omega
 ·skip
  refine ex_exit ?_
  show Go.Eng.Ex _ _ _ _ _ _
  refine ex_region_w tt_ok 33 [0,0,0,0,2] [] (by kernel_rfl) (by kernel_rfl) fun K hK => ?_
  try simp only [ltb]
  try simp only [ltb]
  simp only [List.length_map,go_sem,reduceIte,reduceAdd,reduceLT,reduceLeDiff,reduceMul,reduceEqDiff,reduceSub,reduceCtorEq,List.take_length]
  refine hK _ _ (by kernel_rfl) ?_
  simp only [mkW,lkF,reduceAdd,reduceEqDiff,if_true,if_false,reduceIte]
  refine ex_ret ?_
  exact ⟨.inl rfl, _, ⟨_, rfl⟩, rfl⟩
end Go.Proofs.YtpjdfcigadnhcaaGreatDoor
end

section
namespace Go.Proofs.YtpjdfcigadnhcaaGreatDoor
open Go.Eng
open Nat (reduceAdd reduceLT reduceLeDiff reduceMul reduceEqDiff reduceSub)
variable [Glob]
set_option maxHeartbeats 4000000
set_option maxRecDepth 100000
attribute [local irreducible] runM stepM valD stepOp stepD callF callS
theorem has_tot (hG : Glob.g = some 0) (m : List Blk) (hm : m.all (belowB m.length) = true) (k : Nat) (fl : ByteArray) (ty kd : Int) (lb : Bool) (hk : m[k]? = some (.box [str fl, num ty, bl lb, num kd])) (s : ByteArray) (hs : s.size ≤ 1048576) (hf : fl.size ≤ 1048576) : ∃ r, isB r ∧ FnOkS Tryz.prog 151 [str s, .ptr k 0] (m) r (m) := by
 refine fns_ex tt_ok (fn := Tryz.f151) Tryz.func151 rfl Tryz.call151 (hm) ?_
 simp only [startSt,Tryz.ntmps151,List.length_cons,List.length_nil,reduceAdd,reduceSub,List.replicate_succ,List.replicate_zero,List.cons_append,List.nil_append]
 refine ex_region_w tt_ok 8 [0,0,0,2] [] (by kernel_rfl) (by kernel_rfl) fun K hK => ?_
 try simp only [ltb]
 try simp only [ltb]
 simp only [hk,tt134,go_sem,reduceIte,reduceAdd,reduceLT,reduceLeDiff,reduceMul,reduceEqDiff,reduceSub,reduceCtorEq,List.take_length]
 refine hK _ _ (by kernel_rfl) ?_
 simp only [mkW,lkF,reduceAdd,reduceEqDiff,if_true,if_false,reduceIte]
 refine ex_region_w tt_ok 8 [0,0,0,2,1,1,1,1] [] (by kernel_rfl) (by kernel_rfl) fun K hK => ?_
 try simp only [ltb]
 refine runX_cut 4 fun K1 hK1 => ?_
 simp only [ltb]
 simp only [hk,tt134,go_sem,reduceIte,reduceAdd,reduceLT,reduceLeDiff,reduceMul,reduceEqDiff,reduceSub,reduceCtorEq,List.take_length]
 refine callF_ex (contains_tot hG _ _ hf hs) ?_
 rintro _ ⟨r1, rfl⟩
 try simp only [hk,tt134,go_sem,reduceIte,reduceAdd,reduceLT,reduceLeDiff,reduceMul,reduceEqDiff,reduceSub,reduceCtorEq,List.take_length]
 refine hK1 _ ?_
 try simp only [ltb]
 simp only [hk,tt134,go_sem,reduceIte,reduceAdd,reduceLT,reduceLeDiff,reduceMul,reduceEqDiff,reduceSub,reduceCtorEq,List.take_length]
 refine hK _ _ (by kernel_rfl) ?_
 simp only [mkW,lkF,reduceAdd,reduceEqDiff,if_true,if_false,reduceIte]
 refine ex_ret ?_
 exact ⟨.inl rfl, _, ⟨_, rfl⟩, rfl, rfl, List.take_length⟩
theorem has2_tot (hG : Glob.g = some 0) (m : List Blk) (hm : m.all (belowB m.length) = true) (k : Nat) (fl : ByteArray) (ty kd : Int) (lb : Bool) (hk : m[k]? = some (.box [str fl, num ty, bl lb, num kd])) (s : ByteArray) (hs : s.size ≤ 1048576) (hf : fl.size ≤ 1048576) : ∃ r, isB r ∧ FnOkS Tryz.prog 157 [str s, .ptr k 0] (m) r (m) := by
 refine fns_ex tt_ok (fn := Tryz.f157) Tryz.func157 rfl Tryz.call157 (hm) ?_
 simp only [startSt,Tryz.ntmps157,List.length_cons,List.length_nil,reduceAdd,reduceSub,List.replicate_succ,List.replicate_zero,List.cons_append,List.nil_append]
 refine ex_region_w tt_ok 8 [0,0,0,2] [] (by kernel_rfl) (by kernel_rfl) fun K hK => ?_
 try simp only [ltb]
 try simp only [ltb]
 simp only [hk,tt134,go_sem,reduceIte,reduceAdd,reduceLT,reduceLeDiff,reduceMul,reduceEqDiff,reduceSub,reduceCtorEq,List.take_length]
 refine hK _ _ (by kernel_rfl) ?_
 simp only [mkW,lkF,reduceAdd,reduceEqDiff,if_true,if_false,reduceIte]
 refine ex_region_w tt_ok 8 [0,0,0,2,1,1,1,1] [] (by kernel_rfl) (by kernel_rfl) fun K hK => ?_
 try simp only [ltb]
 refine runX_cut 4 fun K1 hK1 => ?_
 simp only [ltb]
 simp only [hk,tt134,go_sem,reduceIte,reduceAdd,reduceLT,reduceLeDiff,reduceMul,reduceEqDiff,reduceSub,reduceCtorEq,List.take_length]
 refine callF_ex (contains_tot hG _ _ hf hs) ?_
 rintro _ ⟨r1, rfl⟩
 try simp only [hk,tt134,go_sem,reduceIte,reduceAdd,reduceLT,reduceLeDiff,reduceMul,reduceEqDiff,reduceSub,reduceCtorEq,List.take_length]
 refine hK1 _ ?_
 try simp only [ltb]
 simp only [hk,tt134,go_sem,reduceIte,reduceAdd,reduceLT,reduceLeDiff,reduceMul,reduceEqDiff,reduceSub,reduceCtorEq,List.take_length]
 refine hK _ _ (by kernel_rfl) ?_
 simp only [mkW,lkF,reduceAdd,reduceEqDiff,if_true,if_false,reduceIte]
 refine ex_ret ?_
 exact ⟨.inl rfl, _, ⟨_, rfl⟩, rfl, rfl, List.take_length⟩
theorem idxLb_tot (m : List Blk) (hm : m.all (belowB m.length) = true) (g : FuncId) (k : Nat) (hk : k < m.length) (ls : List Lb) (hg : ∀ l : Lb, ∃ r, isB r ∧ FnOkS Tryz.prog g [encLb l, .ptr k 0] m r m) (hl : ls.length ≤ 1048576) : ∃ r, isN r ∧ FnOkS Tryz.prog 186 [.slice (ls.map encLb), .clo (.func g) [] [.ptr k 0]] (m) r (m) := by
 refine fns_ex tt_ok (fn := Tryz.f186) Tryz.func186 rfl Tryz.call186 (hm) ?_
 simp only [startSt,Tryz.ntmps186,List.length_cons,List.length_nil,reduceAdd,reduceSub,List.replicate_succ,List.replicate_zero,List.cons_append,List.nil_append]
 refine ex_region_w tt_ok 19 [0,0,0,0,2] [] (by kernel_rfl) (by kernel_rfl) fun K hK => ?_
 try simp only [ltb]
 try simp only [ltb]
 simp only [List.length_map,go_sem,reduceIte,reduceAdd,reduceLT,reduceLeDiff,reduceMul,reduceEqDiff,reduceSub,reduceCtorEq,List.take_length]
 refine hK _ _ (by kernel_rfl) ?_
 simp only [mkW,lkF,reduceAdd,reduceEqDiff,if_true,if_false,reduceIte]
 refine ex_seq ?_
 refine ex_region_w tt_ok 19 [0,0,0,0,0,0,1,2,2] [] (by kernel_rfl) (by kernel_rfl) fun K hK => ?_
 try simp only [ltb]
 try simp only [ltb]
 simp only [List.length_map,go_sem,reduceIte,reduceAdd,reduceLT,reduceLeDiff,reduceMul,reduceEqDiff,reduceSub,reduceCtorEq,List.take_length]
 refine hK _ _ (by kernel_rfl) ?_
 simp only [mkW,lkF,reduceAdd,reduceEqDiff,if_true,if_false,reduceIte]
 refine ex_block ?_
 refine ex_range 8 (ls.length) m.length [true,true,false,false,true,false,false,true,true] (by omega) (by simp only [List.take_length,hm,hk,decide_true,maskFr,belowV,belowL,belowB,reduceLT,mkb]) (by simp only [List.take_length,hm,hk,decide_true,maskFr,belowV,belowL,belowB,reduceLT,mkb]) (by rfl) fun i hii => ?_
 simp only [List.take_length,hm,hk,decide_true,maskFr,belowV,belowL,belowB,reduceLT,mkb,List.set_cons_zero,List.set_cons_succ]
 refine ex_region_w tt_ok 19 [0,0,0,0,0,0,0,0,0,2] [] (by kernel_rfl) (by kernel_rfl) fun K hK => ?_
 try simp only [ltb]
 try simp only [ltb]
 simp only [List.length_map,go_sem,reduceIte,reduceAdd,reduceLT,reduceLeDiff,reduceMul,reduceEqDiff,reduceSub,reduceCtorEq,List.take_length]
 refine hK _ _ (by kernel_rfl) ?_
 simp only [mkW,lkF,reduceAdd,reduceEqDiff,if_true,if_false,reduceIte]
 refine ex_seq ?_
 refine ex_if rfl (fun hc9 => ?_) (fun hc9 => ?_)
 ·skip
  have hlti : i < (ls.length) := by simpa using hc9
  refine ex_skip ?_
  show Go.Eng.Ex _ _ _ _ _ _
  refine ex_seq ?_
  refine ex_block ?_
  refine ex_region_w tt_ok 19 [0,0,0,0,0,2,0,0,0,0,1] [] (by kernel_rfl) (by kernel_rfl) fun K hK => ?_
  try simp only [ltb]
  try simp only [ltb]
  simp only [hlti,List.length_map,go_sem,reduceIte,reduceAdd,reduceLT,reduceLeDiff,reduceMul,reduceEqDiff,reduceSub,reduceCtorEq,List.take_length]
  refine hK _ _ (by kernel_rfl) ?_
  simp only [mkW,lkF,reduceAdd,reduceEqDiff,if_true,if_false,reduceIte]
  refine ex_region_w tt_ok 19 [0,0,0,0,0,0,0,0,0,0,0,1,1,1,1,1,2] [] (by kernel_rfl) (by kernel_rfl) fun K hK => ?_
  try simp only [ltb]
  refine runX_cut 3 fun K1 hK1 => ?_
  simp only [ltb]
  simp only [hlti,List.length_map,go_sem,reduceIte,reduceAdd,reduceLT,reduceLeDiff,reduceMul,reduceEqDiff,reduceSub,reduceCtorEq,List.take_length]
  refine hK1 _ ?_
  obtain ⟨x, hx⟩ : ∃ x, ls[i]? = some x := ⟨_, List.getElem?_eq_getElem hlti⟩
  try simp only [ltb]
  simp only [hlti,List.getElem?_map,hx,encLb,tyCells,List.length_map,go_sem,reduceIte,reduceAdd,reduceLT,reduceLeDiff,reduceMul,reduceEqDiff,reduceSub,reduceCtorEq,List.take_length]
  refine callS_ex (by have h := hg x; simp only [encLb,tyCells,List.cons_append,List.nil_append] at h; exact h) ?_
  rintro _ ⟨r1, rfl⟩
  try simp only [hlti,List.getElem?_map,hx,encLb,tyCells,List.length_map,go_sem,reduceIte,reduceAdd,reduceLT,reduceLeDiff,reduceMul,reduceEqDiff,reduceSub,reduceCtorEq,List.take_length]
  refine hK _ _ (by kernel_rfl) ?_
  simp only [mkW,lkF,reduceAdd,reduceEqDiff,if_true,if_false,reduceIte]
  refine ex_if rfl (fun hc16 => ?_) (fun hc16 => ?_)
  ·skip
   refine ex_region_w tt_ok 19 [0,0,0,0,2,0,0,0,0,0,0,0,0,0,0,0,0,1] [] (by kernel_rfl) (by kernel_rfl) fun K hK => ?_
   try simp only [ltb]
   try simp only [ltb]
   simp only [hlti,List.getElem?_map,hx,encLb,tyCells,List.length_map,go_sem,reduceIte,reduceAdd,reduceLT,reduceLeDiff,reduceMul,reduceEqDiff,reduceSub,reduceCtorEq,List.take_length]
   refine hK _ _ (by kernel_rfl) ?_
   simp only [mkW,lkF,reduceAdd,reduceEqDiff,if_true,if_false,reduceIte]
   refine ex_ret ?_
   exact ⟨.inl rfl, _, ⟨_, rfl⟩, rfl, rfl, List.take_length⟩
  ·skip
   refine ex_skip ?_
   show Go.Eng.Ex _ _ _ _ _ _
   refine ex_last_region_w tt_ok 19 [0,0,0,0,0,0,0,0,2,0,0,0,0,0,0,0,0,0,2] [] (by kernel_rfl) (by kernel_rfl) (by kernel_rfl) fun K hK => ?_
   try simp only [ltb]
   try simp only [ltb]
   simp only [hlti,List.getElem?_map,hx,encLb,tyCells,List.length_map,go_sem,reduceIte,reduceAdd,reduceLT,reduceLeDiff,reduceMul,reduceEqDiff,reduceSub,reduceCtorEq,List.take_length]
   refine hK _ _ (by kernel_rfl) ?_
   simp only [mkW,lkF,reduceAdd,reduceEqDiff,if_true,if_false,reduceIte]
   have hwi := i64_succ i (by omega)
   refine ⟨hlti, m.length, [true,true,false,false,true,false,false,true,true], by omega, by simp only [List.take_length,hm,hk,decide_true,maskFr,belowV,belowL,belowB,reduceLT,mkb], by simp only [List.take_length,hm,hk,decide_true,maskFr,belowV,belowL,belowB,reduceLT,mkb], ?_⟩
   simp only [hwi,List.take_length,hm,hk,decide_true,maskFr,belowV,belowL,belowB,reduceLT,mkb,List.set_cons_zero,List.set_cons_succ]
 ·skip
  have hgei : ¬ i < (ls.length) := by simpa using hc9
  refine ex_exit ?_
  show Go.Eng.Ex _ _ _ _ _ _
  refine ex_region_w tt_ok 19 [0,0,0,0,2] [] (by kernel_rfl) (by kernel_rfl) fun K hK => ?_
  try simp only [ltb]
  try simp only [ltb]
  simp only [List.length_map,go_sem,reduceIte,reduceAdd,reduceLT,reduceLeDiff,reduceMul,reduceEqDiff,reduceSub,reduceCtorEq,List.take_length]
  refine hK _ _ (by kernel_rfl) ?_
  simp only [mkW,lkF,reduceAdd,reduceEqDiff,if_true,if_false,reduceIte]
  refine ex_ret ?_
  exact ⟨.inl rfl, _, ⟨_, rfl⟩, rfl, rfl, List.take_length⟩
theorem containsLb_tot (m : List Blk) (hm : m.all (belowB m.length) = true) (g : FuncId) (k : Nat) (hk : k < m.length) (ls : List Lb) (hg : ∀ l : Lb, ∃ r, isB r ∧ FnOkS Tryz.prog g [encLb l, .ptr k 0] m r m) (hl : ls.length ≤ 1048576) : ∃ r, isB r ∧ FnOkS Tryz.prog 154 [.slice (ls.map encLb), .clo (.func g) [] [.ptr k 0]] (m) r (m) := by
 refine fns_ex tt_ok (fn := Tryz.f154) Tryz.func154 rfl Tryz.call154 (hm) ?_
 simp only [startSt,Tryz.ntmps154,List.length_cons,List.length_nil,reduceAdd,reduceSub,List.replicate_succ,List.replicate_zero,List.cons_append,List.nil_append]
 refine ex_region_w tt_ok 9 [0,0,0,0,2] [] (by kernel_rfl) (by kernel_rfl) fun K hK => ?_
 try simp only [ltb]
 try simp only [ltb]
 simp only [go_sem,reduceIte,reduceAdd,reduceLT,reduceLeDiff,reduceMul,reduceEqDiff,reduceSub,reduceCtorEq,List.take_length]
 refine hK _ _ (by kernel_rfl) ?_
 simp only [mkW,lkF,reduceAdd,reduceEqDiff,if_true,if_false,reduceIte]
 refine ex_region_w tt_ok 9 [0,0,0,0,2,1,1,1,1] [] (by kernel_rfl) (by kernel_rfl) fun K hK => ?_
 try simp only [ltb]
 refine runX_cut 3 fun K1 hK1 => ?_
 simp only [ltb]
 simp only [go_sem,reduceIte,reduceAdd,reduceLT,reduceLeDiff,reduceMul,reduceEqDiff,reduceSub,reduceCtorEq,List.take_length]
 refine callS_ex (idxLb_tot m hm g k hk ls hg hl) ?_
 rintro _ ⟨r1, rfl⟩
 try simp only [go_sem,reduceIte,reduceAdd,reduceLT,reduceLeDiff,reduceMul,reduceEqDiff,reduceSub,reduceCtorEq,List.take_length]
 refine hK1 _ ?_
 try simp only [ltb]
 simp only [go_sem,reduceIte,reduceAdd,reduceLT,reduceLeDiff,reduceMul,reduceEqDiff,reduceSub,reduceCtorEq,List.take_length]
 refine hK _ _ (by kernel_rfl) ?_
 simp only [mkW,lkF,reduceAdd,reduceEqDiff,if_true,if_false,reduceIte]
 refine ex_ret ?_
 exact ⟨.inl rfl, _, ⟨_, rfl⟩, rfl, rfl, List.take_length⟩
end Go.Proofs.YtpjdfcigadnhcaaGreatDoor
end

section
namespace Go.Proofs.YtpjdfcigadnhcaaGreatDoor
open Go.Eng
open Nat (reduceAdd reduceLT reduceLeDiff reduceMul reduceEqDiff reduceSub)
variable [Glob]
set_option maxHeartbeats 4000000
set_option maxRecDepth 100000
attribute [local irreducible] runM stepM valD stepOp stepD callF callS
theorem fits2_tot (hG : Glob.g = some 0) (b0 : Blk) (hb0 : ∀ n, 3 ≤ n → belowB n b0 = true) (fl : ByteArray) (ty kd : Int) (lb : Bool) (hf : fl.size ≤ 1048576) (l : Lb) : ∃ r, isB r ∧ FnOkS Tryz.prog 155 [encLb l, .ptr 2 0] ([b0, .box [str fl, num ty, bl lb, num kd], .box [.clo (.func 151) [] [.ptr 1 0]]]) r ([b0, .box [str fl, num ty, bl lb, num kd], .box [.clo (.func 151) [] [.ptr 1 0]]]) := by
 refine fns_ex tt_ok (fn := Tryz.f155) Tryz.func155 rfl Tryz.call155 (by simp only [List.all_cons,List.all_nil,bB_box,bB_map,bB_rows,bB_frz,bB_dead,bB_hole,belowV,belowL,List.length_cons,List.length_nil,reduceAdd,reduceLT,decide_true,Bool.and_self,Bool.and_true,hb0,reduceLeDiff]) ?_
 simp only [startSt,Tryz.ntmps155,List.length_cons,List.length_nil,reduceAdd,reduceSub,List.replicate_succ,List.replicate_zero,List.cons_append,List.nil_append]
 simp only [encLb,tyCells,List.cons_append,List.nil_append]
 refine ex_region_w tt_ok 32 [0,0,2,2] [] (by kernel_rfl) (by kernel_rfl) fun K hK => ?_
 try simp only [ltb]
 try simp only [ltb]
 simp only [go_sem,reduceIte,reduceAdd,reduceLT,reduceLeDiff,reduceMul,reduceEqDiff,reduceSub,reduceCtorEq,List.take_length]
 refine hK _ _ (by kernel_rfl) ?_
 simp only [mkW,lkF,reduceAdd,reduceEqDiff,if_true,if_false,reduceIte]
 refine ex_region_w tt_ok 32 [0,0,0,2,1,1,1,1,1,1,1,1,1,1,1,1,1,1,1,1,1,1,1,1,1,1,1,1,1,1,1,1] [(3, 7), (8, 12), (13, 17), (19, 23), (22, 26)] (by kernel_rfl) (by kernel_rfl) fun K hK => ?_
 try simp only [ltb]
 refine runX_cut 4 fun K1 hK1 => ?_
 simp only [ltb]
 simp only [go_sem,reduceIte,reduceAdd,reduceLT,reduceLeDiff,reduceMul,reduceEqDiff,reduceSub,reduceCtorEq,List.take_length]
 refine hK1 _ ?_
 refine runX_case 7 (by rfl) fun b hb1_3 => ?_
 cases b
 ·skip
  refine runX_cut 8 fun K1 hK1 => ?_
  simp only [ltb]
  simp only [go_sem,reduceIte,reduceAdd,reduceLT,reduceLeDiff,reduceMul,reduceEqDiff,reduceSub,reduceCtorEq,List.take_length]
  refine callF_ex (by have h := zeroType_tot l.ty; rw [encTy_eq] at h; exact h) ?_
  rintro _ ⟨r1, rfl⟩
  try simp only [go_sem,reduceIte,reduceAdd,reduceLT,reduceLeDiff,reduceMul,reduceEqDiff,reduceSub,reduceCtorEq,List.take_length]
  refine hK1 _ ?_
  refine runX_cut 2 fun K1 hK1 => ?_
  simp only [ltb]
  simp only [go_sem,reduceIte,reduceAdd,reduceLT,reduceLeDiff,reduceMul,reduceEqDiff,reduceSub,reduceCtorEq,List.take_length]
  refine hK1 _ ?_
  refine runX_case 17 (by rfl) fun b hb1_13 => ?_
  cases b
  ·skip
   refine runX_cut 8 fun K1 hK1 => ?_
   simp only [ltb]
   simp only [go_sem,reduceIte,reduceAdd,reduceLT,reduceLeDiff,reduceMul,reduceEqDiff,reduceSub,reduceCtorEq,List.take_length]
   refine hK1 _ ?_
   refine runX_cut 1 fun K1 hK1 => ?_
   simp only [ltb]
   simp only [go_sem,reduceIte,reduceAdd,reduceLT,reduceLeDiff,reduceMul,reduceEqDiff,reduceSub,reduceCtorEq,List.take_length]
   refine hK1 _ ?_
   refine runX_case 26 (by rfl) fun b hb1_22 => ?_
   cases b
   ·skip
    try simp only [ltb]
    simp only [go_sem,reduceIte,reduceAdd,reduceLT,reduceLeDiff,reduceMul,reduceEqDiff,reduceSub,reduceCtorEq,List.take_length]
    refine hK _ _ (by kernel_rfl) ?_
    simp only [mkW,lkF,reduceAdd,reduceEqDiff,if_true,if_false,reduceIte]
    refine ex_ret ?_
    exact ⟨.inl rfl, _, ⟨_, rfl⟩, rfl, rfl, rfl⟩
   ·skip
    refine runX_cut 2 fun K1 hK1 => ?_
    simp only [ltb]
    simp only [go_sem,reduceIte,reduceAdd,reduceLT,reduceLeDiff,reduceMul,reduceEqDiff,reduceSub,reduceCtorEq,List.take_length]
    refine callS_ex (has_tot hG _ (by simp only [List.all_cons,List.all_nil,bB_box,bB_map,bB_rows,bB_frz,bB_dead,bB_hole,belowV,belowL,List.length_cons,List.length_nil,reduceAdd,reduceLT,decide_true,Bool.and_self,Bool.and_true,hb0,reduceLeDiff]) 1 fl ty kd lb rfl _ (by decide) hf) ?_
    rintro _ ⟨r2, rfl⟩
    try simp only [go_sem,reduceIte,reduceAdd,reduceLT,reduceLeDiff,reduceMul,reduceEqDiff,reduceSub,reduceCtorEq,List.take_length]
    refine hK1 _ ?_
    try simp only [ltb]
    simp only [go_sem,reduceIte,reduceAdd,reduceLT,reduceLeDiff,reduceMul,reduceEqDiff,reduceSub,reduceCtorEq,List.take_length]
    refine hK _ _ (by kernel_rfl) ?_
    simp only [mkW,lkF,reduceAdd,reduceEqDiff,if_true,if_false,reduceIte]
    refine ex_ret ?_
    exact ⟨.inl rfl, _, ⟨_, rfl⟩, rfl, rfl, rfl⟩
  ·skip
   refine runX_cut 2 fun K1 hK1 => ?_
   simp only [ltb]
   simp only [go_sem,reduceIte,reduceAdd,reduceLT,reduceLeDiff,reduceMul,reduceEqDiff,reduceSub,reduceCtorEq,List.take_length]
   refine callS_ex (has_tot hG _ (by simp only [List.all_cons,List.all_nil,bB_box,bB_map,bB_rows,bB_frz,bB_dead,bB_hole,belowV,belowL,List.length_cons,List.length_nil,reduceAdd,reduceLT,decide_true,Bool.and_self,Bool.and_true,hb0,reduceLeDiff]) 1 fl ty kd lb rfl _ (by decide) hf) ?_
   rintro _ ⟨r3, rfl⟩
   try simp only [go_sem,reduceIte,reduceAdd,reduceLT,reduceLeDiff,reduceMul,reduceEqDiff,reduceSub,reduceCtorEq,List.take_length]
   refine hK1 _ ?_
   refine runX_cut 4 fun K1 hK1 => ?_
   simp only [ltb]
   simp only [go_sem,reduceIte,reduceAdd,reduceLT,reduceLeDiff,reduceMul,reduceEqDiff,reduceSub,reduceCtorEq,List.take_length]
   refine hK1 _ ?_
   refine runX_case 23 (by rfl) fun b hb1_19 => ?_
   cases b
   ·skip
    refine runX_cut 3 fun K1 hK1 => ?_
    simp only [ltb]
    simp only [go_sem,reduceIte,reduceAdd,reduceLT,reduceLeDiff,reduceMul,reduceEqDiff,reduceSub,reduceCtorEq,List.take_length]
    refine hK1 _ ?_
    refine runX_case 26 (by rfl) fun b hb1_22 => ?_
    cases b
    ·skip
     try simp only [ltb]
     simp only [go_sem,reduceIte,reduceAdd,reduceLT,reduceLeDiff,reduceMul,reduceEqDiff,reduceSub,reduceCtorEq,List.take_length]
     refine hK _ _ (by kernel_rfl) ?_
     simp only [mkW,lkF,reduceAdd,reduceEqDiff,if_true,if_false,reduceIte]
     refine ex_ret ?_
     exact ⟨.inl rfl, _, ⟨_, rfl⟩, rfl, rfl, rfl⟩
    ·skip
     refine runX_cut 2 fun K1 hK1 => ?_
     simp only [ltb]
     simp only [go_sem,reduceIte,reduceAdd,reduceLT,reduceLeDiff,reduceMul,reduceEqDiff,reduceSub,reduceCtorEq,List.take_length]
     refine callS_ex (has_tot hG _ (by simp only [List.all_cons,List.all_nil,bB_box,bB_map,bB_rows,bB_frz,bB_dead,bB_hole,belowV,belowL,List.length_cons,List.length_nil,reduceAdd,reduceLT,decide_true,Bool.and_self,Bool.and_true,hb0,reduceLeDiff]) 1 fl ty kd lb rfl _ (by decide) hf) ?_
     rintro _ ⟨r4, rfl⟩
     try simp only [go_sem,reduceIte,reduceAdd,reduceLT,reduceLeDiff,reduceMul,reduceEqDiff,reduceSub,reduceCtorEq,List.take_length]
     refine hK1 _ ?_
     try simp only [ltb]
     simp only [go_sem,reduceIte,reduceAdd,reduceLT,reduceLeDiff,reduceMul,reduceEqDiff,reduceSub,reduceCtorEq,List.take_length]
     refine hK _ _ (by kernel_rfl) ?_
     simp only [mkW,lkF,reduceAdd,reduceEqDiff,if_true,if_false,reduceIte]
     refine ex_ret ?_
     exact ⟨.inl rfl, _, ⟨_, rfl⟩, rfl, rfl, rfl⟩
   ·skip
    refine runX_cut 8 fun K1 hK1 => ?_
    simp only [ltb]
    simp only [go_sem,reduceIte,reduceAdd,reduceLT,reduceLeDiff,reduceMul,reduceEqDiff,reduceSub,reduceCtorEq,List.take_length]
    refine hK1 _ ?_
    try simp only [ltb]
    simp only [go_sem,reduceIte,reduceAdd,reduceLT,reduceLeDiff,reduceMul,reduceEqDiff,reduceSub,reduceCtorEq,List.take_length]
    refine hK _ _ (by kernel_rfl) ?_
    simp only [mkW,lkF,reduceAdd,reduceEqDiff,if_true,if_false,reduceIte]
    refine ex_ret ?_
    exact ⟨.inl rfl, _, ⟨_, rfl⟩, rfl, rfl, rfl⟩
 ·skip
  refine runX_cut 2 fun K1 hK1 => ?_
  simp only [ltb]
  simp only [go_sem,reduceIte,reduceAdd,reduceLT,reduceLeDiff,reduceMul,reduceEqDiff,reduceSub,reduceCtorEq,List.take_length]
  refine callS_ex (has_tot hG _ (by simp only [List.all_cons,List.all_nil,bB_box,bB_map,bB_rows,bB_frz,bB_dead,bB_hole,belowV,belowL,List.length_cons,List.length_nil,reduceAdd,reduceLT,decide_true,Bool.and_self,Bool.and_true,hb0,reduceLeDiff]) 1 fl ty kd lb rfl _ (by decide) hf) ?_
  rintro _ ⟨r5, rfl⟩
  try simp only [go_sem,reduceIte,reduceAdd,reduceLT,reduceLeDiff,reduceMul,reduceEqDiff,reduceSub,reduceCtorEq,List.take_length]
  refine hK1 _ ?_
  refine runX_cut 3 fun K1 hK1 => ?_
  simp only [ltb]
  simp only [go_sem,reduceIte,reduceAdd,reduceLT,reduceLeDiff,reduceMul,reduceEqDiff,reduceSub,reduceCtorEq,List.take_length]
  refine hK1 _ ?_
  refine runX_case 12 (by rfl) fun b hb1_8 => ?_
  cases b
  ·skip
   refine runX_cut 3 fun K1 hK1 => ?_
   simp only [ltb]
   simp only [go_sem,reduceIte,reduceAdd,reduceLT,reduceLeDiff,reduceMul,reduceEqDiff,reduceSub,reduceCtorEq,List.take_length]
   refine callF_ex (by have h := zeroType_tot l.ty; rw [encTy_eq] at h; exact h) ?_
   rintro _ ⟨r6, rfl⟩
   try simp only [go_sem,reduceIte,reduceAdd,reduceLT,reduceLeDiff,reduceMul,reduceEqDiff,reduceSub,reduceCtorEq,List.take_length]
   refine hK1 _ ?_
   refine runX_cut 2 fun K1 hK1 => ?_
   simp only [ltb]
   simp only [go_sem,reduceIte,reduceAdd,reduceLT,reduceLeDiff,reduceMul,reduceEqDiff,reduceSub,reduceCtorEq,List.take_length]
   refine hK1 _ ?_
   refine runX_case 17 (by rfl) fun b hb1_13 => ?_
   cases b
   ·skip
    refine runX_cut 8 fun K1 hK1 => ?_
    simp only [ltb]
    simp only [go_sem,reduceIte,reduceAdd,reduceLT,reduceLeDiff,reduceMul,reduceEqDiff,reduceSub,reduceCtorEq,List.take_length]
    refine hK1 _ ?_
    refine runX_cut 1 fun K1 hK1 => ?_
    simp only [ltb]
    simp only [go_sem,reduceIte,reduceAdd,reduceLT,reduceLeDiff,reduceMul,reduceEqDiff,reduceSub,reduceCtorEq,List.take_length]
    refine hK1 _ ?_
    refine runX_case 26 (by rfl) fun b hb1_22 => ?_
    cases b
    ·skip
     try simp only [ltb]
     simp only [go_sem,reduceIte,reduceAdd,reduceLT,reduceLeDiff,reduceMul,reduceEqDiff,reduceSub,reduceCtorEq,List.take_length]
     refine hK _ _ (by kernel_rfl) ?_
     simp only [mkW,lkF,reduceAdd,reduceEqDiff,if_true,if_false,reduceIte]
     refine ex_ret ?_
     exact ⟨.inl rfl, _, ⟨_, rfl⟩, rfl, rfl, rfl⟩
    ·skip
     refine runX_cut 2 fun K1 hK1 => ?_
     simp only [ltb]
     simp only [go_sem,reduceIte,reduceAdd,reduceLT,reduceLeDiff,reduceMul,reduceEqDiff,reduceSub,reduceCtorEq,List.take_length]
     refine callS_ex (has_tot hG _ (by simp only [List.all_cons,List.all_nil,bB_box,bB_map,bB_rows,bB_frz,bB_dead,bB_hole,belowV,belowL,List.length_cons,List.length_nil,reduceAdd,reduceLT,decide_true,Bool.and_self,Bool.and_true,hb0,reduceLeDiff]) 1 fl ty kd lb rfl _ (by decide) hf) ?_
     rintro _ ⟨r7, rfl⟩
     try simp only [go_sem,reduceIte,reduceAdd,reduceLT,reduceLeDiff,reduceMul,reduceEqDiff,reduceSub,reduceCtorEq,List.take_length]
     refine hK1 _ ?_
     try simp only [ltb]
     simp only [go_sem,reduceIte,reduceAdd,reduceLT,reduceLeDiff,reduceMul,reduceEqDiff,reduceSub,reduceCtorEq,List.take_length]
     refine hK _ _ (by kernel_rfl) ?_
     simp only [mkW,lkF,reduceAdd,reduceEqDiff,if_true,if_false,reduceIte]
     refine ex_ret ?_
     exact ⟨.inl rfl, _, ⟨_, rfl⟩, rfl, rfl, rfl⟩
   ·skip
    refine runX_cut 2 fun K1 hK1 => ?_
    simp only [ltb]
    simp only [go_sem,reduceIte,reduceAdd,reduceLT,reduceLeDiff,reduceMul,reduceEqDiff,reduceSub,reduceCtorEq,List.take_length]
    refine callS_ex (has_tot hG _ (by simp only [List.all_cons,List.all_nil,bB_box,bB_map,bB_rows,bB_frz,bB_dead,bB_hole,belowV,belowL,List.length_cons,List.length_nil,reduceAdd,reduceLT,decide_true,Bool.and_self,Bool.and_true,hb0,reduceLeDiff]) 1 fl ty kd lb rfl _ (by decide) hf) ?_
    rintro _ ⟨r8, rfl⟩
    try simp only [go_sem,reduceIte,reduceAdd,reduceLT,reduceLeDiff,reduceMul,reduceEqDiff,reduceSub,reduceCtorEq,List.take_length]
    refine hK1 _ ?_
    refine runX_cut 4 fun K1 hK1 => ?_
    simp only [ltb]
    simp only [go_sem,reduceIte,reduceAdd,reduceLT,reduceLeDiff,reduceMul,reduceEqDiff,reduceSub,reduceCtorEq,List.take_length]
    refine hK1 _ ?_
    refine runX_case 23 (by rfl) fun b hb1_19 => ?_
    cases b
    ·skip
     refine runX_cut 3 fun K1 hK1 => ?_
     simp only [ltb]
     simp only [go_sem,reduceIte,reduceAdd,reduceLT,reduceLeDiff,reduceMul,reduceEqDiff,reduceSub,reduceCtorEq,List.take_length]
     refine hK1 _ ?_
     refine runX_case 26 (by rfl) fun b hb1_22 => ?_
     cases b
     ·skip
      try simp only [ltb]
      simp only [go_sem,reduceIte,reduceAdd,reduceLT,reduceLeDiff,reduceMul,reduceEqDiff,reduceSub,reduceCtorEq,List.take_length]
      refine hK _ _ (by kernel_rfl) ?_
      simp only [mkW,lkF,reduceAdd,reduceEqDiff,if_true,if_false,reduceIte]
      refine ex_ret ?_
      exact ⟨.inl rfl, _, ⟨_, rfl⟩, rfl, rfl, rfl⟩
     ·skip
      refine runX_cut 2 fun K1 hK1 => ?_
      simp only [ltb]
      simp only [go_sem,reduceIte,reduceAdd,reduceLT,reduceLeDiff,reduceMul,reduceEqDiff,reduceSub,reduceCtorEq,List.take_length]
      refine callS_ex (has_tot hG _ (by simp only [List.all_cons,List.all_nil,bB_box,bB_map,bB_rows,bB_frz,bB_dead,bB_hole,belowV,belowL,List.length_cons,List.length_nil,reduceAdd,reduceLT,decide_true,Bool.and_self,Bool.and_true,hb0,reduceLeDiff]) 1 fl ty kd lb rfl _ (by decide) hf) ?_
      rintro _ ⟨r9, rfl⟩
      try simp only [go_sem,reduceIte,reduceAdd,reduceLT,reduceLeDiff,reduceMul,reduceEqDiff,reduceSub,reduceCtorEq,List.take_length]
      refine hK1 _ ?_
      try simp only [ltb]
      simp only [go_sem,reduceIte,reduceAdd,reduceLT,reduceLeDiff,reduceMul,reduceEqDiff,reduceSub,reduceCtorEq,List.take_length]
      refine hK _ _ (by kernel_rfl) ?_
      simp only [mkW,lkF,reduceAdd,reduceEqDiff,if_true,if_false,reduceIte]
      refine ex_ret ?_
      exact ⟨.inl rfl, _, ⟨_, rfl⟩, rfl, rfl, rfl⟩
    ·skip
     refine runX_cut 8 fun K1 hK1 => ?_
     simp only [ltb]
     simp only [go_sem,reduceIte,reduceAdd,reduceLT,reduceLeDiff,reduceMul,reduceEqDiff,reduceSub,reduceCtorEq,List.take_length]
     refine hK1 _ ?_
     try simp only [ltb]
     simp only [go_sem,reduceIte,reduceAdd,reduceLT,reduceLeDiff,reduceMul,reduceEqDiff,reduceSub,reduceCtorEq,List.take_length]
     refine hK _ _ (by kernel_rfl) ?_
     simp only [mkW,lkF,reduceAdd,reduceEqDiff,if_true,if_false,reduceIte]
     refine ex_ret ?_
     exact ⟨.inl rfl, _, ⟨_, rfl⟩, rfl, rfl, rfl⟩
  ·skip
   refine runX_cut 8 fun K1 hK1 => ?_
   simp only [ltb]
   simp only [go_sem,reduceIte,reduceAdd,reduceLT,reduceLeDiff,reduceMul,reduceEqDiff,reduceSub,reduceCtorEq,List.take_length]
   refine hK1 _ ?_
   refine runX_cut 8 fun K1 hK1 => ?_
   simp only [ltb]
   simp only [go_sem,reduceIte,reduceAdd,reduceLT,reduceLeDiff,reduceMul,reduceEqDiff,reduceSub,reduceCtorEq,List.take_length]
   refine hK1 _ ?_
   try simp only [ltb]
   simp only [go_sem,reduceIte,reduceAdd,reduceLT,reduceLeDiff,reduceMul,reduceEqDiff,reduceSub,reduceCtorEq,List.take_length]
   refine hK _ _ (by kernel_rfl) ?_
   simp only [mkW,lkF,reduceAdd,reduceEqDiff,if_true,if_false,reduceIte]
   refine ex_ret ?_
   exact ⟨.inl rfl, _, ⟨_, rfl⟩, rfl, rfl, rfl⟩
theorem misnamed2_tot (hG : Glob.g = some 0) (b0 : Blk) (hb0 : ∀ n, 3 ≤ n → belowB n b0 = true) (fl : ByteArray) (ty kd : Int) (lb : Bool) (hf : fl.size ≤ 1048576) (l : Lb) : ∃ r, isB r ∧ FnOkS Tryz.prog 158 [encLb l, .ptr 2 0] ([b0, .box [str fl, num ty, bl lb, num kd], .box [.clo (.func 157) [] [.ptr 1 0]]]) r ([b0, .box [str fl, num ty, bl lb, num kd], .box [.clo (.func 157) [] [.ptr 1 0]]]) := by
 refine fns_ex tt_ok (fn := Tryz.f158) Tryz.func158 rfl Tryz.call158 (by simp only [List.all_cons,List.all_nil,bB_box,bB_map,bB_rows,bB_frz,bB_dead,bB_hole,belowV,belowL,List.length_cons,List.length_nil,reduceAdd,reduceLT,decide_true,Bool.and_self,Bool.and_true,hb0,reduceLeDiff]) ?_
 simp only [startSt,Tryz.ntmps158,List.length_cons,List.length_nil,reduceAdd,reduceSub,List.replicate_succ,List.replicate_zero,List.cons_append,List.nil_append]
 simp only [encLb,tyCells,List.cons_append,List.nil_append]
 refine ex_region_w tt_ok 18 [0,0,2,2] [] (by kernel_rfl) (by kernel_rfl) fun K hK => ?_
 try simp only [ltb]
 try simp only [ltb]
 simp only [go_sem,reduceIte,reduceAdd,reduceLT,reduceLeDiff,reduceMul,reduceEqDiff,reduceSub,reduceCtorEq,List.take_length]
 refine hK _ _ (by kernel_rfl) ?_
 simp only [mkW,lkF,reduceAdd,reduceEqDiff,if_true,if_false,reduceIte]
 refine ex_region_w tt_ok 18 [0,0,0,2,1,1,1,1,1,1,1,1,1,1,1,1,1,1] [(4, 8), (7, 11)] (by kernel_rfl) (by kernel_rfl) fun K hK => ?_
 try simp only [ltb]
 refine runX_cut 3 fun K1 hK1 => ?_
 simp only [ltb]
 simp only [go_sem,reduceIte,reduceAdd,reduceLT,reduceLeDiff,reduceMul,reduceEqDiff,reduceSub,reduceCtorEq,List.take_length]
 refine callF_ex (isName_tot hG _) ?_
 rintro _ ⟨r1, rfl⟩
 try simp only [go_sem,reduceIte,reduceAdd,reduceLT,reduceLeDiff,reduceMul,reduceEqDiff,reduceSub,reduceCtorEq,List.take_length]
 refine hK1 _ ?_
 refine runX_cut 2 fun K1 hK1 => ?_
 simp only [ltb]
 simp only [go_sem,reduceIte,reduceAdd,reduceLT,reduceLeDiff,reduceMul,reduceEqDiff,reduceSub,reduceCtorEq,List.take_length]
 refine hK1 _ ?_
 refine runX_case 8 (by rfl) fun b hb1_4 => ?_
 cases b
 ·skip
  refine runX_cut 2 fun K1 hK1 => ?_
  simp only [ltb]
  simp only [go_sem,reduceIte,reduceAdd,reduceLT,reduceLeDiff,reduceMul,reduceEqDiff,reduceSub,reduceCtorEq,List.take_length]
  refine callS_ex (has2_tot hG _ (by simp only [List.all_cons,List.all_nil,bB_box,bB_map,bB_rows,bB_frz,bB_dead,bB_hole,belowV,belowL,List.length_cons,List.length_nil,reduceAdd,reduceLT,decide_true,Bool.and_self,Bool.and_true,hb0,reduceLeDiff]) 1 fl ty kd lb rfl _ (by decide) hf) ?_
  rintro _ ⟨r2, rfl⟩
  try simp only [go_sem,reduceIte,reduceAdd,reduceLT,reduceLeDiff,reduceMul,reduceEqDiff,reduceSub,reduceCtorEq,List.take_length]
  refine hK1 _ ?_
  refine runX_cut 1 fun K1 hK1 => ?_
  simp only [ltb]
  simp only [go_sem,reduceIte,reduceAdd,reduceLT,reduceLeDiff,reduceMul,reduceEqDiff,reduceSub,reduceCtorEq,List.take_length]
  refine hK1 _ ?_
  refine runX_case 11 (by rfl) fun b hb1_7 => ?_
  cases b
  ·skip
   try simp only [ltb]
   simp only [go_sem,reduceIte,reduceAdd,reduceLT,reduceLeDiff,reduceMul,reduceEqDiff,reduceSub,reduceCtorEq,List.take_length]
   refine hK _ _ (by kernel_rfl) ?_
   simp only [mkW,lkF,reduceAdd,reduceEqDiff,if_true,if_false,reduceIte]
   refine ex_ret ?_
   exact ⟨.inl rfl, _, ⟨_, rfl⟩, rfl, rfl, rfl⟩
  ·skip
   refine runX_cut 3 fun K1 hK1 => ?_
   simp only [ltb]
   simp only [go_sem,reduceIte,reduceAdd,reduceLT,reduceLeDiff,reduceMul,reduceEqDiff,reduceSub,reduceCtorEq,List.take_length]
   refine callF_ex (isName_tot hG _) ?_
   rintro _ ⟨r3, rfl⟩
   try simp only [go_sem,reduceIte,reduceAdd,reduceLT,reduceLeDiff,reduceMul,reduceEqDiff,reduceSub,reduceCtorEq,List.take_length]
   refine hK1 _ ?_
   try simp only [ltb]
   simp only [go_sem,reduceIte,reduceAdd,reduceLT,reduceLeDiff,reduceMul,reduceEqDiff,reduceSub,reduceCtorEq,List.take_length]
   refine hK _ _ (by kernel_rfl) ?_
   simp only [mkW,lkF,reduceAdd,reduceEqDiff,if_true,if_false,reduceIte]
   refine ex_ret ?_
   exact ⟨.inl rfl, _, ⟨_, rfl⟩, rfl, rfl, rfl⟩
 ·skip
  refine runX_cut 8 fun K1 hK1 => ?_
  simp only [ltb]
  simp only [go_sem,reduceIte,reduceAdd,reduceLT,reduceLeDiff,reduceMul,reduceEqDiff,reduceSub,reduceCtorEq,List.take_length]
  refine hK1 _ ?_
  try simp only [ltb]
  simp only [go_sem,reduceIte,reduceAdd,reduceLT,reduceLeDiff,reduceMul,reduceEqDiff,reduceSub,reduceCtorEq,List.take_length]
  refine hK _ _ (by kernel_rfl) ?_
  simp only [mkW,lkF,reduceAdd,reduceEqDiff,if_true,if_false,reduceIte]
  refine ex_ret ?_
  exact ⟨.inl rfl, _, ⟨_, rfl⟩, rfl, rfl, rfl⟩
end Go.Proofs.YtpjdfcigadnhcaaGreatDoor
end

section
namespace Go.Proofs.YtpjdfcigadnhcaaGreatDoor
open Go.Eng
variable [Glob]
theorem count_nat2 (s : ByteArray) (c : Int) : ∃ r, (∃ k : Nat, r = num k ∧ k ≤ s.size) ∧ NatOk Tryz.prog 217 [str s, .sc (.int .u8 c)] r :=
 ⟨_, ⟨_, rfl, by unfold Lib.countByte; exact Nat.le_trans List.count_le_length (by rw [Array.length_toList]; exact Nat.le_refl _)⟩, natOk_of (P := Tryz.prog) (fn := Tryz.f217) (ext := Extern.BytealgCount.count) Tryz.func217 (by kernel_rfl) rfl (by kernel_rfl) (by kernel_rfl) (l := [.string s, .int .u8 c]) rfl
  fun w => Lib.run_countString (P := Tryz.prog) s c w⟩
end Go.Proofs.YtpjdfcigadnhcaaGreatDoor
end

section
namespace Go.Proofs.YtpjdfcigadnhcaaGreatDoor
open Go.Eng
open Nat (reduceAdd reduceLT reduceLeDiff reduceMul reduceEqDiff reduceSub)
variable [Glob]
set_option maxHeartbeats 4000000
set_option maxRecDepth 100000
attribute [local irreducible] runM stepM valD stepOp stepD callF
theorem size_of_beq {a b : ByteArray} (h : (a.toList == b.toList) = true) : a.size = b.size := by
 have e : a.toList = b.toList := by simpa using h
 rw [ByteArray.toList_eq, ByteArray.toList_eq] at e
 have := congrArg List.length e
 simp only [Array.length_toList] at this
 exact this
theorem index1_tot (hG : Glob.g = some 0) (s : ByteArray) (hs : s.size ≤ 1048576) : ∃ r, (fun v => ∃ o : Int, v = num o ∧ -1 ≤ o ∧ o < s.size) r ∧ FnOk Tryz.prog 199 [str s, str ⟨#[47]⟩] r := by
 refine fn_ex tt_ok (fn := Tryz.f199) Tryz.func199 rfl Tryz.call199 ?_
 simp only [startSt,Tryz.ntmps199,List.length_cons,List.length_nil,reduceAdd,reduceSub,List.replicate_succ,List.replicate_zero,List.cons_append,List.nil_append]
 have hT9 : Tryz.prog.underlying 9 = some .string := by kernel_rfl
 have sl : ∀ (a : ByteArray) (ty : TypeId), liftL Tryz.prog (Builtin.len_ #[9] ty) [.sc (.string a)] = some (num a.size) := fun a ty => ev_slen (P := Tryz.prog) (tt := tt) (T := 9) a hT9 ty
 have hz : (⟨#[47]⟩ : ByteArray).size = 1 := rfl
 have hd0 : decide (((1 : Nat) : Int) = 0) = false := by decide
 have hd1 : decide (((1 : Nat) : Int) = 1) = true := by decide
 have hix := ev_index (P := Tryz.prog) ⟨#[47]⟩ hT9 .i64 0 (by omega) (c := 47) rfl
 refine ex_region_w tt_ok 143 [0,0,0,0,2] [] (by kernel_rfl) (by kernel_rfl) fun K hK => ?_
 try simp only [ltb]
 try simp only [ltb]
 simp only [sl,hz,hd0,hd1,hix,go_sem,reduceIte,reduceAdd,reduceLT,reduceLeDiff,reduceMul,reduceEqDiff,reduceSub,reduceCtorEq,List.take_length]
 refine hK _ _ (by kernel_rfl) ?_
 simp only [mkW,lkF,reduceAdd,reduceEqDiff,if_true,if_false,reduceIte]
 refine ex_region_w tt_ok 143 [0,0,0,0,0,2,0,0,0,0,0,0,0,0,1,1] [] (by kernel_rfl) (by kernel_rfl) fun K hK => ?_
 try simp only [ltb]
 try simp only [ltb]
 simp only [sl,hz,hd0,hd1,hix,go_sem,reduceIte,reduceAdd,reduceLT,reduceLeDiff,reduceMul,reduceEqDiff,reduceSub,reduceCtorEq,List.take_length]
 refine hK _ _ (by kernel_rfl) ?_
 simp only [mkW,lkF,reduceAdd,reduceEqDiff,if_true,if_false,reduceIte]
 refine ex_seq ?_
 refine ex_block ?_
 refine ex_region_w tt_ok 143 [0,0,0,0,0,0,0,0,0,0,0,0,0,0,0,0,2,1,1,1,1,1,1,1] [(2, 19)] (by kernel_rfl) (by kernel_rfl) fun K hK => ?_
 try simp only [ltb]
 refine runX_cut 3 fun K1 hK1 => ?_
 simp only [ltb]
 simp only [sl,hz,hd0,hd1,hix,go_sem,reduceIte,reduceAdd,reduceLT,reduceLeDiff,reduceMul,reduceEqDiff,reduceSub,reduceCtorEq,List.take_length]
 refine hK1 _ ?_
 refine runX_case 19 (by rfl) fun b hb2_2 => ?_
 cases b
 ·skip
  try simp only [ltb]
  simp only [sl,hz,hd0,hd1,hix,go_sem,reduceIte,reduceAdd,reduceLT,reduceLeDiff,reduceMul,reduceEqDiff,reduceSub,reduceCtorEq,List.take_length]
  refine hK _ _ (by kernel_rfl) ?_
  simp only [mkW,lkF,reduceAdd,reduceEqDiff,if_true,if_false,reduceIte]
  refine ex_if rfl (fun hc16 => ?_) (fun hc16 => ?_)
  ·skip
   refine ex_region_w tt_ok 143 [0,0,0,0,2] [] (by kernel_rfl) (by kernel_rfl) fun K hK => ?_
   try simp only [ltb]
   try simp only [ltb]
   simp only [sl,hz,hd0,hd1,hix,go_sem,reduceIte,reduceAdd,reduceLT,reduceLeDiff,reduceMul,reduceEqDiff,reduceSub,reduceCtorEq,List.take_length]
   refine hK _ _ (by kernel_rfl) ?_
   simp only [mkW,lkF,reduceAdd,reduceEqDiff,if_true,if_false,reduceIte]
   refine ex_ret ?_
   first | exact ⟨.inl rfl, _, ⟨o, rfl, hl, hu⟩, rfl⟩ | exact ⟨.inl rfl, _, ⟨0, rfl, by omega, by have := size_of_beq hc16; rw [show (⟨#[47]⟩ : ByteArray).size = 1 from rfl] at this; omega⟩, rfl⟩
  ·skip
   refine ex_region_w tt_ok 143 [0,0,0,0,0,0,0,0,0,0,0,0,0,0,0,0,0,0,0,0,0,0,0,0,2,1,1] [] (by kernel_rfl) (by kernel_rfl) fun K hK => ?_
   try simp only [ltb]
   try simp only [ltb]
   simp only [sl,hz,hd0,hd1,hix,go_sem,reduceIte,reduceAdd,reduceLT,reduceLeDiff,reduceMul,reduceEqDiff,reduceSub,reduceCtorEq,List.take_length]
   refine hK _ _ (by kernel_rfl) ?_
   simp only [mkW,lkF,reduceAdd,reduceEqDiff,if_true,if_false,reduceIte]
   refine ex_if rfl (fun hc24 => ?_) (fun hc24 => ?_)
   ·skip
    refine ex_region_w tt_ok 143 [0,0,0,0,2,0,0,0,0,0,0,0,0,0,0,0,0,0,0,0,0,0,0,0,0,0,0,1,1,1,1] [] (by kernel_rfl) (by kernel_rfl) fun K hK => ?_
    try simp only [ltb]
    refine runX_cut 4 fun K1 hK1 => ?_
    simp only [ltb]
    simp only [sl,hz,hd0,hd1,hix,go_sem,reduceIte,reduceAdd,reduceLT,reduceLeDiff,reduceMul,reduceEqDiff,reduceSub,reduceCtorEq,List.take_length]
    refine callF_ex (indexByte_tot _ _) ?_
    rintro _ ⟨o, rfl, hl, hu⟩
    try simp only [sl,hz,hd0,hd1,hix,go_sem,reduceIte,reduceAdd,reduceLT,reduceLeDiff,reduceMul,reduceEqDiff,reduceSub,reduceCtorEq,List.take_length]
    refine hK1 _ ?_
    try simp only [ltb]
    simp only [sl,hz,hd0,hd1,hix,go_sem,reduceIte,reduceAdd,reduceLT,reduceLeDiff,reduceMul,reduceEqDiff,reduceSub,reduceCtorEq,List.take_length]
    refine hK _ _ (by kernel_rfl) ?_
    simp only [mkW,lkF,reduceAdd,reduceEqDiff,if_true,if_false,reduceIte]
    refine ex_ret ?_
    first | exact ⟨.inl rfl, _, ⟨o, rfl, hl, hu⟩, rfl⟩ | exact ⟨.inl rfl, _, ⟨0, rfl, by omega, by have := size_of_beq hc16; rw [show (⟨#[47]⟩ : ByteArray).size = 1 from rfl] at this; omega⟩, rfl⟩
   ·skip
    cases hc24
 ·skip
  cases hb2_2
theorem sindex1_tot (hG : Glob.g = some 0) (s : ByteArray) (hs : s.size ≤ 1048576) : ∃ r, (fun v => ∃ o : Int, v = num o ∧ -1 ≤ o ∧ o < s.size) r ∧ FnOk Tryz.prog 184 [str s, str ⟨#[47]⟩] r := by
 refine fn_ex tt_ok (fn := Tryz.f184) Tryz.func184 rfl Tryz.call184 ?_
 simp only [startSt,Tryz.ntmps184,List.length_cons,List.length_nil,reduceAdd,reduceSub,List.replicate_succ,List.replicate_zero,List.cons_append,List.nil_append]
 refine ex_region_w tt_ok 8 [0,0,0,0,2] [] (by kernel_rfl) (by kernel_rfl) fun K hK => ?_
 try simp only [ltb]
 try simp only [ltb]
 simp only [go_sem,reduceIte,reduceAdd,reduceLT,reduceLeDiff,reduceMul,reduceEqDiff,reduceSub,reduceCtorEq,List.take_length]
 refine hK _ _ (by kernel_rfl) ?_
 simp only [mkW,lkF,reduceAdd,reduceEqDiff,if_true,if_false,reduceIte]
 refine ex_region_w tt_ok 8 [0,0,0,0,2,1,1,1] [] (by kernel_rfl) (by kernel_rfl) fun K hK => ?_
 try simp only [ltb]
 refine runX_cut 3 fun K1 hK1 => ?_
 simp only [ltb]
 simp only [go_sem,reduceIte,reduceAdd,reduceLT,reduceLeDiff,reduceMul,reduceEqDiff,reduceSub,reduceCtorEq,List.take_length]
 refine callF_ex (index1_tot hG _ hs) ?_
 rintro _ ⟨o, rfl, hl, hu⟩
 try simp only [go_sem,reduceIte,reduceAdd,reduceLT,reduceLeDiff,reduceMul,reduceEqDiff,reduceSub,reduceCtorEq,List.take_length]
 refine hK1 _ ?_
 try simp only [ltb]
 simp only [go_sem,reduceIte,reduceAdd,reduceLT,reduceLeDiff,reduceMul,reduceEqDiff,reduceSub,reduceCtorEq,List.take_length]
 refine hK _ _ (by kernel_rfl) ?_
 simp only [mkW,lkF,reduceAdd,reduceEqDiff,if_true,if_false,reduceIte]
 refine ex_ret ?_
 exact ⟨.inl rfl, _, ⟨o, rfl, hl, hu⟩, rfl⟩
theorem count1_tot (s : ByteArray) : ∃ r, (fun v => ∃ k : Nat, v = num k ∧ k ≤ s.size) r ∧ FnOk Tryz.prog 208 [str s, str ⟨#[47]⟩] r := by
 refine fn_ex tt_ok (fn := Tryz.f208) Tryz.func208 rfl Tryz.call208 ?_
 simp only [startSt,Tryz.ntmps208,List.length_cons,List.length_nil,reduceAdd,reduceSub,List.replicate_succ,List.replicate_zero,List.cons_append,List.nil_append]
 have hT9 : Tryz.prog.underlying 9 = some .string := by kernel_rfl
 have sl : ∀ (a : ByteArray) (ty : TypeId), liftL Tryz.prog (Builtin.len_ #[9] ty) [.sc (.string a)] = some (num a.size) := fun a ty => ev_slen (P := Tryz.prog) (tt := tt) (T := 9) a hT9 ty
 have hz : (⟨#[47]⟩ : ByteArray).size = 1 := rfl
 have hd0 : decide (((1 : Nat) : Int) = 0) = false := by decide
 have hd1 : decide (((1 : Nat) : Int) = 1) = true := by decide
 have hix := ev_index (P := Tryz.prog) ⟨#[47]⟩ hT9 .i64 0 (by omega) (c := 47) rfl
 refine ex_region_w tt_ok 34 [0,0,0,0,2] [] (by kernel_rfl) (by kernel_rfl) fun K hK => ?_
 try simp only [ltb]
 try simp only [ltb]
 simp only [sl,hz,hd0,hd1,hix,go_sem,reduceIte,reduceAdd,reduceLT,reduceLeDiff,reduceMul,reduceEqDiff,reduceSub,reduceCtorEq,List.take_length]
 refine hK _ _ (by kernel_rfl) ?_
 simp only [mkW,lkF,reduceAdd,reduceEqDiff,if_true,if_false,reduceIte]
 refine ex_seq ?_
 refine ex_region_w tt_ok 34 [0,0,0,0,0,0,0,1,1,2] [] (by kernel_rfl) (by kernel_rfl) fun K hK => ?_
 try simp only [ltb]
 try simp only [ltb]
 simp only [sl,hz,hd0,hd1,hix,go_sem,reduceIte,reduceAdd,reduceLT,reduceLeDiff,reduceMul,reduceEqDiff,reduceSub,reduceCtorEq,List.take_length]
 refine hK _ _ (by kernel_rfl) ?_
 simp only [mkW,lkF,reduceAdd,reduceEqDiff,if_true,if_false,reduceIte]
 refine ex_if rfl (fun hc9 => ?_) (fun hc9 => ?_)
 ·skip
  cases hc9
 ·skip
  refine ex_skip ?_
  show Go.Eng.Ex _ _ _ _ _ _
  refine ex_seq ?_
  refine ex_region_w tt_ok 34 [0,0,0,0,0,0,0,0,0,0,0,0,0,1,1,2] [] (by kernel_rfl) (by kernel_rfl) fun K hK => ?_
  try simp only [ltb]
  try simp only [ltb]
  simp only [sl,hz,hd0,hd1,hix,go_sem,reduceIte,reduceAdd,reduceLT,reduceLeDiff,reduceMul,reduceEqDiff,reduceSub,reduceCtorEq,List.take_length]
  refine hK _ _ (by kernel_rfl) ?_
  simp only [mkW,lkF,reduceAdd,reduceEqDiff,if_true,if_false,reduceIte]
  refine ex_if rfl (fun hc15 => ?_) (fun hc15 => ?_)
  ·skip
   refine ex_region_w tt_ok 34 [0,0,0,0,2,0,0,0,0,0,0,0,0,0,0,0,1,1,1,1] [] (by kernel_rfl) (by kernel_rfl) fun K hK => ?_
   try simp only [ltb]
   refine runX_cut 4 fun K1 hK1 => ?_
   simp only [ltb]
   simp only [sl,hz,hd0,hd1,hix,go_sem,reduceIte,reduceAdd,reduceLT,reduceLeDiff,reduceMul,reduceEqDiff,reduceSub,reduceCtorEq,List.take_length]
   refine callF_nat (count_nat2 _ _) ?_
   rintro _ ⟨k, rfl, hk⟩
   try simp only [sl,hz,hd0,hd1,hix,go_sem,reduceIte,reduceAdd,reduceLT,reduceLeDiff,reduceMul,reduceEqDiff,reduceSub,reduceCtorEq,List.take_length]
   refine hK1 _ ?_
   try simp only [ltb]
   simp only [sl,hz,hd0,hd1,hix,go_sem,reduceIte,reduceAdd,reduceLT,reduceLeDiff,reduceMul,reduceEqDiff,reduceSub,reduceCtorEq,List.take_length]
   refine hK _ _ (by kernel_rfl) ?_
   simp only [mkW,lkF,reduceAdd,reduceEqDiff,if_true,if_false,reduceIte]
   refine ex_ret ?_
   exact ⟨.inl rfl, _, ⟨k, rfl, hk⟩, rfl⟩
  ·skip
   cases hc15
end Go.Proofs.YtpjdfcigadnhcaaGreatDoor
end

section
namespace Go.Proofs.YtpjdfcigadnhcaaGreatDoor
open Go.Eng
open Nat (reduceAdd reduceLT reduceLeDiff reduceMul reduceEqDiff reduceSub)
variable [Glob]
set_option maxHeartbeats 4000000
set_option maxRecDepth 100000
attribute [local irreducible] runM stepM valD stepOp stepD callF
theorem hasPrefix_tot (s p : ByteArray) : ∃ r, (fun v => ∃ b : Bool, v = bl b ∧ (b = true → p.size ≤ s.size)) r ∧ FnOk Tryz.prog 218 [str s, str p] r := by
 refine fn_ex tt_ok (fn := Tryz.f218) Tryz.func218 rfl Tryz.call218 ?_
 simp only [startSt,Tryz.ntmps218,List.length_cons,List.length_nil,reduceAdd,reduceSub,List.replicate_succ,List.replicate_zero,List.cons_append,List.nil_append]
 have hT9 : Tryz.prog.underlying 9 = some .string := by kernel_rfl
 have sl : ∀ (a : ByteArray) (ty : TypeId), liftL Tryz.prog (Builtin.len_ #[9] ty) [.sc (.string a)] = some (num a.size) := fun a ty => ev_slen (P := Tryz.prog) (tt := tt) (T := 9) a hT9 ty
 refine ex_region_w tt_ok 18 [0,0,0,0,2] [] (by kernel_rfl) (by kernel_rfl) fun K hK => ?_
 try simp only [ltb]
 try simp only [ltb]
 simp only [sl,go_sem,reduceIte,reduceAdd,reduceLT,reduceLeDiff,reduceMul,reduceEqDiff,reduceSub,reduceCtorEq,List.take_length]
 refine hK _ _ (by kernel_rfl) ?_
 simp only [mkW,lkF,reduceAdd,reduceEqDiff,if_true,if_false,reduceIte]
 refine ex_region_w tt_ok 18 [0,0,0,0,2,1,1,1,1,1,1,1,1,1,1,1,1,1] [(5, 10)] (by kernel_rfl) (by kernel_rfl) fun K hK => ?_
 try simp only [ltb]
 refine runX_cut 6 fun K1 hK1 => ?_
 simp only [ltb]
 simp only [sl,go_sem,reduceIte,reduceAdd,reduceLT,reduceLeDiff,reduceMul,reduceEqDiff,reduceSub,reduceCtorEq,List.take_length]
 refine hK1 _ ?_
 refine runX_case 10 (by rfl) fun b hb1_5 => ?_
 cases b
 ·skip
  try simp only [ltb]
  simp only [sl,go_sem,reduceIte,reduceAdd,reduceLT,reduceLeDiff,reduceMul,reduceEqDiff,reduceSub,reduceCtorEq,List.take_length]
  refine hK _ _ (by kernel_rfl) ?_
  simp only [mkW,lkF,reduceAdd,reduceEqDiff,if_true,if_false,reduceIte]
  refine ex_ret ?_
  first | exact ⟨.inl rfl, _, ⟨_, rfl, fun _ => hps⟩, rfl⟩ | exact ⟨.inl rfl, _, ⟨false, rfl, by intro h; cases h⟩, rfl⟩
 ·skip
  have hps : p.size ≤ s.size := by have := of_decide_eq_true hb1_5; omega
  have hct : lift2 Tryz.prog (fun a h => Instr.sliceAt 9 a none (some h) none) (.sc (.string s)) (.sc (.int .i64 ((p.size : Int)))) = some (.sc (.string (s.extract 0 ((p.size : Int) : Int).toNat))) := ev_cutto (P := Tryz.prog) (tt := tt) (mem := []) (T := 9) s hT9 .i64 ((p.size : Int)) (by omega) (by omega)
  try simp only [ltb]
  simp only [hct,sl,go_sem,reduceIte,reduceAdd,reduceLT,reduceLeDiff,reduceMul,reduceEqDiff,reduceSub,reduceCtorEq,List.take_length]
  refine hK _ _ (by kernel_rfl) ?_
  simp only [mkW,lkF,reduceAdd,reduceEqDiff,if_true,if_false,reduceIte]
  refine ex_ret ?_
  first | exact ⟨.inl rfl, _, ⟨_, rfl, fun _ => hps⟩, rfl⟩ | exact ⟨.inl rfl, _, ⟨false, rfl, by intro h; cases h⟩, rfl⟩
theorem cutPrefix0_tot (s p : ByteArray) : ∃ r, (fun v => ∃ (q : ByteArray) (b : Bool), v = .tup [str q, bl b] ∧ q.size ≤ s.size) r ∧ FnOk Tryz.prog 209 [str s, str p] r := by
 refine fn_ex tt_ok (fn := Tryz.f209) Tryz.func209 rfl Tryz.call209 ?_
 simp only [startSt,Tryz.ntmps209,List.length_cons,List.length_nil,reduceAdd,reduceSub,List.replicate_succ,List.replicate_zero,List.cons_append,List.nil_append]
 have hT9 : Tryz.prog.underlying 9 = some .string := by kernel_rfl
 have sl : ∀ (a : ByteArray) (ty : TypeId), liftL Tryz.prog (Builtin.len_ #[9] ty) [.sc (.string a)] = some (num a.size) := fun a ty => ev_slen (P := Tryz.prog) (tt := tt) (T := 9) a hT9 ty
 refine ex_region_w tt_ok 15 [0,0,0,0,2,2] [] (by kernel_rfl) (by kernel_rfl) fun K hK => ?_
 try simp only [ltb]
 try simp only [ltb]
 simp only [sl,go_sem,reduceIte,reduceAdd,reduceLT,reduceLeDiff,reduceMul,reduceEqDiff,reduceSub,reduceCtorEq,List.take_length]
 refine hK _ _ (by kernel_rfl) ?_
 simp only [mkW,lkF,reduceAdd,reduceEqDiff,if_true,if_false,reduceIte]
 refine ex_seq ?_
 refine ex_region_w tt_ok 15 [0,0,0,0,0,0,1,1,1,2] [] (by kernel_rfl) (by kernel_rfl) fun K hK => ?_
 try simp only [ltb]
 refine runX_cut 3 fun K1 hK1 => ?_
 simp only [ltb]
 simp only [sl,go_sem,reduceIte,reduceAdd,reduceLT,reduceLeDiff,reduceMul,reduceEqDiff,reduceSub,reduceCtorEq,List.take_length]
 refine callF_ex (hasPrefix_tot _ _) ?_
 rintro _ ⟨b, rfl, hb⟩
 try simp only [sl,go_sem,reduceIte,reduceAdd,reduceLT,reduceLeDiff,reduceMul,reduceEqDiff,reduceSub,reduceCtorEq,List.take_length]
 refine hK1 _ ?_
 try simp only [ltb]
 simp only [sl,go_sem,reduceIte,reduceAdd,reduceLT,reduceLeDiff,reduceMul,reduceEqDiff,reduceSub,reduceCtorEq,List.take_length]
 refine hK _ _ (by kernel_rfl) ?_
 simp only [mkW,lkF,reduceAdd,reduceEqDiff,if_true,if_false,reduceIte]
 refine ex_if rfl (fun hc9 => ?_) (fun hc9 => ?_)
 ·skip
  refine ex_region_w tt_ok 15 [0,0,0,0,2,2,0,0,0,0,1] [] (by kernel_rfl) (by kernel_rfl) fun K hK => ?_
  try simp only [ltb]
  try simp only [ltb]
  simp only [sl,go_sem,reduceIte,reduceAdd,reduceLT,reduceLeDiff,reduceMul,reduceEqDiff,reduceSub,reduceCtorEq,List.take_length]
  refine hK _ _ (by kernel_rfl) ?_
  simp only [mkW,lkF,reduceAdd,reduceEqDiff,if_true,if_false,reduceIte]
  refine ex_ret ?_
  first | exact ⟨.inl rfl, _, ⟨s, false, rfl, Nat.le_refl _⟩, rfl⟩ | exact ⟨.inl rfl, _, ⟨_, _, rfl, by have := size_ext (s := s) (a := p.size) (b := s.size); omega⟩, rfl⟩
 ·skip
  have hps : p.size ≤ s.size := hb (by simpa using hc9)
  have hcf : lift2 Tryz.prog (fun a l => Instr.sliceAt 9 a (some l) none none) (.sc (.string s)) (.sc (.int .i64 ((p.size : Int)))) = some (.sc (.string (s.extract ((p.size : Int) : Int).toNat s.size))) := ev_cutfrom (P := Tryz.prog) (tt := tt) (mem := []) (T := 9) s hT9 .i64 ((p.size : Int)) (by omega) (by omega)
  refine ex_skip ?_
  show Go.Eng.Ex _ _ _ _ _ _
  refine ex_region_w tt_ok 15 [0,0,0,0,2,2,0,0,0,0,0,1,1,1,1] [] (by kernel_rfl) (by kernel_rfl) fun K hK => ?_
  try simp only [ltb]
  try simp only [ltb]
  simp only [hcf,sl,go_sem,reduceIte,reduceAdd,reduceLT,reduceLeDiff,reduceMul,reduceEqDiff,reduceSub,reduceCtorEq,List.take_length]
  refine hK _ _ (by kernel_rfl) ?_
  simp only [mkW,lkF,reduceAdd,reduceEqDiff,if_true,if_false,reduceIte]
  refine ex_ret ?_
  first | exact ⟨.inl rfl, _, ⟨s, false, rfl, Nat.le_refl _⟩, rfl⟩ | exact ⟨.inl rfl, _, ⟨_, _, rfl, by have := size_ext (s := s) (a := p.size) (b := s.size); omega⟩, rfl⟩
theorem cutPrefix_tot (s p : ByteArray) : ∃ r, (fun v => ∃ (q : ByteArray) (b : Bool), v = .tup [str q, bl b] ∧ q.size ≤ s.size) r ∧ FnOk Tryz.prog 201 [str s, str p] r := by
 refine fn_ex tt_ok (fn := Tryz.f201) Tryz.func201 rfl Tryz.call201 ?_
 simp only [startSt,Tryz.ntmps201,List.length_cons,List.length_nil,reduceAdd,reduceSub,List.replicate_succ,List.replicate_zero,List.cons_append,List.nil_append]
 refine ex_region_w tt_ok 11 [0,0,0,0,2,2] [] (by kernel_rfl) (by kernel_rfl) fun K hK => ?_
 try simp only [ltb]
 try simp only [ltb]
 simp only [go_sem,reduceIte,reduceAdd,reduceLT,reduceLeDiff,reduceMul,reduceEqDiff,reduceSub,reduceCtorEq,List.take_length]
 refine hK _ _ (by kernel_rfl) ?_
 simp only [mkW,lkF,reduceAdd,reduceEqDiff,if_true,if_false,reduceIte]
 refine ex_region_w tt_ok 11 [0,0,0,0,2,2,1,1,1,1,1] [] (by kernel_rfl) (by kernel_rfl) fun K hK => ?_
 try simp only [ltb]
 refine runX_cut 3 fun K1 hK1 => ?_
 simp only [ltb]
 simp only [go_sem,reduceIte,reduceAdd,reduceLT,reduceLeDiff,reduceMul,reduceEqDiff,reduceSub,reduceCtorEq,List.take_length]
 refine callF_ex (cutPrefix0_tot _ _) ?_
 rintro _ ⟨q, b, rfl, hq⟩
 try simp only [go_sem,reduceIte,reduceAdd,reduceLT,reduceLeDiff,reduceMul,reduceEqDiff,reduceSub,reduceCtorEq,List.take_length]
 refine hK1 _ ?_
 try simp only [ltb]
 simp only [go_sem,reduceIte,reduceAdd,reduceLT,reduceLeDiff,reduceMul,reduceEqDiff,reduceSub,reduceCtorEq,List.take_length]
 refine hK _ _ (by kernel_rfl) ?_
 simp only [mkW,lkF,reduceAdd,reduceEqDiff,if_true,if_false,reduceIte]
 refine ex_ret ?_
 exact ⟨.inl rfl, _, ⟨q, b, rfl, hq⟩, rfl⟩
theorem version_tot (s : ByteArray) (hs : s.size ≤ 1048576) : ∃ r, (fun v => ∃ (n : Int) (b : Bool), v = .tup [num n, bl b]) r ∧ FnOk Tryz.prog 188 [str s] r := by
 refine fn_ex tt_ok (fn := Tryz.f188) Tryz.func188 rfl Tryz.call188 ?_
 simp only [startSt,Tryz.ntmps188,List.length_cons,List.length_nil,reduceAdd,reduceSub,List.replicate_succ,List.replicate_zero,List.cons_append,List.nil_append]
 have hT9 : Tryz.prog.underlying 9 = some .string := by kernel_rfl
 have sl : ∀ (a : ByteArray) (ty : TypeId), liftL Tryz.prog (Builtin.len_ #[9] ty) [.sc (.string a)] = some (num a.size) := fun a ty => ev_slen (P := Tryz.prog) (tt := tt) (T := 9) a hT9 ty
 have hT5 : Tryz.prog.underlying 5 = some (.int .u8) := by kernel_rfl
 have hT3 : Tryz.prog.underlying 3 = some (.int .i64) := by kernel_rfl
 have cv := fun (k : IntKind) (n : Int) => ev_conv (P := Tryz.prog) (src := 5) (dst := 3) hT5 hT3 k n
 refine ex_region_w tt_ok 53 [0,0,2,2] [] (by kernel_rfl) (by kernel_rfl) fun K hK => ?_
 try simp only [ltb]
 try simp only [ltb]
 simp only [sl,cv,go_sem,reduceIte,reduceAdd,reduceLT,reduceLeDiff,reduceMul,reduceEqDiff,reduceSub,reduceCtorEq,List.take_length]
 refine hK _ _ (by kernel_rfl) ?_
 simp only [mkW,lkF,reduceAdd,reduceEqDiff,if_true,if_false,reduceIte]
 refine ex_region_w tt_ok 53 [2,0,0,0,2,0,0,1,1,1,1,1] [] (by kernel_rfl) (by kernel_rfl) fun K hK => ?_
 try simp only [ltb]
 refine runX_cut 2 fun K1 hK1 => ?_
 simp only [ltb]
 simp only [sl,cv,go_sem,reduceIte,reduceAdd,reduceLT,reduceLeDiff,reduceMul,reduceEqDiff,reduceSub,reduceCtorEq,List.take_length]
 refine callF_ex (cutPrefix_tot _ _) ?_
 rintro _ ⟨q, b0, rfl, hq⟩
 try simp only [sl,cv,go_sem,reduceIte,reduceAdd,reduceLT,reduceLeDiff,reduceMul,reduceEqDiff,reduceSub,reduceCtorEq,List.take_length]
 refine hK1 _ ?_
 try simp only [ltb]
 simp only [sl,cv,go_sem,reduceIte,reduceAdd,reduceLT,reduceLeDiff,reduceMul,reduceEqDiff,reduceSub,reduceCtorEq,List.take_length]
 refine hK _ _ (by kernel_rfl) ?_
 simp only [mkW,lkF,reduceAdd,reduceEqDiff,if_true,if_false,reduceIte]
 refine ex_seq ?_
 refine ex_region_w tt_ok 53 [0,0,0,0,0,0,0,0,0,0,0,0,1,1,1,1,1,1,1,1,1,1,1,1,1,1,1,1,1,1,1,1,1,1,1,1,1,2] [(2, 14), (6, 18), (11, 23), (15, 27), (21, 33)] (by kernel_rfl) (by kernel_rfl) fun K hK => ?_
 try simp only [ltb]
 refine runX_cut 3 fun K1 hK1 => ?_
 simp only [ltb]
 simp only [sl,cv,go_sem,reduceIte,reduceAdd,reduceLT,reduceLeDiff,reduceMul,reduceEqDiff,reduceSub,reduceCtorEq,List.take_length]
 refine hK1 _ ?_
 refine runX_case 14 (by rfl) fun b hb2_2 => ?_
 cases b
 ·skip
  refine runX_cut 4 fun K1 hK1 => ?_
  simp only [ltb]
  simp only [sl,cv,go_sem,reduceIte,reduceAdd,reduceLT,reduceLeDiff,reduceMul,reduceEqDiff,reduceSub,reduceCtorEq,List.take_length]
  refine hK1 _ ?_
  refine runX_case 18 (by rfl) fun b hb2_6 => ?_
  cases b
  ·skip
   refine runX_cut 5 fun K1 hK1 => ?_
   simp only [ltb]
   simp only [sl,cv,go_sem,reduceIte,reduceAdd,reduceLT,reduceLeDiff,reduceMul,reduceEqDiff,reduceSub,reduceCtorEq,List.take_length]
   refine hK1 _ ?_
   refine runX_case 23 (by rfl) fun b hb2_11 => ?_
   cases b
   ·skip
    refine runX_cut 4 fun K1 hK1 => ?_
    simp only [ltb]
    simp only [sl,cv,go_sem,reduceIte,reduceAdd,reduceLT,reduceLeDiff,reduceMul,reduceEqDiff,reduceSub,reduceCtorEq,List.take_length]
    refine hK1 _ ?_
    refine runX_case 27 (by rfl) fun b hb2_15 => ?_
    cases b
    ·skip
     refine runX_cut 8 fun K1 hK1 => ?_
     simp only [ltb]
     simp only [sl,cv,go_sem,reduceIte,reduceAdd,reduceLT,reduceLeDiff,reduceMul,reduceEqDiff,reduceSub,reduceCtorEq,List.take_length]
     refine callF_ex (all_tot 169 digit_tot _ (by omega)) ?_
     rintro _ ⟨r2, rfl⟩
     try simp only [sl,cv,go_sem,reduceIte,reduceAdd,reduceLT,reduceLeDiff,reduceMul,reduceEqDiff,reduceSub,reduceCtorEq,List.take_length]
     refine hK1 _ ?_
     try simp only [ltb]
     simp only [sl,cv,go_sem,reduceIte,reduceAdd,reduceLT,reduceLeDiff,reduceMul,reduceEqDiff,reduceSub,reduceCtorEq,List.take_length]
     refine hK _ _ (by kernel_rfl) ?_
     simp only [mkW,lkF,reduceAdd,reduceEqDiff,if_true,if_false,reduceIte]
     refine ex_if rfl (fun hc37 => ?_) (fun hc37 => ?_)
     ·skip
      refine ex_region_w tt_ok 53 [0,0,2,2] [] (by kernel_rfl) (by kernel_rfl) fun K hK => ?_
      try simp only [ltb]
      try simp only [ltb]
      simp only [sl,cv,go_sem,reduceIte,reduceAdd,reduceLT,reduceLeDiff,reduceMul,reduceEqDiff,reduceSub,reduceCtorEq,List.take_length]
      refine hK _ _ (by kernel_rfl) ?_
      simp only [mkW,lkF,reduceAdd,reduceEqDiff,if_true,if_false,reduceIte]
      refine ex_ret ?_
      exact ⟨.inl rfl, _, ⟨_, _, rfl⟩, rfl⟩
     ·skip
      refine ex_skip ?_
      show Go.Eng.Ex _ _ _ _ _ _
      refine ex_region_w tt_ok 53 [0,0,0,0,0,2] [] (by kernel_rfl) (by kernel_rfl) fun K hK => ?_
      try simp only [ltb]
      try simp only [ltb]
      simp only [sl,cv,go_sem,reduceIte,reduceAdd,reduceLT,reduceLeDiff,reduceMul,reduceEqDiff,reduceSub,reduceCtorEq,List.take_length]
      refine hK _ _ (by kernel_rfl) ?_
      simp only [mkW,lkF,reduceAdd,reduceEqDiff,if_true,if_false,reduceIte]
      refine ex_seq ?_
      refine ex_region_w tt_ok 53 [0,0,0,0,0,0,0,0,0,0,0,0,0,0,0,0,0,0,0,0,0,0,0,0,0,0,0,0,0,0,0,0,0,0,0,0,0,0,1,2,2] [] (by kernel_rfl) (by kernel_rfl) fun K hK => ?_
      try simp only [ltb]
      try simp only [ltb]
      simp only [sl,cv,go_sem,reduceIte,reduceAdd,reduceLT,reduceLeDiff,reduceMul,reduceEqDiff,reduceSub,reduceCtorEq,List.take_length]
      refine hK _ _ (by kernel_rfl) ?_
      simp only [mkW,lkF,reduceAdd,reduceEqDiff,if_true,if_false,reduceIte]
      refine ex_block ?_
      refine ex_loopK [40,5] [num 0, num 0] 0 [true,false,true,true,false,true,false,false,false,false,false,false,false,false,false,false,false,false,false,false,false,false,false,false,false,false,false,false,false,false,false,false,false,false,false,false,false,true,false,true,true] (fun vs => ((q.size : Int) - intOf (vs.headD .undef)).toNat) (fun vs => ∃ (i : Nat) (h : Int), vs = [num i, num h]) (by omega) (by simp only [maskFr,belowV,belowL,belowB,reduceLT,mkb]) (by simp only [maskFr,belowV,belowL,belowB,reduceLT,mkb]) (by rfl) (⟨0, 0, rfl⟩) fun vs hI => ?_
      obtain ⟨i, h, rfl⟩ := hI
      simp only [maskFr,belowV,belowL,belowB,reduceLT,mkb,putAll,List.set_cons_zero,List.set_cons_succ]
      refine ex_region_w tt_ok 53 [0,0,0,0,0,0,0,0,0,0,0,0,0,0,0,0,0,0,0,0,0,0,0,0,0,0,0,0,0,0,0,0,0,0,0,0,0,0,0,0,0,2] [] (by kernel_rfl) (by kernel_rfl) fun K hK => ?_
      try simp only [ltb]
      try simp only [ltb]
      simp only [sl,cv,go_sem,reduceIte,reduceAdd,reduceLT,reduceLeDiff,reduceMul,reduceEqDiff,reduceSub,reduceCtorEq,List.take_length]
      refine hK _ _ (by kernel_rfl) ?_
      simp only [mkW,lkF,reduceAdd,reduceEqDiff,if_true,if_false,reduceIte]
      refine ex_seq ?_
      refine ex_if rfl (fun hc41 => ?_) (fun hc41 => ?_)
      ·skip
       have hlt : i < q.size := by simpa using hc41
       have hw := i64_succ i (by omega)
       obtain ⟨c, hcb⟩ := get_byte (s := q) (i := i) hlt
       have hix := ev_index (P := Tryz.prog) q hT9 .i64 (i : Int) (by omega) (c := c) (show q[((i : Nat) : Int).toNat]? = some c from hcb)
       refine ex_skip ?_
       show Go.Eng.Ex _ _ _ _ _ _
       refine ex_seq ?_
       refine ex_block ?_
       refine ex_region_w tt_ok 53 [0,0,0,0,0,0,2,0,0,0,0,0,0,0,0,0,0,0,0,0,0,0,0,0,0,0,0,0,0,0,0,0,0,0,0,0,0,0,0,0,0,0,1] [] (by kernel_rfl) (by kernel_rfl) fun K hK => ?_
       try simp only [ltb]
       try simp only [ltb]
       simp only [hw,hix,sl,cv,go_sem,reduceIte,reduceAdd,reduceLT,reduceLeDiff,reduceMul,reduceEqDiff,reduceSub,reduceCtorEq,List.take_length]
       refine hK _ _ (by kernel_rfl) ?_
       simp only [mkW,lkF,reduceAdd,reduceEqDiff,if_true,if_false,reduceIte]
       refine ex_last_region_w tt_ok 53 [0,0,0,0,0,2,0,0,0,0,0,0,0,0,0,0,0,0,0,0,0,0,0,0,0,0,0,0,0,0,0,0,0,0,0,0,0,0,0,0,0,0,0,2,2,2,2,2,2,2,2] [] (by kernel_rfl) (by kernel_rfl) (by kernel_rfl) fun K hK => ?_
       try simp only [ltb]
       refine runX_cut 8 fun K1 hK1 => ?_
       simp only [ltb]
       simp only [hw,hix,sl,cv,go_sem,reduceIte,reduceAdd,reduceLT,reduceLeDiff,reduceMul,reduceEqDiff,reduceSub,reduceCtorEq,List.take_length]
       refine hK1 _ ?_
       try simp only [ltb]
       simp only [hw,hix,sl,cv,go_sem,reduceIte,reduceAdd,reduceLT,reduceLeDiff,reduceMul,reduceEqDiff,reduceSub,reduceCtorEq,List.take_length]
       refine hK _ _ (by kernel_rfl) ?_
       simp only [mkW,lkF,reduceAdd,reduceEqDiff,if_true,if_false,reduceIte]
       show Go.Eng.Ex _ _ _ _ _ _
       refine ex_last_region_w tt_ok 53 [0,0,0,0,0,0,0,0,0,0,0,0,0,0,0,0,0,0,0,0,0,0,0,0,0,0,0,0,0,0,0,0,0,0,0,0,0,0,0,0,2,0,0,0,0,0,0,0,0,0,0,2] [] (by kernel_rfl) (by kernel_rfl) (by kernel_rfl) fun K hK => ?_
       try simp only [ltb]
       try simp only [ltb]
       simp only [hw,hix,sl,cv,go_sem,reduceIte,reduceAdd,reduceLT,reduceLeDiff,reduceMul,reduceEqDiff,reduceSub,reduceCtorEq,List.take_length]
       refine hK _ _ (by kernel_rfl) ?_
       simp only [mkW,lkF,reduceAdd,reduceEqDiff,if_true,if_false,reduceIte]
       refine ⟨[_, _], ?_, ?_, 0, [true,false,true,true,false,true,false,false,false,false,false,false,false,false,false,false,false,false,false,false,false,false,false,false,false,false,false,false,false,false,false,false,false,false,false,false,false,true,false,true,true], by omega, by simp only [maskFr,belowV,belowL,belowB,reduceLT,mkb], by simp only [maskFr,belowV,belowL,belowB,reduceLT,mkb], by simp only [maskFr,belowV,belowL,belowB,reduceLT,mkb,putAll,List.set_cons_zero,List.set_cons_succ]; rfl⟩
       ·exact ⟨i + 1, _, rfl⟩
       ·simp only [intOf,List.headD_cons]; omega
      ·skip
       refine ex_exit ?_
       show Go.Eng.Ex _ _ _ _ _ _
       refine ex_region_w tt_ok 53 [0,0,2,2,0,0,0,0,0,0,0,0,0,0,0,0,0,0,0,0,0,0,0,0,0,0,0,0,0,0,0,0,0,0,0,0,0,0,0,0,0,0,0,0,0,0,0,0,0,0,0,0,1] [] (by kernel_rfl) (by kernel_rfl) fun K hK => ?_
       try simp only [ltb]
       try simp only [ltb]
       simp only [sl,cv,go_sem,reduceIte,reduceAdd,reduceLT,reduceLeDiff,reduceMul,reduceEqDiff,reduceSub,reduceCtorEq,List.take_length]
       refine hK _ _ (by kernel_rfl) ?_
       simp only [mkW,lkF,reduceAdd,reduceEqDiff,if_true,if_false,reduceIte]
       refine ex_ret ?_
       exact ⟨.inl rfl, _, ⟨_, _, rfl⟩, rfl⟩
    ·skip
     refine runX_cut 1 fun K1 hK1 => ?_
     simp only [ltb]
     simp only [sl,cv,go_sem,reduceIte,reduceAdd,reduceLT,reduceLeDiff,reduceMul,reduceEqDiff,reduceSub,reduceCtorEq,List.take_length]
     refine hK1 _ ?_
     obtain ⟨cq, hcq⟩ := ne_get (s := q) (e := ⟨#[]⟩) rfl (by rw [hb2_6]; rfl)
     have hixq := ev_index (P := Tryz.prog) q hT9 .i64 0 (by omega) (c := cq) hcq
     refine runX_cut 5 fun K1 hK1 => ?_
     simp only [ltb]
     simp only [hixq,sl,cv,go_sem,reduceIte,reduceAdd,reduceLT,reduceLeDiff,reduceMul,reduceEqDiff,reduceSub,reduceCtorEq,List.take_length]
     refine hK1 _ ?_
     refine runX_case 33 (by rfl) fun b hb2_21 => ?_
     cases b
     ·skip
      refine runX_cut 2 fun K1 hK1 => ?_
      simp only [ltb]
      simp only [hixq,sl,cv,go_sem,reduceIte,reduceAdd,reduceLT,reduceLeDiff,reduceMul,reduceEqDiff,reduceSub,reduceCtorEq,List.take_length]
      refine callF_ex (all_tot 169 digit_tot _ (by omega)) ?_
      rintro _ ⟨r3, rfl⟩
      try simp only [hixq,sl,cv,go_sem,reduceIte,reduceAdd,reduceLT,reduceLeDiff,reduceMul,reduceEqDiff,reduceSub,reduceCtorEq,List.take_length]
      refine hK1 _ ?_
      try simp only [ltb]
      simp only [hixq,sl,cv,go_sem,reduceIte,reduceAdd,reduceLT,reduceLeDiff,reduceMul,reduceEqDiff,reduceSub,reduceCtorEq,List.take_length]
      refine hK _ _ (by kernel_rfl) ?_
      simp only [mkW,lkF,reduceAdd,reduceEqDiff,if_true,if_false,reduceIte]
      refine ex_if rfl (fun hc37 => ?_) (fun hc37 => ?_)
      ·skip
       refine ex_region_w tt_ok 53 [0,0,2,2] [] (by kernel_rfl) (by kernel_rfl) fun K hK => ?_
       try simp only [ltb]
       try simp only [ltb]
       simp only [hixq,sl,cv,go_sem,reduceIte,reduceAdd,reduceLT,reduceLeDiff,reduceMul,reduceEqDiff,reduceSub,reduceCtorEq,List.take_length]
       refine hK _ _ (by kernel_rfl) ?_
       simp only [mkW,lkF,reduceAdd,reduceEqDiff,if_true,if_false,reduceIte]
       refine ex_ret ?_
       exact ⟨.inl rfl, _, ⟨_, _, rfl⟩, rfl⟩
      ·skip
       refine ex_skip ?_
       show Go.Eng.Ex _ _ _ _ _ _
       refine ex_region_w tt_ok 53 [0,0,0,0,0,2] [] (by kernel_rfl) (by kernel_rfl) fun K hK => ?_
       try simp only [ltb]
       try simp only [ltb]
       simp only [hixq,sl,cv,go_sem,reduceIte,reduceAdd,reduceLT,reduceLeDiff,reduceMul,reduceEqDiff,reduceSub,reduceCtorEq,List.take_length]
       refine hK _ _ (by kernel_rfl) ?_
       simp only [mkW,lkF,reduceAdd,reduceEqDiff,if_true,if_false,reduceIte]
       refine ex_seq ?_
       refine ex_region_w tt_ok 53 [0,0,0,0,0,0,0,0,0,0,0,0,0,0,0,0,0,0,0,0,0,0,0,0,0,0,0,0,0,0,0,0,0,0,0,0,0,0,1,2,2] [] (by kernel_rfl) (by kernel_rfl) fun K hK => ?_
       try simp only [ltb]
       try simp only [ltb]
       simp only [hixq,sl,cv,go_sem,reduceIte,reduceAdd,reduceLT,reduceLeDiff,reduceMul,reduceEqDiff,reduceSub,reduceCtorEq,List.take_length]
       refine hK _ _ (by kernel_rfl) ?_
       simp only [mkW,lkF,reduceAdd,reduceEqDiff,if_true,if_false,reduceIte]
       refine ex_block ?_
       refine ex_loopK [40,5] [num 0, num 0] 0 [true,false,true,true,false,true,false,false,false,false,false,false,false,false,false,false,false,false,false,false,false,false,false,false,false,false,false,false,false,false,false,false,false,false,false,false,false,true,false,true,true] (fun vs => ((q.size : Int) - intOf (vs.headD .undef)).toNat) (fun vs => ∃ (i : Nat) (h : Int), vs = [num i, num h]) (by omega) (by simp only [maskFr,belowV,belowL,belowB,reduceLT,mkb]) (by simp only [maskFr,belowV,belowL,belowB,reduceLT,mkb]) (by rfl) (⟨0, 0, rfl⟩) fun vs hI => ?_
       obtain ⟨i, h, rfl⟩ := hI
       simp only [maskFr,belowV,belowL,belowB,reduceLT,mkb,putAll,List.set_cons_zero,List.set_cons_succ]
       refine ex_region_w tt_ok 53 [0,0,0,0,0,0,0,0,0,0,0,0,0,0,0,0,0,0,0,0,0,0,0,0,0,0,0,0,0,0,0,0,0,0,0,0,0,0,0,0,0,2] [] (by kernel_rfl) (by kernel_rfl) fun K hK => ?_
       try simp only [ltb]
       try simp only [ltb]
       simp only [hixq,sl,cv,go_sem,reduceIte,reduceAdd,reduceLT,reduceLeDiff,reduceMul,reduceEqDiff,reduceSub,reduceCtorEq,List.take_length]
       refine hK _ _ (by kernel_rfl) ?_
       simp only [mkW,lkF,reduceAdd,reduceEqDiff,if_true,if_false,reduceIte]
       refine ex_seq ?_
       refine ex_if rfl (fun hc41 => ?_) (fun hc41 => ?_)
       ·skip
        have hlt : i < q.size := by simpa using hc41
        have hw := i64_succ i (by omega)
        obtain ⟨c, hcb⟩ := get_byte (s := q) (i := i) hlt
        have hix := ev_index (P := Tryz.prog) q hT9 .i64 (i : Int) (by omega) (c := c) (show q[((i : Nat) : Int).toNat]? = some c from hcb)
        refine ex_skip ?_
        show Go.Eng.Ex _ _ _ _ _ _
        refine ex_seq ?_
        refine ex_block ?_
        refine ex_region_w tt_ok 53 [0,0,0,0,0,0,2,0,0,0,0,0,0,0,0,0,0,0,0,0,0,0,0,0,0,0,0,0,0,0,0,0,0,0,0,0,0,0,0,0,0,0,1] [] (by kernel_rfl) (by kernel_rfl) fun K hK => ?_
        try simp only [ltb]
        try simp only [ltb]
        simp only [hixq,hw,hix,sl,cv,go_sem,reduceIte,reduceAdd,reduceLT,reduceLeDiff,reduceMul,reduceEqDiff,reduceSub,reduceCtorEq,List.take_length]
        refine hK _ _ (by kernel_rfl) ?_
        simp only [mkW,lkF,reduceAdd,reduceEqDiff,if_true,if_false,reduceIte]
        refine ex_last_region_w tt_ok 53 [0,0,0,0,0,2,0,0,0,0,0,0,0,0,0,0,0,0,0,0,0,0,0,0,0,0,0,0,0,0,0,0,0,0,0,0,0,0,0,0,0,0,0,2,2,2,2,2,2,2,2] [] (by kernel_rfl) (by kernel_rfl) (by kernel_rfl) fun K hK => ?_
        try simp only [ltb]
        refine runX_cut 8 fun K1 hK1 => ?_
        simp only [ltb]
        simp only [hixq,hw,hix,sl,cv,go_sem,reduceIte,reduceAdd,reduceLT,reduceLeDiff,reduceMul,reduceEqDiff,reduceSub,reduceCtorEq,List.take_length]
        refine hK1 _ ?_
        try simp only [ltb]
        simp only [hixq,hw,hix,sl,cv,go_sem,reduceIte,reduceAdd,reduceLT,reduceLeDiff,reduceMul,reduceEqDiff,reduceSub,reduceCtorEq,List.take_length]
        refine hK _ _ (by kernel_rfl) ?_
        simp only [mkW,lkF,reduceAdd,reduceEqDiff,if_true,if_false,reduceIte]
        show Go.Eng.Ex _ _ _ _ _ _
        refine ex_last_region_w tt_ok 53 [0,0,0,0,0,0,0,0,0,0,0,0,0,0,0,0,0,0,0,0,0,0,0,0,0,0,0,0,0,0,0,0,0,0,0,0,0,0,0,0,2,0,0,0,0,0,0,0,0,0,0,2] [] (by kernel_rfl) (by kernel_rfl) (by kernel_rfl) fun K hK => ?_
        try simp only [ltb]
        try simp only [ltb]
        simp only [hixq,hw,hix,sl,cv,go_sem,reduceIte,reduceAdd,reduceLT,reduceLeDiff,reduceMul,reduceEqDiff,reduceSub,reduceCtorEq,List.take_length]
        refine hK _ _ (by kernel_rfl) ?_
        simp only [mkW,lkF,reduceAdd,reduceEqDiff,if_true,if_false,reduceIte]
        refine ⟨[_, _], ?_, ?_, 0, [true,false,true,true,false,true,false,false,false,false,false,false,false,false,false,false,false,false,false,false,false,false,false,false,false,false,false,false,false,false,false,false,false,false,false,false,false,true,false,true,true], by omega, by simp only [maskFr,belowV,belowL,belowB,reduceLT,mkb], by simp only [maskFr,belowV,belowL,belowB,reduceLT,mkb], by simp only [maskFr,belowV,belowL,belowB,reduceLT,mkb,putAll,List.set_cons_zero,List.set_cons_succ]; rfl⟩
        ·exact ⟨i + 1, _, rfl⟩
        ·simp only [intOf,List.headD_cons]; omega
       ·skip
        refine ex_exit ?_
        show Go.Eng.Ex _ _ _ _ _ _
        refine ex_region_w tt_ok 53 [0,0,2,2,0,0,0,0,0,0,0,0,0,0,0,0,0,0,0,0,0,0,0,0,0,0,0,0,0,0,0,0,0,0,0,0,0,0,0,0,0,0,0,0,0,0,0,0,0,0,0,0,1] [] (by kernel_rfl) (by kernel_rfl) fun K hK => ?_
        try simp only [ltb]
        try simp only [ltb]
        simp only [hixq,sl,cv,go_sem,reduceIte,reduceAdd,reduceLT,reduceLeDiff,reduceMul,reduceEqDiff,reduceSub,reduceCtorEq,List.take_length]
        refine hK _ _ (by kernel_rfl) ?_
        simp only [mkW,lkF,reduceAdd,reduceEqDiff,if_true,if_false,reduceIte]
        refine ex_ret ?_
        exact ⟨.inl rfl, _, ⟨_, _, rfl⟩, rfl⟩
     ·skip
      try simp only [ltb]
      simp only [hixq,sl,cv,go_sem,reduceIte,reduceAdd,reduceLT,reduceLeDiff,reduceMul,reduceEqDiff,reduceSub,reduceCtorEq,List.take_length]
      refine hK _ _ (by kernel_rfl) ?_
      simp only [mkW,lkF,reduceAdd,reduceEqDiff,if_true,if_false,reduceIte]
      refine ex_cond rfl ?_
      refine ex_region_w tt_ok 53 [0,0,2,2] [] (by kernel_rfl) (by kernel_rfl) fun K hK => ?_
      try simp only [ltb]
      try simp only [ltb]
      simp only [hixq,sl,cv,go_sem,reduceIte,reduceAdd,reduceLT,reduceLeDiff,reduceMul,reduceEqDiff,reduceSub,reduceCtorEq,List.take_length]
      refine hK _ _ (by kernel_rfl) ?_
      simp only [mkW,lkF,reduceAdd,reduceEqDiff,if_true,if_false,reduceIte]
      refine ex_ret ?_
      exact ⟨.inl rfl, _, ⟨_, _, rfl⟩, rfl⟩
   ·skip
    refine runX_cut 8 fun K1 hK1 => ?_
    simp only [ltb]
    simp only [sl,cv,go_sem,reduceIte,reduceAdd,reduceLT,reduceLeDiff,reduceMul,reduceEqDiff,reduceSub,reduceCtorEq,List.take_length]
    refine hK1 _ ?_
    try simp only [ltb]
    simp only [sl,cv,go_sem,reduceIte,reduceAdd,reduceLT,reduceLeDiff,reduceMul,reduceEqDiff,reduceSub,reduceCtorEq,List.take_length]
    refine hK _ _ (by kernel_rfl) ?_
    simp only [mkW,lkF,reduceAdd,reduceEqDiff,if_true,if_false,reduceIte]
    refine ex_cond rfl ?_
    refine ex_region_w tt_ok 53 [0,0,2,2] [] (by kernel_rfl) (by kernel_rfl) fun K hK => ?_
    try simp only [ltb]
    try simp only [ltb]
    simp only [sl,cv,go_sem,reduceIte,reduceAdd,reduceLT,reduceLeDiff,reduceMul,reduceEqDiff,reduceSub,reduceCtorEq,List.take_length]
    refine hK _ _ (by kernel_rfl) ?_
    simp only [mkW,lkF,reduceAdd,reduceEqDiff,if_true,if_false,reduceIte]
    refine ex_ret ?_
    exact ⟨.inl rfl, _, ⟨_, _, rfl⟩, rfl⟩
  ·skip
   refine runX_cut 8 fun K1 hK1 => ?_
   simp only [ltb]
   simp only [sl,cv,go_sem,reduceIte,reduceAdd,reduceLT,reduceLeDiff,reduceMul,reduceEqDiff,reduceSub,reduceCtorEq,List.take_length]
   refine hK1 _ ?_
   refine runX_cut 8 fun K1 hK1 => ?_
   simp only [ltb]
   simp only [sl,cv,go_sem,reduceIte,reduceAdd,reduceLT,reduceLeDiff,reduceMul,reduceEqDiff,reduceSub,reduceCtorEq,List.take_length]
   refine hK1 _ ?_
   try simp only [ltb]
   simp only [sl,cv,go_sem,reduceIte,reduceAdd,reduceLT,reduceLeDiff,reduceMul,reduceEqDiff,reduceSub,reduceCtorEq,List.take_length]
   refine hK _ _ (by kernel_rfl) ?_
   simp only [mkW,lkF,reduceAdd,reduceEqDiff,if_true,if_false,reduceIte]
   refine ex_cond rfl ?_
   refine ex_region_w tt_ok 53 [0,0,2,2] [] (by kernel_rfl) (by kernel_rfl) fun K hK => ?_
   try simp only [ltb]
   try simp only [ltb]
   simp only [sl,cv,go_sem,reduceIte,reduceAdd,reduceLT,reduceLeDiff,reduceMul,reduceEqDiff,reduceSub,reduceCtorEq,List.take_length]
   refine hK _ _ (by kernel_rfl) ?_
   simp only [mkW,lkF,reduceAdd,reduceEqDiff,if_true,if_false,reduceIte]
   refine ex_ret ?_
   exact ⟨.inl rfl, _, ⟨_, _, rfl⟩, rfl⟩
 ·skip
  refine runX_cut 8 fun K1 hK1 => ?_
  simp only [ltb]
  simp only [sl,cv,go_sem,reduceIte,reduceAdd,reduceLT,reduceLeDiff,reduceMul,reduceEqDiff,reduceSub,reduceCtorEq,List.take_length]
  refine hK1 _ ?_
  refine runX_cut 8 fun K1 hK1 => ?_
  simp only [ltb]
  simp only [sl,cv,go_sem,reduceIte,reduceAdd,reduceLT,reduceLeDiff,reduceMul,reduceEqDiff,reduceSub,reduceCtorEq,List.take_length]
  refine hK1 _ ?_
  try simp only [ltb]
  simp only [sl,cv,go_sem,reduceIte,reduceAdd,reduceLT,reduceLeDiff,reduceMul,reduceEqDiff,reduceSub,reduceCtorEq,List.take_length]
  refine hK _ _ (by kernel_rfl) ?_
  simp only [mkW,lkF,reduceAdd,reduceEqDiff,if_true,if_false,reduceIte]
  refine ex_cond rfl ?_
  refine ex_region_w tt_ok 53 [0,0,2,2] [] (by kernel_rfl) (by kernel_rfl) fun K hK => ?_
  try simp only [ltb]
  try simp only [ltb]
  simp only [sl,cv,go_sem,reduceIte,reduceAdd,reduceLT,reduceLeDiff,reduceMul,reduceEqDiff,reduceSub,reduceCtorEq,List.take_length]
  refine hK _ _ (by kernel_rfl) ?_
  simp only [mkW,lkF,reduceAdd,reduceEqDiff,if_true,if_false,reduceIte]
  refine ex_ret ?_
  exact ⟨.inl rfl, _, ⟨_, _, rfl⟩, rfl⟩
end Go.Proofs.YtpjdfcigadnhcaaGreatDoor
end

section
namespace Go.Proofs.YtpjdfcigadnhcaaGreatDoor
open Go.Eng
open Nat (reduceAdd reduceLT reduceLeDiff reduceMul reduceEqDiff reduceSub)
variable [Glob]
set_option maxHeartbeats 4000000
set_option maxRecDepth 100000
attribute [local irreducible] runM stepM valD stepOp stepD callF
theorem makeV46 (k : Nat) (hk : k ≤ 1048576) : makeV tt 46 (num ((k + 1 : Nat) : Int)) (num ((k + 1 : Nat) : Int)) = some (1, List.replicate (k + 1) (str ⟨#[]⟩), k + 1) := by
 unfold makeV
 simp only [tElem,tt46,tt9]
 rw [if_pos (by refine ⟨by omega, by omega, by omega, by omega, by decide, ?_⟩; simp [Value.oneCell'])]
 simp only [Int.toNat_natCast]
 rfl
theorem genSplit_tot (hG : Glob.g = some 0) (s : ByteArray) (hs : s.size ≤ 1048575) : ∃ r, (fun v => ∃ xs : List ByteArray, v = .slice (xs.map str) ∧ xs ≠ [] ∧ (∀ x ∈ xs, x.size ≤ s.size) ∧ xs.length ≤ s.size + 1) r ∧ FnOk Tryz.prog 200 [str s, str ⟨#[47]⟩, num 0, num (-1)] r := by
 refine fn_ex tt_ok (fn := Tryz.f200) Tryz.func200 rfl Tryz.call200 ?_
 simp only [startSt,Tryz.ntmps200,List.length_cons,List.length_nil,reduceAdd,reduceSub,List.replicate_succ,List.replicate_zero,List.cons_append,List.nil_append]
 have hT9 : Tryz.prog.underlying 9 = some .string := by kernel_rfl
 have sl : ∀ (a : ByteArray) (ty : TypeId), liftL Tryz.prog (Builtin.len_ #[9] ty) [.sc (.string a)] = some (num a.size) := fun a ty => ev_slen (P := Tryz.prog) (tt := tt) (T := 9) a hT9 ty
 have hz : (⟨#[47]⟩ : ByteArray).size = 1 := rfl
 refine ex_region_w tt_ok 66 [0,0,0,0,0,0,0,0,2] [] (by kernel_rfl) (by kernel_rfl) fun K hK => ?_
 try simp only [ltb]
 try simp only [ltb]
 simp only [sl,hz,go_sem,reduceIte,reduceAdd,reduceLT,reduceLeDiff,reduceMul,reduceEqDiff,reduceSub,reduceCtorEq,List.take_length]
 refine hK _ _ (by kernel_rfl) ?_
 simp only [mkW,lkF,reduceAdd,reduceEqDiff,if_true,if_false,reduceIte]
 refine ex_seq ?_
 refine ex_region_w tt_ok 66 [0,0,0,0,0,0,0,0,0,0,0,0,1,2] [] (by kernel_rfl) (by kernel_rfl) fun K hK => ?_
 try simp only [ltb]
 try simp only [ltb]
 simp only [sl,hz,go_sem,reduceIte,reduceAdd,reduceLT,reduceLeDiff,reduceMul,reduceEqDiff,reduceSub,reduceCtorEq,List.take_length]
 refine hK _ _ (by kernel_rfl) ?_
 simp only [mkW,lkF,reduceAdd,reduceEqDiff,if_true,if_false,reduceIte]
 refine ex_if rfl (fun hc13 => ?_) (fun hc13 => ?_)
 ·skip
  exact absurd hc13 (by decide)
 ·skip
  refine ex_skip ?_
  show Go.Eng.Ex _ _ _ _ _ _
  refine ex_seq ?_
  refine ex_region_w tt_ok 66 [0,0,0,0,0,0,0,0,0,0,0,0,0,0,1,2] [] (by kernel_rfl) (by kernel_rfl) fun K hK => ?_
  try simp only [ltb]
  try simp only [ltb]
  simp only [sl,hz,go_sem,reduceIte,reduceAdd,reduceLT,reduceLeDiff,reduceMul,reduceEqDiff,reduceSub,reduceCtorEq,List.take_length]
  refine hK _ _ (by kernel_rfl) ?_
  simp only [mkW,lkF,reduceAdd,reduceEqDiff,if_true,if_false,reduceIte]
  refine ex_if rfl (fun hc15 => ?_) (fun hc15 => ?_)
  ·skip
   exact absurd (size_of_beq hc15) (by decide)
  ·skip
   refine ex_skip ?_
   show Go.Eng.Ex _ _ _ _ _ _
   refine ex_seq ?_
   refine ex_region_w tt_ok 66 [0,0,0,0,0,0,0,0,0,0,0,0,0,0,0,0,0,0,0,1,2] [] (by kernel_rfl) (by kernel_rfl) fun K hK => ?_
   try simp only [ltb]
   try simp only [ltb]
   simp only [sl,hz,go_sem,reduceIte,reduceAdd,reduceLT,reduceLeDiff,reduceMul,reduceEqDiff,reduceSub,reduceCtorEq,List.take_length]
   refine hK _ _ (by kernel_rfl) ?_
   simp only [mkW,lkF,reduceAdd,reduceEqDiff,if_true,if_false,reduceIte]
   refine ex_if rfl (fun hc20 => ?_) (fun hc20 => ?_)
   ·skip
    refine ex_last_region_w tt_ok 66 [0,0,0,2,0,0,0,0,0,0,0,0,0,0,0,0,0,0,0,0,0,2,2,2,2] [] (by kernel_rfl) (by kernel_rfl) (by kernel_rfl) fun K hK => ?_
    try simp only [ltb]
    refine runX_cut 3 fun K1 hK1 => ?_
    simp only [ltb]
    simp only [sl,hz,go_sem,reduceIte,reduceAdd,reduceLT,reduceLeDiff,reduceMul,reduceEqDiff,reduceSub,reduceCtorEq,List.take_length]
    refine callF_ex (count1_tot _) ?_
    rintro _ ⟨k, rfl, hk⟩
    try simp only [sl,hz,go_sem,reduceIte,reduceAdd,reduceLT,reduceLeDiff,reduceMul,reduceEqDiff,reduceSub,reduceCtorEq,List.take_length]
    have hwk := i64_succ k (by omega)
    refine hK1 _ ?_
    try simp only [ltb]
    simp only [hwk,sl,hz,go_sem,reduceIte,reduceAdd,reduceLT,reduceLeDiff,reduceMul,reduceEqDiff,reduceSub,reduceCtorEq,List.take_length]
    refine hK _ _ (by kernel_rfl) ?_
    simp only [mkW,lkF,reduceAdd,reduceEqDiff,if_true,if_false,reduceIte]
    show Go.Eng.Ex _ _ _ _ _ _
    have hwk := i64_succ k (by omega)
    have hws := i64_succ s.size (by omega)
    have hmin : (if ((s.size + 1 : Nat) : Int) < ((k + 1 : Nat) : Int) then ((s.size + 1 : Nat) : Int) else ((k + 1 : Nat) : Int)) = ((k + 1 : Nat) : Int) := if_neg (by omega)
    refine ex_region_w tt_ok 66 [0,0,0,2,0,0,0,0,0,0,0,0,0,0,0,0,0,0,0,0,0,0,0,0,0,1,1,1,1,1] [] (by kernel_rfl) (by kernel_rfl) fun K hK => ?_
    try simp only [ltb]
    try simp only [ltb]
    simp only [hwk,hwk,hws,hmin,sl,hz,go_sem,reduceIte,reduceAdd,reduceLT,reduceLeDiff,reduceMul,reduceEqDiff,reduceSub,reduceCtorEq,List.take_length]
    refine hK _ _ (by kernel_rfl) ?_
    simp only [mkW,lkF,reduceAdd,reduceEqDiff,if_true,if_false,reduceIte]
    have hmk := makeV46 k (by omega)
    refine ex_region_k (ws := ?ws) (mem' := ?mm) tt_ok 66 [0,0,0,0,0,0,0,0,0,2,0,0,0,0,0,0,0,0,0,0,0,0,0,0,0,0,0,0,0,0,1,1] [] (by kernel_rfl) (by kernel_rfl) (fun K hK => ?h1) ?h2 ?h3
    case h1 =>
     try simp only [List.toList_toArray,List.append_eq,List.cons_append,List.nil_append,List.drop_succ_cons,List.drop_zero]
     simp only [hwk,hwk,hws,hmin,hmk,List.length_replicate,sl,hz,go_sem,reduceIte,reduceAdd,reduceLT,reduceLeDiff,reduceMul,reduceEqDiff,reduceSub,reduceCtorEq]
     exact hK
    case h2 => kernel_rfl
    simp only [mkW,lkF,reduceAdd,reduceEqDiff,if_true,if_false,reduceIte]
    have hwm : IntKind.i64.wrap (((k + 1 : Nat) : Int) - 1) = (k : Int) := by rw [IntWalk.i64_in _ (by omega)]; omega
    refine ex_region_w tt_ok 66 [0,0,0,2,0,0,0,0,0,0,0,0,0,0,0,0,0,0,0,0,0,0,0,0,0,0,0,0,0,0,0,0,1,1] [] (by kernel_rfl) (by kernel_rfl) fun K hK => ?_
    try simp only [ltb]
    try simp only [ltb]
    simp only [hwk,hwk,hws,hmin,hmk,List.length_replicate,hwm,sl,hz,go_sem,reduceIte,reduceAdd,reduceLT,reduceLeDiff,reduceMul,reduceEqDiff,reduceSub,reduceCtorEq,List.take_length]
    refine hK _ _ (by kernel_rfl) ?_
    simp only [mkW,lkF,reduceAdd,reduceEqDiff,if_true,if_false,reduceIte]
    refine ex_region_w tt_ok 66 [0,0,0,0,0,0,0,0,0,0,2] [] (by kernel_rfl) (by kernel_rfl) fun K hK => ?_
    try simp only [ltb]
    try simp only [ltb]
    simp only [hwk,hwk,hws,hmin,hmk,List.length_replicate,hwm,sl,hz,go_sem,reduceIte,reduceAdd,reduceLT,reduceLeDiff,reduceMul,reduceEqDiff,reduceSub,reduceCtorEq,List.take_length]
    refine hK _ _ (by kernel_rfl) ?_
    simp only [mkW,lkF,reduceAdd,reduceEqDiff,if_true,if_false,reduceIte]
    refine ex_seq ?_
    refine ex_block ?_
    refine ex_loopF (fun a : ByteArray × Nat × List ByteArray => { fr := [str a.1, str ⟨#[47]⟩, num 0, num k, .undef, .undef, .undef, .undef, .undef, .ms 0 0 0 (k + 1), num a.2.1, .undef, .undef, .undef, .undef, .undef, .undef, .undef, .undef, .undef, .undef, .undef, .undef, .undef, .undef, .undef, .undef, .undef, .undef, .undef, .undef, .undef, .undef, .undef, .undef, .undef, .undef, .undef, .undef, .undef, .undef, .undef, .undef, .undef, .undef, .undef, .undef, .undef, .undef, .undef, .undef, .undef, .undef, .undef, .undef, .undef, .undef, .undef, .undef, .undef, .undef, .undef, .undef, .undef, .undef, .undef], mem := [.rows 0 1 (a.2.2.map str)] }) (fun a => k - a.2.1) (fun a => a.1.size ≤ s.size ∧ a.2.1 ≤ k ∧ a.2.2.length = k + 1 ∧ ∀ x ∈ a.2.2, x.size ≤ s.size) ((s, 0, List.replicate (k + 1) ⟨#[]⟩)) 1 [true,true,true,true,false,false,false,false,false,true,true] (by omega) (by simp only [maskFr,belowV,belowL,belowB,reduceLT,mkb]) (by simp only [maskFr,belowV,belowL,belowB,reduceLT,mkb]) (by simp only [maskFr,belowV,belowL,belowB,reduceLT,mkb,List.map_replicate]; rfl) (⟨Nat.le_refl _, by simp, by simp, by intro x hx; rw [List.eq_of_mem_replicate hx]; exact Nat.zero_le _⟩) ?_
    rintro ⟨q, i, xs⟩ ⟨hq, hik, hlen, hall⟩
    dsimp only at hq hik hlen hall
    dsimp only
    refine ex_seq ?_
    refine ex_region_w tt_ok 66 [0,0,0,0,0,0,0,0,0,0,0,0,0,0,0,0,0,0,0,0,0,0,0,0,0,0,0,0,0,0,0,0,0,0,1,1,2] [] (by kernel_rfl) (by kernel_rfl) fun K hK => ?_
    try simp only [ltb]
    try simp only [ltb]
    simp only [hwk,hwk,hws,hmin,hmk,List.length_replicate,hwm,sl,hz,go_sem,reduceIte,reduceAdd,reduceLT,reduceLeDiff,reduceMul,reduceEqDiff,reduceSub,reduceCtorEq,List.take_length]
    refine hK _ _ (by kernel_rfl) ?_
    simp only [mkW,lkF,reduceAdd,reduceEqDiff,if_true,if_false,reduceIte]
    refine ex_if rfl (fun hc36 => ?_) (fun hc36 => ?_)
    ·skip
     have hlt : i < k := by simpa using hc36
     refine ex_skip ?_
     show Go.Eng.Ex _ _ _ _ _ _
     refine ex_block ?_
     refine ex_region_w tt_ok 66 [0,0,0,0,0,0,0,0,0,0,0,2,0,0,0,0,0,0,0,0,0,0,0,0,0,0,0,0,0,0,0,0,0,0,0,0,0,1,1,1] [] (by kernel_rfl) (by kernel_rfl) fun K hK => ?_
     try simp only [ltb]
     refine runX_cut 3 fun K1 hK1 => ?_
     simp only [ltb]
     simp only [hwk,hwk,hws,hmin,hmk,List.length_replicate,hwm,sl,hz,go_sem,reduceIte,reduceAdd,reduceLT,reduceLeDiff,reduceMul,reduceEqDiff,reduceSub,reduceCtorEq,List.take_length]
     refine callF_ex (sindex1_tot hG q (by omega)) ?_
     rintro _ ⟨o, rfl, hol, hou⟩
     try simp only [hwk,hwk,hws,hmin,hmk,List.length_replicate,hwm,sl,hz,go_sem,reduceIte,reduceAdd,reduceLT,reduceLeDiff,reduceMul,reduceEqDiff,reduceSub,reduceCtorEq,List.take_length]
     refine hK1 _ ?_
     try simp only [ltb]
     simp only [hwk,hwk,hws,hmin,hmk,List.length_replicate,hwm,sl,hz,go_sem,reduceIte,reduceAdd,reduceLT,reduceLeDiff,reduceMul,reduceEqDiff,reduceSub,reduceCtorEq,List.take_length]
     refine hK _ _ (by kernel_rfl) ?_
     simp only [mkW,lkF,reduceAdd,reduceEqDiff,if_true,if_false,reduceIte]
     refine ex_seq ?_
     refine ex_region_w tt_ok 66 [0,0,0,0,0,0,0,0,0,0,0,0,0,0,0,0,0,0,0,0,0,0,0,0,0,0,0,0,0,0,0,0,0,0,0,0,0,0,0,0,1,2] [] (by kernel_rfl) (by kernel_rfl) fun K hK => ?_
     try simp only [ltb]
     try simp only [ltb]
     simp only [hwk,hwk,hws,hmin,hmk,List.length_replicate,hwm,sl,hz,go_sem,reduceIte,reduceAdd,reduceLT,reduceLeDiff,reduceMul,reduceEqDiff,reduceSub,reduceCtorEq,List.take_length]
     refine hK _ _ (by kernel_rfl) ?_
     simp only [mkW,lkF,reduceAdd,reduceEqDiff,if_true,if_false,reduceIte]
     refine ex_if rfl (fun hc41 => ?_) (fun hc41 => ?_)
     ·skip
      refine ex_exit ?_
      show Go.Eng.Ex _ _ _ _ _ _
      have hin : ((i : Nat) : Int) < ((k + 1 : Nat) : Int) := by omega
      obtain ⟨x0, hx0⟩ : ∃ x, xs[i]? = some x := ⟨_, List.getElem?_eq_getElem (by omega)⟩
      have hwi := i64_succ i (by omega)
      have hi0 : (0 : Int) ≤ ((i + 1 : Nat) : Int) := by omega
      have hi1 : ((i + 1 : Nat) : Int) ≤ ((k + 1 : Nat) : Int) := by omega
      refine ex_region_w tt_ok 66 [0,0,0,0,0,0,0,0,0,0,0,0,0,0,0,0,0,0,0,0,0,0,0,0,0,0,0,0,0,0,0,0,0,0,0,0,0,0,0,0,0,0,0,0,0,0,0,0,0,0,0,0,0,0,0,0,0,0,1,1,1,1] [] (by kernel_rfl) (by kernel_rfl) fun K hK => ?_
      try simp only [ltb]
      try simp only [ltb]
      simp only [hwk,hwk,hws,hmin,hmk,List.length_replicate,hwm,hin,hx0,List.getElem?_map,setRow,hwi,hi0,hi1,cutAt,Option.getD_some,Int.sub_zero,sl,hz,go_sem,reduceIte,reduceAdd,reduceLT,reduceLeDiff,reduceMul,reduceEqDiff,reduceSub,reduceCtorEq,List.take_length]
      refine hK _ _ (by kernel_rfl) ?_
      simp only [mkW,lkF,reduceAdd,reduceEqDiff,if_true,if_false,reduceIte]
      refine ex_region_w tt_ok 66 [0,0,0,0,0,0,0,0,2,0,0,0,0,0,0,0,0,0,0,0,0,0,0,0,0,0,0,0,0,0,0,0,0,0,0,0,0,0,0,0,0,0,0,0,0,0,0,0,0,0,0,0,0,0,0,0,0,0,0,0,0,0,1,1,1,1] [] (by kernel_rfl) (by kernel_rfl) fun K hK => ?_
      try simp only [ltb]
      try simp only [ltb]
      simp only [hwk,hwk,hws,hmin,hmk,List.length_replicate,hwm,hin,hx0,List.getElem?_map,setRow,hwi,hi0,hi1,cutAt,Option.getD_some,Int.sub_zero,sl,hz,go_sem,reduceIte,reduceAdd,reduceLT,reduceLeDiff,reduceMul,reduceEqDiff,reduceSub,reduceCtorEq,List.take_length]
      refine hK _ _ (by kernel_rfl) ?_
      simp only [mkW,lkF,reduceAdd,reduceEqDiff,if_true,if_false,reduceIte]
      refine ex_ret ?_
      refine ⟨.inl rfl, .slice (((xs.set i q).take (i + 1)).map str), ⟨_, rfl, ?_, ?_, ?_⟩, ?_⟩
      ·intro e; have h0 := congrArg List.length e; rw [List.length_take, List.length_set] at h0; simp only [List.length_nil] at h0; omega
      ·intro x hx
       rcases List.mem_or_eq_of_mem_set (List.mem_of_mem_take hx) with h | rfl
       ·exact hall x h
       ·exact hq
      ·rw [List.length_take]; omega
      ·simp [retV, resL, resV, pur, List.map_set, List.map_take]
       simp only [pur1,purCell,List.getElem?_cons_zero]
       rw [if_pos ⟨trivial, by rw [List.length_set, List.length_map]; omega⟩]
       simp
     ·skip
      have ho0 : 0 ≤ o := by have := of_decide_eq_false hc41; omega
      have hwo : IntKind.i64.wrap (o + 0) = o := by rw [Int.add_zero]; exact IntWalk.i64_in _ (by omega)
      have hwo1 : IntKind.i64.wrap (o + ((1 : Nat) : Int)) = o + 1 := by rw [IntWalk.i64_in _ (by omega)]; rfl
      have hwi := i64_succ i (by omega)
      have hin : ((i : Nat) : Int) < ((k + 1 : Nat) : Int) := by omega
      obtain ⟨x0, hx0⟩ : ∃ x, xs[i]? = some x := ⟨_, List.getElem?_eq_getElem (by omega)⟩
      have hct : lift2 Tryz.prog (fun a h => Instr.sliceAt 9 a none (some h) none) (.sc (.string q)) (.sc (.int .i64 (o))) = some (.sc (.string (q.extract 0 (o : Int).toNat))) := ev_cutto (P := Tryz.prog) (tt := tt) (mem := []) (T := 9) q hT9 .i64 (o) (by omega) (by omega)
      have hcf : lift2 Tryz.prog (fun a l => Instr.sliceAt 9 a (some l) none none) (.sc (.string q)) (.sc (.int .i64 (o + 1))) = some (.sc (.string (q.extract (o + 1 : Int).toNat q.size))) := ev_cutfrom (P := Tryz.prog) (tt := tt) (mem := []) (T := 9) q hT9 .i64 (o + 1) (by omega) (by omega)
      refine ex_skip ?_
      show Go.Eng.Ex _ _ _ _ _ _
      refine ex_region_w tt_ok 66 [0,0,0,0,0,0,0,0,0,0,0,0,0,0,0,0,0,0,0,0,0,0,0,0,0,0,0,0,0,0,0,0,0,0,0,0,0,0,0,0,0,0,1,1,1,1,1,1,1,1] [] (by kernel_rfl) (by kernel_rfl) fun K hK => ?_
      try simp only [ltb]
      refine runX_cut 8 fun K1 hK1 => ?_
      simp only [ltb]
      simp only [hwk,hwk,hws,hmin,hmk,List.length_replicate,hwm,hwo,hwo1,hwi,hin,hx0,List.getElem?_map,hct,hcf,setRow,sl,hz,go_sem,reduceIte,reduceAdd,reduceLT,reduceLeDiff,reduceMul,reduceEqDiff,reduceSub,reduceCtorEq,List.take_length]
      refine hK1 _ ?_
      try simp only [ltb]
      simp only [hwk,hwk,hws,hmin,hmk,List.length_replicate,hwm,hwo,hwo1,hwi,hin,hx0,List.getElem?_map,hct,hcf,setRow,sl,hz,go_sem,reduceIte,reduceAdd,reduceLT,reduceLeDiff,reduceMul,reduceEqDiff,reduceSub,reduceCtorEq,List.take_length]
      refine hK _ _ (by kernel_rfl) ?_
      simp only [mkW,lkF,reduceAdd,reduceEqDiff,if_true,if_false,reduceIte]
      refine ex_region_w tt_ok 66 [2,0,0,0,0,0,0,0,0,0,0,0,0,0,0,0,0,0,0,0,0,0,0,0,0,0,0,0,0,0,0,0,0,0,0,0,0,0,0,0,0,0,0,0,0,0,0,0,0,0,1,1,1,1,1,1] [] (by kernel_rfl) (by kernel_rfl) fun K hK => ?_
      try simp only [ltb]
      try simp only [ltb]
      simp only [hwk,hwk,hws,hmin,hmk,List.length_replicate,hwm,hwo,hwo1,hwi,hin,hx0,List.getElem?_map,hct,hcf,setRow,sl,hz,go_sem,reduceIte,reduceAdd,reduceLT,reduceLeDiff,reduceMul,reduceEqDiff,reduceSub,reduceCtorEq,List.take_length]
      refine hK _ _ (by kernel_rfl) ?_
      simp only [mkW,lkF,reduceAdd,reduceEqDiff,if_true,if_false,reduceIte]
      refine ex_last_region_w tt_ok 66 [0,0,0,0,0,0,0,0,0,0,2,0,0,0,0,0,0,0,0,0,0,0,0,0,0,0,0,0,0,0,0,0,0,0,0,0,0,0,0,0,0,0,0,0,0,0,0,0,0,0,0,0,0,0,0,0,2,2] [] (by kernel_rfl) (by kernel_rfl) (by kernel_rfl) fun K hK => ?_
      try simp only [ltb]
      try simp only [ltb]
      simp only [hwk,hwk,hws,hmin,hmk,List.length_replicate,hwm,hwo,hwo1,hwi,hin,hx0,List.getElem?_map,hct,hcf,setRow,sl,hz,go_sem,reduceIte,reduceAdd,reduceLT,reduceLeDiff,reduceMul,reduceEqDiff,reduceSub,reduceCtorEq,List.take_length]
      refine hK _ _ (by kernel_rfl) ?_
      simp only [mkW,lkF,reduceAdd,reduceEqDiff,if_true,if_false,reduceIte]
      refine ⟨(q.extract (o + 1).toNat q.size, i + 1, xs.set i (q.extract 0 o.toNat)), ?_, ?_, 1, [true,true,true,true,false,false,false,false,false,true,true], by omega, by simp only [maskFr,belowV,belowL,belowB,reduceLT,mkb], by simp only [maskFr,belowV,belowL,belowB,reduceLT,mkb], by simp only [maskFr,belowV,belowL,belowB,reduceLT,mkb,List.map_set]⟩
      ·refine ⟨by have := size_ext (s := q) (a := (o + 1).toNat) (b := q.size); dsimp only; omega, by dsimp only; omega, by simpa using hlen, fun x hx => ?_⟩
       rcases List.mem_or_eq_of_mem_set hx with h | rfl
       ·exact hall x h
       ·have := size_ext (s := q) (a := 0) (b := o.toNat); omega
      ·dsimp only; omega
    ·skip
     refine ex_exit ?_
     show Go.Eng.Ex _ _ _ _ _ _
     have hin : ((i : Nat) : Int) < ((k + 1 : Nat) : Int) := by omega
     obtain ⟨x0, hx0⟩ : ∃ x, xs[i]? = some x := ⟨_, List.getElem?_eq_getElem (by omega)⟩
     have hwi := i64_succ i (by omega)
     have hi0 : (0 : Int) ≤ ((i + 1 : Nat) : Int) := by omega
     have hi1 : ((i + 1 : Nat) : Int) ≤ ((k + 1 : Nat) : Int) := by omega
     refine ex_region_w tt_ok 66 [0,0,0,0,0,0,0,0,0,0,0,0,0,0,0,0,0,0,0,0,0,0,0,0,0,0,0,0,0,0,0,0,0,0,0,0,0,0,0,0,0,0,0,0,0,0,0,0,0,0,0,0,0,0,0,0,0,0,1,1,1,1] [] (by kernel_rfl) (by kernel_rfl) fun K hK => ?_
     try simp only [ltb]
     try simp only [ltb]
     simp only [hwk,hwk,hws,hmin,hmk,List.length_replicate,hwm,hin,hx0,List.getElem?_map,setRow,hwi,hi0,hi1,cutAt,Option.getD_some,Int.sub_zero,sl,hz,go_sem,reduceIte,reduceAdd,reduceLT,reduceLeDiff,reduceMul,reduceEqDiff,reduceSub,reduceCtorEq,List.take_length]
     refine hK _ _ (by kernel_rfl) ?_
     simp only [mkW,lkF,reduceAdd,reduceEqDiff,if_true,if_false,reduceIte]
     refine ex_region_w tt_ok 66 [0,0,0,0,0,0,0,0,2,0,0,0,0,0,0,0,0,0,0,0,0,0,0,0,0,0,0,0,0,0,0,0,0,0,0,0,0,0,0,0,0,0,0,0,0,0,0,0,0,0,0,0,0,0,0,0,0,0,0,0,0,0,1,1,1,1] [] (by kernel_rfl) (by kernel_rfl) fun K hK => ?_
     try simp only [ltb]
     try simp only [ltb]
     simp only [hwk,hwk,hws,hmin,hmk,List.length_replicate,hwm,hin,hx0,List.getElem?_map,setRow,hwi,hi0,hi1,cutAt,Option.getD_some,Int.sub_zero,sl,hz,go_sem,reduceIte,reduceAdd,reduceLT,reduceLeDiff,reduceMul,reduceEqDiff,reduceSub,reduceCtorEq,List.take_length]
     refine hK _ _ (by kernel_rfl) ?_
     simp only [mkW,lkF,reduceAdd,reduceEqDiff,if_true,if_false,reduceIte]
     refine ex_ret ?_
     refine ⟨.inl rfl, .slice (((xs.set i q).take (i + 1)).map str), ⟨_, rfl, ?_, ?_, ?_⟩, ?_⟩
     ·intro e; have h0 := congrArg List.length e; rw [List.length_take, List.length_set] at h0; simp only [List.length_nil] at h0; omega
     ·intro x hx
      rcases List.mem_or_eq_of_mem_set (List.mem_of_mem_take hx) with h | rfl
      ·exact hall x h
      ·exact hq
     ·rw [List.length_take]; omega
     ·simp [retV, resL, resV, pur, List.map_set, List.map_take]
      simp only [pur1,purCell,List.getElem?_cons_zero]
      rw [if_pos ⟨trivial, by rw [List.length_set, List.length_map]; omega⟩]
      simp
   ·skip
    exact absurd hc20 (by decide)
end Go.Proofs.YtpjdfcigadnhcaaGreatDoor
end
