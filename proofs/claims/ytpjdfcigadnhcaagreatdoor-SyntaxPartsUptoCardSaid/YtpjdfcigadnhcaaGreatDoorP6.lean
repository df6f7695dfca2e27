/-
  CONTRACTS: paths.
  CONTRACTS: nodes of types.
  CONTRACTS: expressions against a form.
  CONTRACTS: the range over the nodes of a type, with what is known of each node.
  CONTRACTS: CheckType of the program.
  CONTRACTS: the node of an expression.
  CONTRACTS: the forms of all kinds; CheckExpr.
  THE PLAIN LAW of CheckType: what has its form has parts that have theirs.
  CONTRACTS: the depth of an expression.
  CONTRACTS: CheckExpr of the program.
-/
import Derived.Test.YtpjdfcigadnhcaaGreatDoorP5
set_option linter.all false
section
namespace Go.Proofs.YtpjdfcigadnhcaaGreatDoor
open Go.Eng
open Nat (reduceAdd reduceLT reduceLeDiff reduceMul reduceEqDiff reduceSub)
variable [Glob]
set_option maxHeartbeats 4000000
set_option maxRecDepth 100000
attribute [local irreducible] runM stepM valD stepOp stepD callF
theorem split_tot (hG : Glob.g = some 0) (s : ByteArray) (hs : s.size ≤ 1048575) : ∃ r, (fun v => ∃ xs : List ByteArray, v = .slice (xs.map str) ∧ xs ≠ [] ∧ (∀ x ∈ xs, x.size ≤ s.size) ∧ xs.length ≤ s.size + 1) r ∧ FnOk Tryz.prog 187 [str s, str ⟨#[47]⟩] r := by
 refine fn_ex tt_ok (fn := Tryz.f187) Tryz.func187 rfl Tryz.call187 ?_
 simp only [startSt,Tryz.ntmps187,List.length_cons,List.length_nil,reduceAdd,reduceSub,List.replicate_succ,List.replicate_zero,List.cons_append,List.nil_append]
 refine ex_region_w tt_ok 8 [0,0,0,0,2] [] (by kernel_rfl) (by kernel_rfl) fun K hK => ?_
 try simp only [ltb]
 try simp only [ltb]
 simp only [go_sem,reduceIte,reduceAdd,reduceLT,reduceLeDiff,reduceMul,reduceEqDiff,reduceSub,reduceCtorEq,List.take_length]
 refine hK _ _ (by kernel_rfl) ?_
 simp only [mkW,lkF,reduceAdd,reduceEqDiff,if_true,if_false,reduceIte]
 refine ex_region_w tt_ok 8 [0,0,0,0,2,1,1,1] [] (by kernel_rfl) (by kernel_rfl) fun K hK => ?_
 try simp only [ltb]
 refine runX_cut 3 fun K1 hK1 => ?_
 simp only [ltb]
 simp only [go_sem,reduceIte,reduceAdd,reduceLT,reduceLeDiff,reduceMul,reduceEqDiff,reduceSub,reduceCtorEq,List.take_length]
 refine callF_ex (genSplit_tot hG s hs) ?_
 rintro _ ⟨xs, rfl, hne, hall, hln⟩
 try simp only [go_sem,reduceIte,reduceAdd,reduceLT,reduceLeDiff,reduceMul,reduceEqDiff,reduceSub,reduceCtorEq,List.take_length]
 refine hK1 _ ?_
 try simp only [ltb]
 simp only [go_sem,reduceIte,reduceAdd,reduceLT,reduceLeDiff,reduceMul,reduceEqDiff,reduceSub,reduceCtorEq,List.take_length]
 refine hK _ _ (by kernel_rfl) ?_
 simp only [mkW,lkF,reduceAdd,reduceEqDiff,if_true,if_false,reduceIte]
 refine ex_ret ?_
 exact ⟨.inl rfl, _, ⟨xs, rfl, hne, hall, hln⟩, rfl⟩
theorem maj1_tot (c : Int) : ∃ r, isB r ∧ FnOk Tryz.prog 189 [.sc (.int .u8 c)] r := by
 refine fn_ex tt_ok (fn := Tryz.f189) Tryz.func189 rfl Tryz.call189 ?_
 simp only [startSt,Tryz.ntmps189,List.length_cons,List.length_nil,reduceAdd,reduceSub,List.replicate_succ,List.replicate_zero,List.cons_append,List.nil_append]
 refine ex_region_w tt_ok 9 [0,0,2] [] (by kernel_rfl) (by kernel_rfl) fun K hK => ?_
 try simp only [ltb]
 try simp only [ltb]
 simp only [go_sem,reduceIte,reduceAdd,reduceLT,reduceLeDiff,reduceMul,reduceEqDiff,reduceSub,reduceCtorEq,List.take_length]
 refine hK _ _ (by kernel_rfl) ?_
 simp only [mkW,lkF,reduceAdd,reduceEqDiff,if_true,if_false,reduceIte]
 refine ex_region_w tt_ok 9 [0,0,2,1,1,1,1,1,1] [(2, 5)] (by kernel_rfl) (by kernel_rfl) fun K hK => ?_
 try simp only [ltb]
 refine runX_cut 2 fun K1 hK1 => ?_
 simp only [ltb]
 simp only [go_sem,reduceIte,reduceAdd,reduceLT,reduceLeDiff,reduceMul,reduceEqDiff,reduceSub,reduceCtorEq,List.take_length]
 refine callF_ex (small_tot _) ?_
 rintro _ ⟨r1, rfl⟩
 try simp only [go_sem,reduceIte,reduceAdd,reduceLT,reduceLeDiff,reduceMul,reduceEqDiff,reduceSub,reduceCtorEq,List.take_length]
 refine hK1 _ ?_
 refine runX_cut 1 fun K1 hK1 => ?_
 simp only [ltb]
 simp only [go_sem,reduceIte,reduceAdd,reduceLT,reduceLeDiff,reduceMul,reduceEqDiff,reduceSub,reduceCtorEq,List.take_length]
 refine hK1 _ ?_
 refine runX_case 5 (by rfl) fun b hb1_2 => ?_
 cases b
 ·skip
  refine runX_cut 2 fun K1 hK1 => ?_
  simp only [ltb]
  simp only [go_sem,reduceIte,reduceAdd,reduceLT,reduceLeDiff,reduceMul,reduceEqDiff,reduceSub,reduceCtorEq,List.take_length]
  refine callF_ex (digit_tot _) ?_
  rintro _ ⟨r2, rfl⟩
  try simp only [go_sem,reduceIte,reduceAdd,reduceLT,reduceLeDiff,reduceMul,reduceEqDiff,reduceSub,reduceCtorEq,List.take_length]
  refine hK1 _ ?_
  try simp only [ltb]
  simp only [go_sem,reduceIte,reduceAdd,reduceLT,reduceLeDiff,reduceMul,reduceEqDiff,reduceSub,reduceCtorEq,List.take_length]
  refine hK _ _ (by kernel_rfl) ?_
  simp only [mkW,lkF,reduceAdd,reduceEqDiff,if_true,if_false,reduceIte]
  refine ex_ret ?_
  exact ⟨.inl rfl, _, ⟨_, rfl⟩, rfl⟩
 ·skip
  try simp only [ltb]
  simp only [go_sem,reduceIte,reduceAdd,reduceLT,reduceLeDiff,reduceMul,reduceEqDiff,reduceSub,reduceCtorEq,List.take_length]
  refine hK _ _ (by kernel_rfl) ?_
  simp only [mkW,lkF,reduceAdd,reduceEqDiff,if_true,if_false,reduceIte]
  refine ex_ret ?_
  exact ⟨.inl rfl, _, ⟨_, rfl⟩, rfl⟩
theorem major_tot (hG : Glob.g = some 0) (s : ByteArray) (hs : s.size ≤ 1048575) : ∃ r, (fun v => ∃ a b : Int, v = .tup [num a, num b]) r ∧ FnOk Tryz.prog 160 [str s] r := by
 refine fn_ex tt_ok (fn := Tryz.f160) Tryz.func160 rfl Tryz.call160 ?_
 simp only [startSt,Tryz.ntmps160,List.length_cons,List.length_nil,reduceAdd,reduceSub,List.replicate_succ,List.replicate_zero,List.cons_append,List.nil_append]
 have hT9 : Tryz.prog.underlying 9 = some .string := by kernel_rfl
 have sl : ∀ (a : ByteArray) (ty : TypeId), liftL Tryz.prog (Builtin.len_ #[9] ty) [.sc (.string a)] = some (num a.size) := fun a ty => ev_slen (P := Tryz.prog) (tt := tt) (T := 9) a hT9 ty
 refine ex_region_w tt_ok 49 [0,0,2,2] [] (by kernel_rfl) (by kernel_rfl) fun K hK => ?_
 try simp only [ltb]
 try simp only [ltb]
 simp only [sl,List.length_map,List.getElem?_map,go_sem,reduceIte,reduceAdd,reduceLT,reduceLeDiff,reduceMul,reduceEqDiff,reduceSub,reduceCtorEq,List.take_length]
 refine hK _ _ (by kernel_rfl) ?_
 simp only [mkW,lkF,reduceAdd,reduceEqDiff,if_true,if_false,reduceIte]
 refine ex_region_w tt_ok 49 [0,0,0,0,2,0,0,0,0,1,1] [] (by kernel_rfl) (by kernel_rfl) fun K hK => ?_
 try simp only [ltb]
 refine runX_cut 2 fun K1 hK1 => ?_
 simp only [ltb]
 simp only [sl,List.length_map,List.getElem?_map,go_sem,reduceIte,reduceAdd,reduceLT,reduceLeDiff,reduceMul,reduceEqDiff,reduceSub,reduceCtorEq,List.take_length]
 refine callF_ex (split_tot hG s hs) ?_
 rintro _ ⟨xs, rfl, hne, hall, hln⟩
 try simp only [sl,List.length_map,List.getElem?_map,go_sem,reduceIte,reduceAdd,reduceLT,reduceLeDiff,reduceMul,reduceEqDiff,reduceSub,reduceCtorEq,List.take_length]
 have hl0 : 0 < xs.length := List.length_pos_iff.2 hne
 obtain ⟨z, hz⟩ : ∃ z, xs[xs.length - 1]? = some z := ⟨_, List.getElem?_eq_getElem (by omega)⟩
 have hzs := hall z (List.mem_of_getElem? hz)
 have hwm : IntKind.i64.wrap ((xs.length : Int) - 1) = ((xs.length - 1 : Nat) : Int) := by rw [IntWalk.i64_in _ (by omega)]; omega
 refine hK1 _ ?_
 try simp only [ltb]
 simp only [hz,hwm,sl,List.length_map,List.getElem?_map,go_sem,reduceIte,reduceAdd,reduceLT,reduceLeDiff,reduceMul,reduceEqDiff,reduceSub,reduceCtorEq,List.take_length]
 refine hK _ _ (by kernel_rfl) ?_
 simp only [mkW,lkF,reduceAdd,reduceEqDiff,if_true,if_false,reduceIte]
 refine ex_region_w tt_ok 49 [0,0,0,0,0,2,2,0,0,0,0,1,1,1,1,1,1,1,1,1,1] [] (by kernel_rfl) (by kernel_rfl) fun K hK => ?_
 try simp only [ltb]
 refine runX_cut 7 fun K1 hK1 => ?_
 simp only [ltb]
 simp only [hz,hwm,sl,List.length_map,List.getElem?_map,go_sem,reduceIte,reduceAdd,reduceLT,reduceLeDiff,reduceMul,reduceEqDiff,reduceSub,reduceCtorEq,List.take_length]
 refine callF_ex (version_tot z (by omega)) ?_
 rintro _ ⟨n0, b0, rfl⟩
 try simp only [hz,hwm,sl,List.length_map,List.getElem?_map,go_sem,reduceIte,reduceAdd,reduceLT,reduceLeDiff,reduceMul,reduceEqDiff,reduceSub,reduceCtorEq,List.take_length]
 refine hK1 _ ?_
 try simp only [ltb]
 simp only [hz,hwm,sl,List.length_map,List.getElem?_map,go_sem,reduceIte,reduceAdd,reduceLT,reduceLeDiff,reduceMul,reduceEqDiff,reduceSub,reduceCtorEq,List.take_length]
 refine hK _ _ (by kernel_rfl) ?_
 simp only [mkW,lkF,reduceAdd,reduceEqDiff,if_true,if_false,reduceIte]
 refine ex_seq ?_
 refine ex_region_w tt_ok 49 [0,0,0,0,0,0,0,0,0,0,0,0,0,0,0,0,0,0,0,0,0,1,1,1,1,1,1,1,1,1,1,1,2] [(2, 23), (7, 28)] (by kernel_rfl) (by kernel_rfl) fun K hK => ?_
 try simp only [ltb]
 refine runX_cut 3 fun K1 hK1 => ?_
 simp only [ltb]
 simp only [hz,hwm,sl,List.length_map,List.getElem?_map,go_sem,reduceIte,reduceAdd,reduceLT,reduceLeDiff,reduceMul,reduceEqDiff,reduceSub,reduceCtorEq,List.take_length]
 refine hK1 _ ?_
 refine runX_case 23 (by rfl) fun b hb3_2 => ?_
 cases b
 ·skip
  refine runX_cut 5 fun K1 hK1 => ?_
  simp only [ltb]
  simp only [hz,hwm,sl,List.length_map,List.getElem?_map,go_sem,reduceIte,reduceAdd,reduceLT,reduceLeDiff,reduceMul,reduceEqDiff,reduceSub,reduceCtorEq,List.take_length]
  refine hK1 _ ?_
  refine runX_case 28 (by rfl) fun b hb3_7 => ?_
  cases b
  ·skip
   try simp only [ltb]
   simp only [hz,hwm,sl,List.length_map,List.getElem?_map,go_sem,reduceIte,reduceAdd,reduceLT,reduceLeDiff,reduceMul,reduceEqDiff,reduceSub,reduceCtorEq,List.take_length]
   refine hK _ _ (by kernel_rfl) ?_
   simp only [mkW,lkF,reduceAdd,reduceEqDiff,if_true,if_false,reduceIte]
   refine ex_if rfl (fun hc32 => ?_) (fun hc32 => ?_)
   ·skip
    refine ex_region_w tt_ok 49 [0,0,2,2] [] (by kernel_rfl) (by kernel_rfl) fun K hK => ?_
    try simp only [ltb]
    try simp only [ltb]
    simp only [hz,hwm,sl,List.length_map,List.getElem?_map,go_sem,reduceIte,reduceAdd,reduceLT,reduceLeDiff,reduceMul,reduceEqDiff,reduceSub,reduceCtorEq,List.take_length]
    refine hK _ _ (by kernel_rfl) ?_
    simp only [mkW,lkF,reduceAdd,reduceEqDiff,if_true,if_false,reduceIte]
    refine ex_ret ?_
    exact ⟨.inl rfl, _, ⟨_, _, rfl⟩, rfl⟩
   ·skip
    refine ex_skip ?_
    show Go.Eng.Ex _ _ _ _ _ _
    refine ex_seq ?_
    refine ex_region_w tt_ok 49 [0,0,0,0,0,0,0,0,0,0,0,0,0,0,0,0,0,0,0,0,0,0,0,0,0,0,0,0,0,0,0,0,0,2,2,2] [] (by kernel_rfl) (by kernel_rfl) fun K hK => ?_
    try simp only [ltb]
    try simp only [ltb]
    simp only [hz,hwm,sl,List.length_map,List.getElem?_map,go_sem,reduceIte,reduceAdd,reduceLT,reduceLeDiff,reduceMul,reduceEqDiff,reduceSub,reduceCtorEq,List.take_length]
    refine hK _ _ (by kernel_rfl) ?_
    simp only [mkW,lkF,reduceAdd,reduceEqDiff,if_true,if_false,reduceIte]
    refine ex_block ?_
    refine ex_range 35 (xs.length) 0 [false,false,true,true,false,true,false,false,false,false,false,false,false,false,false,false,false,false,false,false,false,false,false,false,false,false,false,false,false,false,false,false,true,true,true,true] (by omega) (by simp only [maskFr,belowV,belowL,belowB,reduceLT,mkb]) (by simp only [maskFr,belowV,belowL,belowB,reduceLT,mkb]) (by rfl) fun i hii => ?_
    simp only [maskFr,belowV,belowL,belowB,reduceLT,mkb,List.set_cons_zero,List.set_cons_succ]
    refine ex_region_w tt_ok 49 [0,0,0,0,0,0,0,0,0,0,0,0,0,0,0,0,0,0,0,0,0,0,0,0,0,0,0,0,0,0,0,0,0,0,0,0,2] [] (by kernel_rfl) (by kernel_rfl) fun K hK => ?_
    try simp only [ltb]
    try simp only [ltb]
    simp only [hz,hwm,sl,List.length_map,List.getElem?_map,go_sem,reduceIte,reduceAdd,reduceLT,reduceLeDiff,reduceMul,reduceEqDiff,reduceSub,reduceCtorEq,List.take_length]
    refine hK _ _ (by kernel_rfl) ?_
    simp only [mkW,lkF,reduceAdd,reduceEqDiff,if_true,if_false,reduceIte]
    refine ex_seq ?_
    refine ex_if rfl (fun hc36 => ?_) (fun hc36 => ?_)
    ·skip
     have hlti : i < (xs.length) := by simpa using hc36
     obtain ⟨x, hx⟩ : ∃ x, xs[i]? = some x := ⟨_, List.getElem?_eq_getElem hlti⟩
     have hxs := hall x (List.mem_of_getElem? hx)
     refine ex_skip ?_
     show Go.Eng.Ex _ _ _ _ _ _
     refine ex_seq ?_
     refine ex_block ?_
     refine ex_region_w tt_ok 49 [0,0,0,0,0,0,0,0,2,0,0,0,0,0,0,0,0,0,0,0,0,0,0,0,0,0,0,0,0,0,0,0,0,0,0,0,0,1,1] [] (by kernel_rfl) (by kernel_rfl) fun K hK => ?_
     try simp only [ltb]
     try simp only [ltb]
     simp only [hz,hwm,hlti,hx,sl,List.length_map,List.getElem?_map,go_sem,reduceIte,reduceAdd,reduceLT,reduceLeDiff,reduceMul,reduceEqDiff,reduceSub,reduceCtorEq,List.take_length]
     refine hK _ _ (by kernel_rfl) ?_
     simp only [mkW,lkF,reduceAdd,reduceEqDiff,if_true,if_false,reduceIte]
     refine ex_region_w tt_ok 49 [0,0,0,0,0,0,0,0,0,0,0,0,0,0,0,0,0,0,0,0,0,0,0,0,0,0,0,0,0,0,0,0,0,0,0,0,0,0,0,1,1,1,1,1,1,1,2] [(3, 42)] (by kernel_rfl) (by kernel_rfl) fun K hK => ?_
     try simp only [ltb]
     refine runX_cut 2 fun K1 hK1 => ?_
     simp only [ltb]
     simp only [hz,hwm,hlti,hx,sl,List.length_map,List.getElem?_map,go_sem,reduceIte,reduceAdd,reduceLT,reduceLeDiff,reduceMul,reduceEqDiff,reduceSub,reduceCtorEq,List.take_length]
     refine callF_ex (isName_tot hG x) ?_
     rintro _ ⟨r3, rfl⟩
     try simp only [hz,hwm,hlti,hx,sl,List.length_map,List.getElem?_map,go_sem,reduceIte,reduceAdd,reduceLT,reduceLeDiff,reduceMul,reduceEqDiff,reduceSub,reduceCtorEq,List.take_length]
     refine hK1 _ ?_
     refine runX_cut 2 fun K1 hK1 => ?_
     simp only [ltb]
     simp only [hz,hwm,hlti,hx,sl,List.length_map,List.getElem?_map,go_sem,reduceIte,reduceAdd,reduceLT,reduceLeDiff,reduceMul,reduceEqDiff,reduceSub,reduceCtorEq,List.take_length]
     refine hK1 _ ?_
     refine runX_case 42 (by rfl) fun b hb8_3 => ?_
     cases b
     ·skip
      refine runX_cut 2 fun K1 hK1 => ?_
      simp only [ltb]
      simp only [hz,hwm,hlti,hx,sl,List.length_map,List.getElem?_map,go_sem,reduceIte,reduceAdd,reduceLT,reduceLeDiff,reduceMul,reduceEqDiff,reduceSub,reduceCtorEq,List.take_length]
      refine callF_ex (all_tot 189 maj1_tot x (by omega)) ?_
      rintro _ ⟨r4, rfl⟩
      try simp only [hz,hwm,hlti,hx,sl,List.length_map,List.getElem?_map,go_sem,reduceIte,reduceAdd,reduceLT,reduceLeDiff,reduceMul,reduceEqDiff,reduceSub,reduceCtorEq,List.take_length]
      refine hK1 _ ?_
      try simp only [ltb]
      simp only [hz,hwm,hlti,hx,sl,List.length_map,List.getElem?_map,go_sem,reduceIte,reduceAdd,reduceLT,reduceLeDiff,reduceMul,reduceEqDiff,reduceSub,reduceCtorEq,List.take_length]
      refine hK _ _ (by kernel_rfl) ?_
      simp only [mkW,lkF,reduceAdd,reduceEqDiff,if_true,if_false,reduceIte]
      refine ex_if rfl (fun hc46 => ?_) (fun hc46 => ?_)
      ·skip
       refine ex_region_w tt_ok 49 [0,0,2,2] [] (by kernel_rfl) (by kernel_rfl) fun K hK => ?_
       try simp only [ltb]
       try simp only [ltb]
       simp only [hz,hwm,hlti,hx,sl,List.length_map,List.getElem?_map,go_sem,reduceIte,reduceAdd,reduceLT,reduceLeDiff,reduceMul,reduceEqDiff,reduceSub,reduceCtorEq,List.take_length]
       refine hK _ _ (by kernel_rfl) ?_
       simp only [mkW,lkF,reduceAdd,reduceEqDiff,if_true,if_false,reduceIte]
       refine ex_ret ?_
       exact ⟨.inl rfl, _, ⟨_, _, rfl⟩, rfl⟩
      ·skip
       refine ex_skip ?_
       show Go.Eng.Ex _ _ _ _ _ _
       refine ex_last_region_w tt_ok 49 [0,0,0,0,0,0,0,0,0,0,0,0,0,0,0,0,0,0,0,0,0,0,0,0,0,0,0,0,0,0,0,0,0,0,0,2,0,0,0,0,0,0,0,0,0,0,0,2] [] (by kernel_rfl) (by kernel_rfl) (by kernel_rfl) fun K hK => ?_
       try simp only [ltb]
       try simp only [ltb]
       simp only [hz,hwm,hlti,hx,sl,List.length_map,List.getElem?_map,go_sem,reduceIte,reduceAdd,reduceLT,reduceLeDiff,reduceMul,reduceEqDiff,reduceSub,reduceCtorEq,List.take_length]
       refine hK _ _ (by kernel_rfl) ?_
       simp only [mkW,lkF,reduceAdd,reduceEqDiff,if_true,if_false,reduceIte]
       have hwi := i64_succ i (by omega)
       refine ⟨hlti, 0, [false,false,true,true,false,true,false,false,false,false,false,false,false,false,false,false,false,false,false,false,false,false,false,false,false,false,false,false,false,false,false,false,true,true,true,true], by omega, by simp only [maskFr,belowV,belowL,belowB,reduceLT,mkb], by simp only [maskFr,belowV,belowL,belowB,reduceLT,mkb], ?_⟩
       simp only [hwi,maskFr,belowV,belowL,belowB,reduceLT,mkb,List.set_cons_zero,List.set_cons_succ]
     ·skip
      try simp only [ltb]
      simp only [hz,hwm,hlti,hx,sl,List.length_map,List.getElem?_map,go_sem,reduceIte,reduceAdd,reduceLT,reduceLeDiff,reduceMul,reduceEqDiff,reduceSub,reduceCtorEq,List.take_length]
      refine hK _ _ (by kernel_rfl) ?_
      simp only [mkW,lkF,reduceAdd,reduceEqDiff,if_true,if_false,reduceIte]
      refine ex_cond rfl ?_
      refine ex_region_w tt_ok 49 [0,0,2,2] [] (by kernel_rfl) (by kernel_rfl) fun K hK => ?_
      try simp only [ltb]
      try simp only [ltb]
      simp only [hz,hwm,hlti,hx,sl,List.length_map,List.getElem?_map,go_sem,reduceIte,reduceAdd,reduceLT,reduceLeDiff,reduceMul,reduceEqDiff,reduceSub,reduceCtorEq,List.take_length]
      refine hK _ _ (by kernel_rfl) ?_
      simp only [mkW,lkF,reduceAdd,reduceEqDiff,if_true,if_false,reduceIte]
      refine ex_ret ?_
      exact ⟨.inl rfl, _, ⟨_, _, rfl⟩, rfl⟩
    ·skip
     have hgei : ¬ i < (xs.length) := by simpa using hc36
     refine ex_exit ?_
     show Go.Eng.Ex _ _ _ _ _ _
     refine ex_region_w tt_ok 49 [0,0,2,2,0,0,0,0,0,0,0,0,0,0,0,0,0,0,0,0,0,0,0,0,0,0,0,0,0,0,0,0,0,0,0,0,0,0,0,0,0,0,0,0,0,0,0,0,1] [] (by kernel_rfl) (by kernel_rfl) fun K hK => ?_
     try simp only [ltb]
     try simp only [ltb]
     simp only [hz,hwm,sl,List.length_map,List.getElem?_map,go_sem,reduceIte,reduceAdd,reduceLT,reduceLeDiff,reduceMul,reduceEqDiff,reduceSub,reduceCtorEq,List.take_length]
     refine hK _ _ (by kernel_rfl) ?_
     simp only [mkW,lkF,reduceAdd,reduceEqDiff,if_true,if_false,reduceIte]
     refine ex_ret ?_
     exact ⟨.inl rfl, _, ⟨_, _, rfl⟩, rfl⟩
  ·skip
   try simp only [ltb]
   simp only [hz,hwm,sl,List.length_map,List.getElem?_map,go_sem,reduceIte,reduceAdd,reduceLT,reduceLeDiff,reduceMul,reduceEqDiff,reduceSub,reduceCtorEq,List.take_length]
   refine hK _ _ (by kernel_rfl) ?_
   simp only [mkW,lkF,reduceAdd,reduceEqDiff,if_true,if_false,reduceIte]
   refine ex_cond rfl ?_
   refine ex_region_w tt_ok 49 [0,0,2,2] [] (by kernel_rfl) (by kernel_rfl) fun K hK => ?_
   try simp only [ltb]
   try simp only [ltb]
   simp only [hz,hwm,sl,List.length_map,List.getElem?_map,go_sem,reduceIte,reduceAdd,reduceLT,reduceLeDiff,reduceMul,reduceEqDiff,reduceSub,reduceCtorEq,List.take_length]
   refine hK _ _ (by kernel_rfl) ?_
   simp only [mkW,lkF,reduceAdd,reduceEqDiff,if_true,if_false,reduceIte]
   refine ex_ret ?_
   exact ⟨.inl rfl, _, ⟨_, _, rfl⟩, rfl⟩
 ·skip
  refine runX_cut 8 fun K1 hK1 => ?_
  simp only [ltb]
  simp only [hz,hwm,sl,List.length_map,List.getElem?_map,go_sem,reduceIte,reduceAdd,reduceLT,reduceLeDiff,reduceMul,reduceEqDiff,reduceSub,reduceCtorEq,List.take_length]
  refine hK1 _ ?_
  try simp only [ltb]
  simp only [hz,hwm,sl,List.length_map,List.getElem?_map,go_sem,reduceIte,reduceAdd,reduceLT,reduceLeDiff,reduceMul,reduceEqDiff,reduceSub,reduceCtorEq,List.take_length]
  refine hK _ _ (by kernel_rfl) ?_
  simp only [mkW,lkF,reduceAdd,reduceEqDiff,if_true,if_false,reduceIte]
  refine ex_cond rfl ?_
  refine ex_region_w tt_ok 49 [0,0,2,2] [] (by kernel_rfl) (by kernel_rfl) fun K hK => ?_
  try simp only [ltb]
  try simp only [ltb]
  simp only [hz,hwm,sl,List.length_map,List.getElem?_map,go_sem,reduceIte,reduceAdd,reduceLT,reduceLeDiff,reduceMul,reduceEqDiff,reduceSub,reduceCtorEq,List.take_length]
  refine hK _ _ (by kernel_rfl) ?_
  simp only [mkW,lkF,reduceAdd,reduceEqDiff,if_true,if_false,reduceIte]
  refine ex_ret ?_
  exact ⟨.inl rfl, _, ⟨_, _, rfl⟩, rfl⟩
theorem isPath_tot (hG : Glob.g = some 0) (s : ByteArray) (hs : s.size ≤ 1048575) : ∃ r, isB r ∧ FnOk Tryz.prog 111 [str s] r := by
 refine fn_ex tt_ok (fn := Tryz.f111) Tryz.func111 rfl Tryz.call111 ?_
 simp only [startSt,Tryz.ntmps111,List.length_cons,List.length_nil,reduceAdd,reduceSub,List.replicate_succ,List.replicate_zero,List.cons_append,List.nil_append]
 refine ex_region_w tt_ok 12 [0,0,2] [] (by kernel_rfl) (by kernel_rfl) fun K hK => ?_
 try simp only [ltb]
 try simp only [ltb]
 simp only [go_sem,reduceIte,reduceAdd,reduceLT,reduceLeDiff,reduceMul,reduceEqDiff,reduceSub,reduceCtorEq,List.take_length]
 refine hK _ _ (by kernel_rfl) ?_
 simp only [mkW,lkF,reduceAdd,reduceEqDiff,if_true,if_false,reduceIte]
 refine ex_region_w tt_ok 12 [0,0,0,1,2,1,1,1,1,1] [] (by kernel_rfl) (by kernel_rfl) fun K hK => ?_
 try simp only [ltb]
 refine runX_cut 2 fun K1 hK1 => ?_
 simp only [ltb]
 simp only [go_sem,reduceIte,reduceAdd,reduceLT,reduceLeDiff,reduceMul,reduceEqDiff,reduceSub,reduceCtorEq,List.take_length]
 refine callF_ex (major_tot hG s hs) ?_
 rintro _ ⟨a, b0, rfl⟩
 try simp only [go_sem,reduceIte,reduceAdd,reduceLT,reduceLeDiff,reduceMul,reduceEqDiff,reduceSub,reduceCtorEq,List.take_length]
 refine hK1 _ ?_
 try simp only [ltb]
 simp only [go_sem,reduceIte,reduceAdd,reduceLT,reduceLeDiff,reduceMul,reduceEqDiff,reduceSub,reduceCtorEq,List.take_length]
 refine hK _ _ (by kernel_rfl) ?_
 simp only [mkW,lkF,reduceAdd,reduceEqDiff,if_true,if_false,reduceIte]
 refine ex_region_w tt_ok 12 [0,0,2,0,0,0,0,0,0,0,1,1] [] (by kernel_rfl) (by kernel_rfl) fun K hK => ?_
 try simp only [ltb]
 try simp only [ltb]
 simp only [go_sem,reduceIte,reduceAdd,reduceLT,reduceLeDiff,reduceMul,reduceEqDiff,reduceSub,reduceCtorEq,List.take_length]
 refine hK _ _ (by kernel_rfl) ?_
 simp only [mkW,lkF,reduceAdd,reduceEqDiff,if_true,if_false,reduceIte]
 refine ex_ret ?_
 exact ⟨.inl rfl, _, ⟨_, rfl⟩, rfl⟩
theorem module_tot (hG : Glob.g = some 0) (s : ByteArray) (hs : s.size ≤ 1048575) : ∃ r, isB r ∧ FnOk Tryz.prog 96 [str s] r := by
 refine fn_ex tt_ok (fn := Tryz.f96) Tryz.func96 rfl Tryz.call96 ?_
 simp only [startSt,Tryz.ntmps96,List.length_cons,List.length_nil,reduceAdd,reduceSub,List.replicate_succ,List.replicate_zero,List.cons_append,List.nil_append]
 refine ex_region_w tt_ok 13 [0,0,2] [] (by kernel_rfl) (by kernel_rfl) fun K hK => ?_
 try simp only [ltb]
 try simp only [ltb]
 simp only [go_sem,reduceIte,reduceAdd,reduceLT,reduceLeDiff,reduceMul,reduceEqDiff,reduceSub,reduceCtorEq,List.take_length]
 refine hK _ _ (by kernel_rfl) ?_
 simp only [mkW,lkF,reduceAdd,reduceEqDiff,if_true,if_false,reduceIte]
 refine ex_region_w tt_ok 13 [0,0,2,1,1,1,1,1,1,1,1,1,1] [(2, 5), (6, 9)] (by kernel_rfl) (by kernel_rfl) fun K hK => ?_
 try simp only [ltb]
 refine runX_cut 3 fun K1 hK1 => ?_
 simp only [ltb]
 simp only [go_sem,reduceIte,reduceAdd,reduceLT,reduceLeDiff,reduceMul,reduceEqDiff,reduceSub,reduceCtorEq,List.take_length]
 refine hK1 _ ?_
 refine runX_case 5 (by rfl) fun b hb1_2 => ?_
 cases b
 ·skip
  refine runX_cut 2 fun K1 hK1 => ?_
  simp only [ltb]
  simp only [go_sem,reduceIte,reduceAdd,reduceLT,reduceLeDiff,reduceMul,reduceEqDiff,reduceSub,reduceCtorEq,List.take_length]
  refine callF_ex (isName_tot hG s) ?_
  rintro _ ⟨r1, rfl⟩
  try simp only [go_sem,reduceIte,reduceAdd,reduceLT,reduceLeDiff,reduceMul,reduceEqDiff,reduceSub,reduceCtorEq,List.take_length]
  refine hK1 _ ?_
  refine runX_cut 2 fun K1 hK1 => ?_
  simp only [ltb]
  simp only [go_sem,reduceIte,reduceAdd,reduceLT,reduceLeDiff,reduceMul,reduceEqDiff,reduceSub,reduceCtorEq,List.take_length]
  refine hK1 _ ?_
  refine runX_case 9 (by rfl) fun b hb1_6 => ?_
  cases b
  ·skip
   refine runX_cut 2 fun K1 hK1 => ?_
   simp only [ltb]
   simp only [go_sem,reduceIte,reduceAdd,reduceLT,reduceLeDiff,reduceMul,reduceEqDiff,reduceSub,reduceCtorEq,List.take_length]
   refine callF_ex (isPath_tot hG s hs) ?_
   rintro _ ⟨r2, rfl⟩
   try simp only [go_sem,reduceIte,reduceAdd,reduceLT,reduceLeDiff,reduceMul,reduceEqDiff,reduceSub,reduceCtorEq,List.take_length]
   refine hK1 _ ?_
   try simp only [ltb]
   simp only [go_sem,reduceIte,reduceAdd,reduceLT,reduceLeDiff,reduceMul,reduceEqDiff,reduceSub,reduceCtorEq,List.take_length]
   refine hK _ _ (by kernel_rfl) ?_
   simp only [mkW,lkF,reduceAdd,reduceEqDiff,if_true,if_false,reduceIte]
   refine ex_ret ?_
   exact ⟨.inl rfl, _, ⟨_, rfl⟩, rfl⟩
  ·skip
   try simp only [ltb]
   simp only [go_sem,reduceIte,reduceAdd,reduceLT,reduceLeDiff,reduceMul,reduceEqDiff,reduceSub,reduceCtorEq,List.take_length]
   refine hK _ _ (by kernel_rfl) ?_
   simp only [mkW,lkF,reduceAdd,reduceEqDiff,if_true,if_false,reduceIte]
   refine ex_ret ?_
   exact ⟨.inl rfl, _, ⟨_, rfl⟩, rfl⟩
 ·skip
  try simp only [ltb]
  simp only [go_sem,reduceIte,reduceAdd,reduceLT,reduceLeDiff,reduceMul,reduceEqDiff,reduceSub,reduceCtorEq,List.take_length]
  refine hK _ _ (by kernel_rfl) ?_
  simp only [mkW,lkF,reduceAdd,reduceEqDiff,if_true,if_false,reduceIte]
  refine ex_ret ?_
  exact ⟨.inl rfl, _, ⟨_, rfl⟩, rfl⟩
end Go.Proofs.YtpjdfcigadnhcaaGreatDoor
end

section
namespace Go.Proofs.YtpjdfcigadnhcaaGreatDoor
open Go.Eng
open Nat (reduceAdd reduceLT reduceLeDiff reduceMul reduceEqDiff reduceSub)
variable [Glob]
set_option maxHeartbeats 4000000
set_option maxRecDepth 100000
attribute [local irreducible] runM stepM valD stepOp stepD callF
theorem typeNode_tot (hG : Glob.g = some 0) (t : Ty) (hl : t.flds.length ≤ 1048576) (hm : t.mod.size ≤ 1048575) : ∃ r, isN r ∧ FnOk Tryz.prog 56 [encTy t] r := by
 refine fn_ex tt_ok (fn := Tryz.f56) Tryz.func56 rfl Tryz.call56 ?_
 simp only [startSt,Tryz.ntmps56,List.length_cons,List.length_nil,reduceAdd,reduceSub,List.replicate_succ,List.replicate_zero,List.cons_append,List.nil_append]
 simp only [encTy_eq,tyCells]
 have hS := shaped_tot t hl
 rw [encTy_eq] at hS
 simp only [tyCells] at hS
 refine ex_region_w tt_ok 50 [0,2,2] [] (by kernel_rfl) (by kernel_rfl) fun K hK => ?_
 try simp only
 try simp only [ltb]
 simp only [go_sem,reduceLT]
 refine hK _ _ (by kernel_rfl) ?_
 simp only [mkW,lkF,reduceAdd,reduceEqDiff,if_true,if_false]
 refine ex_seq ?_
 refine ex_block ?_
 refine ex_region_w tt_ok 50 [0,0,0,2,1,1,1] [] (by kernel_rfl) (by kernel_rfl) fun K hK => ?_
 try simp only
 refine runX_cut 2 fun K1 hK1 => ?_
 simp only [List.take_succ_cons,List.take_zero]
 simp only [go_sem,reduceAdd,reduceLT]
 refine callF_ex (hS) ?_
 rintro _ ⟨r1, rfl⟩
 try simp only [go_sem]
 refine hK1 _ ?_
 try simp only [List.drop_succ_cons,List.drop_zero]
 simp only [go_sem,reduceLT,reduceEqDiff]
 refine hK _ _ (by kernel_rfl) ?_
 simp only [mkW,lkF,reduceAdd,reduceEqDiff,if_true,if_false]
 refine ex_if rfl (fun hc3 => ?_) (fun hc3 => ?_)
 ·skip
  refine ex_region_w tt_ok 50 [0,0,2] [] (by kernel_rfl) (by kernel_rfl) fun K hK => ?_
  try simp only
  try simp only [ltb]
  simp only [go_sem]
  refine hK _ _ (by kernel_rfl) ?_
  simp only [mkW,lkF,reduceAdd,if_true]
  refine ex_ret ?_
  exact ⟨.inl rfl, _, ⟨_, rfl⟩, rfl⟩
 ·skip
  refine ex_region_w tt_ok 50 [0,0,0,0,0,0,0,2,1,1,1,1,1,1,1,1,1,1] [(4, 12)] (by kernel_rfl) (by kernel_rfl) fun K hK => ?_
  try simp only
  refine runX_cut 5 fun K1 hK1 => ?_
  simp only [List.take_succ_cons,List.take_zero]
  simp only [length_encFds,go_sem,reduceLT,reduceEqDiff]
  refine hK1 _ ?_
  refine runX_case 12 (by rfl) fun b hb3_4 => ?_
  cases b
  ·skip
   try simp only [List.drop_succ_cons,List.drop_zero]
   simp only [length_encTys,go_sem,reduceAdd,reduceLT,reduceLeDiff,reduceEqDiff]
   refine hK _ _ (by kernel_rfl) ?_
   simp only [mkW,lkF,reduceAdd,reduceEqDiff,if_true,if_false]
   refine ex_if rfl (fun hc7 => ?_) (fun hc7 => ?_)
   ·skip
    refine ex_region_w tt_ok 50 [0,0,2] [] (by kernel_rfl) (by kernel_rfl) fun K hK => ?_
    try simp only
    try simp only [ltb]
    simp only [go_sem]
    refine hK _ _ (by kernel_rfl) ?_
    simp only [mkW,lkF,reduceAdd,if_true]
    refine ex_ret ?_
    exact ⟨.inl rfl, _, ⟨_, rfl⟩, rfl⟩
   ·skip
    refine ex_seq ?_
    refine ex_region_w tt_ok 50 [0,0,0,0,0,0,0,0,0,0,0,0,0,0,0,0,0,0,2,1,1,1,1,1,1,1,1,1] [(3, 22)] (by kernel_rfl) (by kernel_rfl) fun K hK => ?_
    try simp only
    refine runX_cut 4 fun K1 hK1 => ?_
    simp only [List.take_succ_cons,List.take_zero]
    simp only [go_sem,reduceAdd,reduceLT,reduceLeDiff,reduceEqDiff]
    refine hK1 _ ?_
    refine runX_case 22 (by rfl) fun b hb5_3 => ?_
    cases b
    ·skip
     try simp only [List.drop_succ_cons,List.drop_zero]
     simp only [go_sem,reduceLT,reduceEqDiff]
     refine hK _ _ (by kernel_rfl) ?_
     simp only [mkW,lkF,reduceAdd,reduceEqDiff,if_true,if_false]
     refine ex_cond rfl ?_
     refine ex_last_region_w tt_ok 50 [0,0,0,0,0,0,0,0,0,0,0,0,0,0,0,0,0,0,2,0,0,0,0,0,0,0,0,0,2,2,2,2,2,2,2,2,2,2,2,2,2,2,2] [(3, 31), (8, 36)] (by kernel_rfl) (by kernel_rfl) (by kernel_rfl) fun K hK => ?_
     try simp only
     refine runX_cut 4 fun K1 hK1 => ?_
     simp only [List.take_succ_cons,List.take_zero]
     simp only [go_sem,reduceAdd,reduceLT,reduceLeDiff,reduceEqDiff]
     refine hK1 _ ?_
     refine runX_case 31 (by rfl) fun b hb6_3 => ?_
     cases b
     ·skip
      refine runX_cut 8 fun K1 hK1 => ?_
      simp only [List.take_succ_cons,List.take_zero,List.drop_succ_cons,List.drop_zero]
      simp only [go_sem,reduceAdd,reduceLT,reduceLeDiff,reduceEqDiff]
      refine hK1 _ ?_
      try simp only [List.drop_succ_cons,List.drop_zero]
      simp only [go_sem,reduceLT,reduceEqDiff]
      refine hK _ _ (by kernel_rfl) ?_
      simp only [mkW,lkF,reduceAdd,reduceEqDiff,if_true,if_false]
      show Go.Eng.Ex _ _ _ _ _ _
      refine ex_cond rfl ?_
      refine ex_region_w tt_ok 50 [0,0,0,0,0,0,0,0,0,0,0,0,0,0,0,0,0,0,0,0,0,0,0,0,0,0,0,0,0,0,0,0,0,0,0,0,0,0,0,0,0,0,0,2,1,1,1] [] (by kernel_rfl) (by kernel_rfl) fun K hK => ?_
      try simp only
      refine runX_cut 3 fun K1 hK1 => ?_
      simp only [List.take_succ_cons,List.take_zero]
      simp only [go_sem,reduceLT,reduceEqDiff]
      refine callF_ex (containsFd_tot 98 t.flds (tnode1_tot hG) hl) ?_
      rintro _ ⟨r2, rfl⟩
      try simp only [go_sem]
      refine hK1 _ ?_
      try simp only [List.drop_succ_cons,List.drop_zero]
      simp only [go_sem,reduceLT,reduceEqDiff]
      refine hK _ _ (by kernel_rfl) ?_
      simp only [mkW,lkF,reduceAdd,reduceEqDiff,if_true,if_false]
      refine ex_if rfl (fun hc43 => ?_) (fun hc43 => ?_)
      ·skip
       refine ex_region_w tt_ok 50 [0,0,2] [] (by kernel_rfl) (by kernel_rfl) fun K hK => ?_
       try simp only
       try simp only [ltb]
       simp only [go_sem]
       refine hK _ _ (by kernel_rfl) ?_
       simp only [mkW,lkF,reduceAdd,if_true]
       refine ex_ret ?_
       exact ⟨.inl rfl, _, ⟨_, rfl⟩, rfl⟩
      ·skip
       refine ex_skip ?_
       show Go.Eng.Ex _ _ _ _ _ _
       refine ex_region_w tt_ok 50 [0,0,2,0,0,0,0,0,0,0,0,0,0,0,0,0,0,0,0,0,0,0,0,0,0,0,0,0,0,0,0,0,0,0,0,0,0,0,0,0,0,0,0,0,0,0,0,1,1,1] [] (by kernel_rfl) (by kernel_rfl) fun K hK => ?_
       try simp only
       refine runX_cut 3 fun K1 hK1 => ?_
       simp only [List.take_succ_cons,List.take_zero]
       simp only [go_sem,reduceLT,reduceEqDiff]
       refine callF_ex (increaseFd_tot 101 t.flds (fun f => let ⟨r, h1, h2⟩ := tnode2_tot f; ⟨r, ⟨_, h1⟩, h2⟩) hl) ?_
       rintro _ ⟨r3, rfl⟩
       try simp only [go_sem]
       refine hK1 _ ?_
       try simp only [List.drop_succ_cons,List.drop_zero]
       simp only [go_sem,reduceLT,reduceEqDiff]
       refine hK _ _ (by kernel_rfl) ?_
       simp only [mkW,lkF,reduceAdd,reduceEqDiff,if_true,if_false]
       refine ex_ret ?_
       exact ⟨.inl rfl, _, ⟨_, rfl⟩, rfl⟩
     ·skip
      refine runX_cut 3 fun K1 hK1 => ?_
      simp only [List.take_succ_cons,List.take_zero,List.drop_succ_cons,List.drop_zero]
      simp only [go_sem,reduceAdd,reduceLT,reduceLeDiff,reduceEqDiff]
      refine callF_ex (module_tot hG t.mod hm) ?_
      rintro _ ⟨r4, rfl⟩
      try simp only [go_sem]
      refine hK1 _ ?_
      refine runX_cut 2 fun K1 hK1 => ?_
      simp only [List.take_succ_cons,List.take_zero,List.drop_succ_cons,List.drop_zero]
      simp only [go_sem,reduceLT,reduceEqDiff]
      refine hK1 _ ?_
      refine runX_case 36 (by rfl) fun b hb6_8 => ?_
      cases b
      ·skip
       refine runX_cut 3 fun K1 hK1 => ?_
       simp only [List.take_succ_cons,List.take_zero,List.drop_succ_cons,List.drop_zero]
       simp only [go_sem,reduceAdd,reduceLT,reduceLeDiff,reduceEqDiff]
       refine callF_ex (isType_tot _) ?_
       rintro _ ⟨r5, rfl⟩
       try simp only [go_sem]
       refine hK1 _ ?_
       try simp only [List.drop_succ_cons,List.drop_zero]
       simp only [go_sem,reduceLT,reduceEqDiff]
       refine hK _ _ (by kernel_rfl) ?_
       simp only [mkW,lkF,reduceAdd,reduceEqDiff,if_true,if_false]
       show Go.Eng.Ex _ _ _ _ _ _
       refine ex_if rfl (fun hc18 => ?_) (fun hc18 => ?_)
       ·skip
        refine ex_region_w tt_ok 50 [0,0,2] [] (by kernel_rfl) (by kernel_rfl) fun K hK => ?_
        try simp only
        try simp only [ltb]
        simp only [go_sem]
        refine hK _ _ (by kernel_rfl) ?_
        simp only [mkW,lkF,reduceAdd,if_true]
        refine ex_ret ?_
        exact ⟨.inl rfl, _, ⟨_, rfl⟩, rfl⟩
       ·skip
        refine ex_region_w tt_ok 50 [0,0,0,0,0,0,0,0,0,0,0,0,0,0,0,0,0,0,0,0,0,0,0,0,0,0,0,0,0,0,0,0,0,0,0,0,0,0,0,0,0,0,0,2,1,1,1] [] (by kernel_rfl) (by kernel_rfl) fun K hK => ?_
        try simp only
        refine runX_cut 3 fun K1 hK1 => ?_
        simp only [List.take_succ_cons,List.take_zero]
        simp only [go_sem,reduceLT,reduceEqDiff]
        refine callF_ex (containsFd_tot 98 t.flds (tnode1_tot hG) hl) ?_
        rintro _ ⟨r6, rfl⟩
        try simp only [go_sem]
        refine hK1 _ ?_
        try simp only [List.drop_succ_cons,List.drop_zero]
        simp only [go_sem,reduceLT,reduceEqDiff]
        refine hK _ _ (by kernel_rfl) ?_
        simp only [mkW,lkF,reduceAdd,reduceEqDiff,if_true,if_false]
        refine ex_if rfl (fun hc43 => ?_) (fun hc43 => ?_)
        ·skip
         refine ex_region_w tt_ok 50 [0,0,2] [] (by kernel_rfl) (by kernel_rfl) fun K hK => ?_
         try simp only
         try simp only [ltb]
         simp only [go_sem]
         refine hK _ _ (by kernel_rfl) ?_
         simp only [mkW,lkF,reduceAdd,if_true]
         refine ex_ret ?_
         exact ⟨.inl rfl, _, ⟨_, rfl⟩, rfl⟩
        ·skip
         refine ex_skip ?_
         show Go.Eng.Ex _ _ _ _ _ _
         refine ex_region_w tt_ok 50 [0,0,2,0,0,0,0,0,0,0,0,0,0,0,0,0,0,0,0,0,0,0,0,0,0,0,0,0,0,0,0,0,0,0,0,0,0,0,0,0,0,0,0,0,0,0,0,1,1,1] [] (by kernel_rfl) (by kernel_rfl) fun K hK => ?_
         try simp only
         refine runX_cut 3 fun K1 hK1 => ?_
         simp only [List.take_succ_cons,List.take_zero]
         simp only [go_sem,reduceLT,reduceEqDiff]
         refine callF_ex (increaseFd_tot 101 t.flds (fun f => let ⟨r, h1, h2⟩ := tnode2_tot f; ⟨r, ⟨_, h1⟩, h2⟩) hl) ?_
         rintro _ ⟨r7, rfl⟩
         try simp only [go_sem]
         refine hK1 _ ?_
         try simp only [List.drop_succ_cons,List.drop_zero]
         simp only [go_sem,reduceLT,reduceEqDiff]
         refine hK _ _ (by kernel_rfl) ?_
         simp only [mkW,lkF,reduceAdd,reduceEqDiff,if_true,if_false]
         refine ex_ret ?_
         exact ⟨.inl rfl, _, ⟨_, rfl⟩, rfl⟩
      ·skip
       try simp only [List.drop_succ_cons,List.drop_zero]
       simp only [go_sem,reduceLT,reduceEqDiff]
       refine hK _ _ (by kernel_rfl) ?_
       simp only [mkW,lkF,reduceAdd,reduceEqDiff,if_true,if_false]
       show Go.Eng.Ex _ _ _ _ _ _
       refine ex_cond rfl ?_
       refine ex_region_w tt_ok 50 [0,0,2] [] (by kernel_rfl) (by kernel_rfl) fun K hK => ?_
       try simp only
       try simp only [ltb]
       simp only [go_sem]
       refine hK _ _ (by kernel_rfl) ?_
       simp only [mkW,lkF,reduceAdd,if_true]
       refine ex_ret ?_
       exact ⟨.inl rfl, _, ⟨_, rfl⟩, rfl⟩
    ·skip
     refine runX_cut 3 fun K1 hK1 => ?_
     simp only [List.take_succ_cons,List.take_zero,List.drop_succ_cons,List.drop_zero]
     simp only [go_sem,reduceAdd,reduceLT,reduceLeDiff,reduceEqDiff]
     refine callF_ex (variable_tot _) ?_
     rintro _ ⟨r8, rfl⟩
     try simp only [go_sem]
     refine hK1 _ ?_
     try simp only [List.drop_succ_cons,List.drop_zero]
     simp only [go_sem,reduceLT,reduceEqDiff]
     refine hK _ _ (by kernel_rfl) ?_
     simp only [mkW,lkF,reduceAdd,reduceEqDiff,if_true,if_false]
     refine ex_if rfl (fun hc18 => ?_) (fun hc18 => ?_)
     ·skip
      refine ex_skip ?_
      show Go.Eng.Ex _ _ _ _ _ _
      refine ex_cond (b := true) (congrArg (fun b => V.sc (Value.bool b)) hc18) ?_
      refine ex_region_w tt_ok 50 [0,0,2] [] (by kernel_rfl) (by kernel_rfl) fun K hK => ?_
      try simp only
      try simp only [ltb]
      simp only [go_sem]
      refine hK _ _ (by kernel_rfl) ?_
      simp only [mkW,lkF,reduceAdd,if_true]
      refine ex_ret ?_
      exact ⟨.inl rfl, _, ⟨_, rfl⟩, rfl⟩
     ·skip
      refine ex_last_region_w tt_ok 50 [0,0,0,0,0,0,0,0,0,0,0,0,0,0,0,0,0,0,2,0,0,0,0,0,0,0,0,0,2,2,2,2,2,2,2,2,2,2,2,2,2,2,2] [(3, 31), (8, 36)] (by kernel_rfl) (by kernel_rfl) (by kernel_rfl) fun K hK => ?_
      try simp only
      refine runX_cut 4 fun K1 hK1 => ?_
      simp only [List.take_succ_cons,List.take_zero]
      simp only [go_sem,reduceAdd,reduceLT,reduceLeDiff,reduceEqDiff]
      refine hK1 _ ?_
      refine runX_case 31 (by rfl) fun b hb6_3 => ?_
      cases b
      ·skip
       refine runX_cut 8 fun K1 hK1 => ?_
       simp only [List.take_succ_cons,List.take_zero,List.drop_succ_cons,List.drop_zero]
       simp only [go_sem,reduceAdd,reduceLT,reduceLeDiff,reduceEqDiff]
       refine hK1 _ ?_
       try simp only [List.drop_succ_cons,List.drop_zero]
       simp only [go_sem,reduceLT,reduceEqDiff]
       refine hK _ _ (by kernel_rfl) ?_
       simp only [mkW,lkF,reduceAdd,reduceEqDiff,if_true,if_false]
       show Go.Eng.Ex _ _ _ _ _ _
       refine ex_cond rfl ?_
       refine ex_region_w tt_ok 50 [0,0,0,0,0,0,0,0,0,0,0,0,0,0,0,0,0,0,0,0,0,0,0,0,0,0,0,0,0,0,0,0,0,0,0,0,0,0,0,0,0,0,0,2,1,1,1] [] (by kernel_rfl) (by kernel_rfl) fun K hK => ?_
       try simp only
       refine runX_cut 3 fun K1 hK1 => ?_
       simp only [List.take_succ_cons,List.take_zero]
       simp only [go_sem,reduceLT,reduceEqDiff]
       refine callF_ex (containsFd_tot 98 t.flds (tnode1_tot hG) hl) ?_
       rintro _ ⟨r9, rfl⟩
       try simp only [go_sem]
       refine hK1 _ ?_
       try simp only [List.drop_succ_cons,List.drop_zero]
       simp only [go_sem,reduceLT,reduceEqDiff]
       refine hK _ _ (by kernel_rfl) ?_
       simp only [mkW,lkF,reduceAdd,reduceEqDiff,if_true,if_false]
       refine ex_if rfl (fun hc43 => ?_) (fun hc43 => ?_)
       ·skip
        refine ex_region_w tt_ok 50 [0,0,2] [] (by kernel_rfl) (by kernel_rfl) fun K hK => ?_
        try simp only
        try simp only [ltb]
        simp only [go_sem]
        refine hK _ _ (by kernel_rfl) ?_
        simp only [mkW,lkF,reduceAdd,if_true]
        refine ex_ret ?_
        exact ⟨.inl rfl, _, ⟨_, rfl⟩, rfl⟩
       ·skip
        refine ex_skip ?_
        show Go.Eng.Ex _ _ _ _ _ _
        refine ex_region_w tt_ok 50 [0,0,2,0,0,0,0,0,0,0,0,0,0,0,0,0,0,0,0,0,0,0,0,0,0,0,0,0,0,0,0,0,0,0,0,0,0,0,0,0,0,0,0,0,0,0,0,1,1,1] [] (by kernel_rfl) (by kernel_rfl) fun K hK => ?_
        try simp only
        refine runX_cut 3 fun K1 hK1 => ?_
        simp only [List.take_succ_cons,List.take_zero]
        simp only [go_sem,reduceLT,reduceEqDiff]
        refine callF_ex (increaseFd_tot 101 t.flds (fun f => let ⟨r, h1, h2⟩ := tnode2_tot f; ⟨r, ⟨_, h1⟩, h2⟩) hl) ?_
        rintro _ ⟨r10, rfl⟩
        try simp only [go_sem]
        refine hK1 _ ?_
        try simp only [List.drop_succ_cons,List.drop_zero]
        simp only [go_sem,reduceLT,reduceEqDiff]
        refine hK _ _ (by kernel_rfl) ?_
        simp only [mkW,lkF,reduceAdd,reduceEqDiff,if_true,if_false]
        refine ex_ret ?_
        exact ⟨.inl rfl, _, ⟨_, rfl⟩, rfl⟩
      ·skip
       refine runX_cut 3 fun K1 hK1 => ?_
       simp only [List.take_succ_cons,List.take_zero,List.drop_succ_cons,List.drop_zero]
       simp only [go_sem,reduceAdd,reduceLT,reduceLeDiff,reduceEqDiff]
       refine callF_ex (module_tot hG t.mod hm) ?_
       rintro _ ⟨r11, rfl⟩
       try simp only [go_sem]
       refine hK1 _ ?_
       refine runX_cut 2 fun K1 hK1 => ?_
       simp only [List.take_succ_cons,List.take_zero,List.drop_succ_cons,List.drop_zero]
       simp only [go_sem,reduceLT,reduceEqDiff]
       refine hK1 _ ?_
       refine runX_case 36 (by rfl) fun b hb6_8 => ?_
       cases b
       ·skip
        refine runX_cut 3 fun K1 hK1 => ?_
        simp only [List.take_succ_cons,List.take_zero,List.drop_succ_cons,List.drop_zero]
        simp only [go_sem,reduceAdd,reduceLT,reduceLeDiff,reduceEqDiff]
        refine callF_ex (isType_tot _) ?_
        rintro _ ⟨r12, rfl⟩
        try simp only [go_sem]
        refine hK1 _ ?_
        try simp only [List.drop_succ_cons,List.drop_zero]
        simp only [go_sem,reduceLT,reduceEqDiff]
        refine hK _ _ (by kernel_rfl) ?_
        simp only [mkW,lkF,reduceAdd,reduceEqDiff,if_true,if_false]
        show Go.Eng.Ex _ _ _ _ _ _
        refine ex_if rfl (fun hc18 => ?_) (fun hc18 => ?_)
        ·skip
         refine ex_region_w tt_ok 50 [0,0,2] [] (by kernel_rfl) (by kernel_rfl) fun K hK => ?_
         try simp only
         try simp only [ltb]
         simp only [go_sem]
         refine hK _ _ (by kernel_rfl) ?_
         simp only [mkW,lkF,reduceAdd,if_true]
         refine ex_ret ?_
         exact ⟨.inl rfl, _, ⟨_, rfl⟩, rfl⟩
        ·skip
         refine ex_region_w tt_ok 50 [0,0,0,0,0,0,0,0,0,0,0,0,0,0,0,0,0,0,0,0,0,0,0,0,0,0,0,0,0,0,0,0,0,0,0,0,0,0,0,0,0,0,0,2,1,1,1] [] (by kernel_rfl) (by kernel_rfl) fun K hK => ?_
         try simp only
         refine runX_cut 3 fun K1 hK1 => ?_
         simp only [List.take_succ_cons,List.take_zero]
         simp only [go_sem,reduceLT,reduceEqDiff]
         refine callF_ex (containsFd_tot 98 t.flds (tnode1_tot hG) hl) ?_
         rintro _ ⟨r13, rfl⟩
         try simp only [go_sem]
         refine hK1 _ ?_
         try simp only [List.drop_succ_cons,List.drop_zero]
         simp only [go_sem,reduceLT,reduceEqDiff]
         refine hK _ _ (by kernel_rfl) ?_
         simp only [mkW,lkF,reduceAdd,reduceEqDiff,if_true,if_false]
         refine ex_if rfl (fun hc43 => ?_) (fun hc43 => ?_)
         ·skip
          refine ex_region_w tt_ok 50 [0,0,2] [] (by kernel_rfl) (by kernel_rfl) fun K hK => ?_
          try simp only
          try simp only [ltb]
          simp only [go_sem]
          refine hK _ _ (by kernel_rfl) ?_
          simp only [mkW,lkF,reduceAdd,if_true]
          refine ex_ret ?_
          exact ⟨.inl rfl, _, ⟨_, rfl⟩, rfl⟩
         ·skip
          refine ex_skip ?_
          show Go.Eng.Ex _ _ _ _ _ _
          refine ex_region_w tt_ok 50 [0,0,2,0,0,0,0,0,0,0,0,0,0,0,0,0,0,0,0,0,0,0,0,0,0,0,0,0,0,0,0,0,0,0,0,0,0,0,0,0,0,0,0,0,0,0,0,1,1,1] [] (by kernel_rfl) (by kernel_rfl) fun K hK => ?_
          try simp only
          refine runX_cut 3 fun K1 hK1 => ?_
          simp only [List.take_succ_cons,List.take_zero]
          simp only [go_sem,reduceLT,reduceEqDiff]
          refine callF_ex (increaseFd_tot 101 t.flds (fun f => let ⟨r, h1, h2⟩ := tnode2_tot f; ⟨r, ⟨_, h1⟩, h2⟩) hl) ?_
          rintro _ ⟨r14, rfl⟩
          try simp only [go_sem]
          refine hK1 _ ?_
          try simp only [List.drop_succ_cons,List.drop_zero]
          simp only [go_sem,reduceLT,reduceEqDiff]
          refine hK _ _ (by kernel_rfl) ?_
          simp only [mkW,lkF,reduceAdd,reduceEqDiff,if_true,if_false]
          refine ex_ret ?_
          exact ⟨.inl rfl, _, ⟨_, rfl⟩, rfl⟩
       ·skip
        try simp only [List.drop_succ_cons,List.drop_zero]
        simp only [go_sem,reduceLT,reduceEqDiff]
        refine hK _ _ (by kernel_rfl) ?_
        simp only [mkW,lkF,reduceAdd,reduceEqDiff,if_true,if_false]
        show Go.Eng.Ex _ _ _ _ _ _
        refine ex_cond rfl ?_
        refine ex_region_w tt_ok 50 [0,0,2] [] (by kernel_rfl) (by kernel_rfl) fun K hK => ?_
        try simp only
        try simp only [ltb]
        simp only [go_sem]
        refine hK _ _ (by kernel_rfl) ?_
        simp only [mkW,lkF,reduceAdd,if_true]
        refine ex_ret ?_
        exact ⟨.inl rfl, _, ⟨_, rfl⟩, rfl⟩
  ·skip
   try simp only [List.drop_succ_cons,List.drop_zero]
   simp only [go_sem,reduceLT,reduceEqDiff]
   refine hK _ _ (by kernel_rfl) ?_
   simp only [mkW,lkF,reduceAdd,reduceEqDiff,if_true,if_false]
   refine ex_cond rfl ?_
   refine ex_region_w tt_ok 50 [0,0,2] [] (by kernel_rfl) (by kernel_rfl) fun K hK => ?_
   try simp only
   try simp only [ltb]
   simp only [go_sem]
   refine hK _ _ (by kernel_rfl) ?_
   simp only [mkW,lkF,reduceAdd,if_true]
   refine ex_ret ?_
   exact ⟨.inl rfl, _, ⟨_, rfl⟩, rfl⟩
end Go.Proofs.YtpjdfcigadnhcaaGreatDoor
end

section
namespace Go.Proofs.YtpjdfcigadnhcaaGreatDoor
open Go.Eng
open Nat (reduceAdd reduceLT reduceLeDiff reduceMul reduceEqDiff reduceSub)
variable [Glob]
set_option maxHeartbeats 4000000
set_option maxRecDepth 100000
attribute [local irreducible] runM stepM valD stepOp stepD callF callS
theorem fits_tot (hG : Glob.g = some 0) (x : Ex) (fl : ByteArray) (ty kd : Int) (lb : Bool) (hf : fl.size ≤ 1048576) (hl : x.labels.length ≤ 1048576) : ∃ r, isB r ∧ FnOk Tryz.prog 102 [encEx x, .agg [str fl, num ty, bl lb, num kd]] r := by
 refine fn_ex tt_ok (fn := Tryz.f102) Tryz.func102 rfl Tryz.call102 ?_
 simp only [startSt,Tryz.ntmps102,List.length_cons,List.length_nil,reduceAdd,reduceSub,List.replicate_succ,List.replicate_zero,List.cons_append,List.nil_append]
 simp only [encEx_eq,exCells]
 refine ex_region_w tt_ok 100 [0,0,2,2,2] [] (by kernel_rfl) (by kernel_rfl) fun K hK => ?_
 try simp only [ltb]
 try simp only [ltb]
 simp only [length_encTys,length_encExs,List.length_map,tt134,go_sem,reduceIte,reduceAdd,reduceLT,reduceLeDiff,reduceMul,reduceEqDiff,reduceSub,reduceCtorEq,List.take_length]
 refine hK _ _ (by kernel_rfl) ?_
 simp only [mkW,lkF,reduceAdd,reduceEqDiff,if_true,if_false,reduceIte]
 refine ex_region_w tt_ok 100 [0,0,0,0,0,2,0,1] [] (by kernel_rfl) (by kernel_rfl) fun K hK => ?_
 try simp only [ltb]
 try simp only [ltb]
 simp only [length_encTys,length_encExs,List.length_map,tt134,go_sem,reduceIte,reduceAdd,reduceLT,reduceLeDiff,reduceMul,reduceEqDiff,reduceSub,reduceCtorEq,List.take_length]
 refine hK _ _ (by kernel_rfl) ?_
 simp only [mkW,lkF,reduceAdd,reduceEqDiff,if_true,if_false,reduceIte]
 refine ex_region_w tt_ok 100 [0,0,0,0,0,0,2,0,1,1,1] [] (by kernel_rfl) (by kernel_rfl) fun K hK => ?_
 try simp only [ltb]
 refine runX_cut 3 fun K1 hK1 => ?_
 simp only [ltb]
 simp only [length_encTys,length_encExs,List.length_map,tt134,go_sem,reduceIte,reduceAdd,reduceLT,reduceLeDiff,reduceMul,reduceEqDiff,reduceSub,reduceCtorEq,List.take_length]
 refine callF_ex (by have h := kids_tot x fl ty kd lb hl; rw [encEx_eq] at h; simp only [exCells] at h; exact h) ?_
 rintro _ ⟨r1, rfl⟩
 try simp only [length_encTys,length_encExs,List.length_map,tt134,go_sem,reduceIte,reduceAdd,reduceLT,reduceLeDiff,reduceMul,reduceEqDiff,reduceSub,reduceCtorEq,List.take_length]
 refine hK1 _ ?_
 try simp only [ltb]
 simp only [length_encTys,length_encExs,List.length_map,tt134,go_sem,reduceIte,reduceAdd,reduceLT,reduceLeDiff,reduceMul,reduceEqDiff,reduceSub,reduceCtorEq,List.take_length]
 refine hK _ _ (by kernel_rfl) ?_
 simp only [mkW,lkF,reduceAdd,reduceEqDiff,if_true,if_false,reduceIte]
 refine ex_seq ?_
 refine ex_block ?_
 refine ex_seq ?_
 refine ex_seq_joinK [11] 3 [true,true,true,true,true,true,true,true,true,true,true,true] (fun vs => ∃ b : Bool, vs = [bl b]) ?_ ?_
 ·skip
  refine ex_last_region_w tt_ok 100 [0,0,0,0,0,0,0,0,0,0,0,2,2,2,2,2,2,2,2,2] [(3, 15)] (by kernel_rfl) (by kernel_rfl) (by kernel_rfl) fun K hK => ?_
  try simp only [ltb]
  refine runX_cut 4 fun K1 hK1 => ?_
  simp only [ltb]
  simp only [length_encTys,length_encExs,List.length_map,tt134,go_sem,reduceIte,reduceAdd,reduceLT,reduceLeDiff,reduceMul,reduceEqDiff,reduceSub,reduceCtorEq,List.take_length]
  refine hK1 _ ?_
  refine runX_case 15 (by rfl) fun b hb3_3 => ?_
  cases b
  ·skip
   try simp only [ltb]
   simp only [length_encTys,length_encExs,List.length_map,tt134,go_sem,reduceIte,reduceAdd,reduceLT,reduceLeDiff,reduceMul,reduceEqDiff,reduceSub,reduceCtorEq,List.take_length]
   refine hK _ _ (by kernel_rfl) ?_
   simp only [mkW,lkF,reduceAdd,reduceEqDiff,if_true,if_false,reduceIte]
   refine ⟨[_], ?_, 3, [true,true,true,true,true,true,true,true,true,true,true,true], by omega, by simp only [maskFr,belowV,belowL,belowB,reduceLT,mkb], by simp only [maskFr,belowV,belowL,belowB,reduceLT,mkb], by simp only [maskFr,belowV,belowL,belowB,reduceLT,mkb,putAll,List.set_cons_zero,List.set_cons_succ]; rfl⟩
   exact ⟨_, rfl⟩
  ·skip
   refine runX_cut 2 fun K1 hK1 => ?_
   simp only [ltb]
   simp only [length_encTys,length_encExs,List.length_map,tt134,go_sem,reduceIte,reduceAdd,reduceLT,reduceLeDiff,reduceMul,reduceEqDiff,reduceSub,reduceCtorEq,List.take_length]
   refine callS_ex (has_tot hG _ (rfl) 1 fl ty kd lb rfl _ (by decide) hf) ?_
   rintro _ ⟨r2, rfl⟩
   try simp only [length_encTys,length_encExs,List.length_map,tt134,go_sem,reduceIte,reduceAdd,reduceLT,reduceLeDiff,reduceMul,reduceEqDiff,reduceSub,reduceCtorEq,List.take_length]
   refine hK1 _ ?_
   try simp only [ltb]
   simp only [length_encTys,length_encExs,List.length_map,tt134,go_sem,reduceIte,reduceAdd,reduceLT,reduceLeDiff,reduceMul,reduceEqDiff,reduceSub,reduceCtorEq,List.take_length]
   refine hK _ _ (by kernel_rfl) ?_
   simp only [mkW,lkF,reduceAdd,reduceEqDiff,if_true,if_false,reduceIte]
   refine ⟨[_], ?_, 3, [true,true,true,true,true,true,true,true,true,true,true,true], by omega, by simp only [maskFr,belowV,belowL,belowB,reduceLT,mkb], by simp only [maskFr,belowV,belowL,belowB,reduceLT,mkb], by simp only [maskFr,belowV,belowL,belowB,reduceLT,mkb,putAll,List.set_cons_zero,List.set_cons_succ]; rfl⟩
   exact ⟨_, rfl⟩
 ·intro vs hJ
  obtain ⟨b11, rfl⟩ := hJ
  simp only [maskFr,belowV,belowL,belowB,reduceLT,mkb,putAll,List.set_cons_zero,List.set_cons_succ]
  refine ex_if rfl (fun hc11 => ?_) (fun hc11 => ?_)
  ·skip
   refine ex_skip ?_
   show Go.Eng.Ex _ _ _ _ _ _
   refine ex_cond (b := true) (congrArg (fun b => V.sc (Value.bool b)) hc11) ?_
   refine ex_region_w tt_ok 100 [0,0,0,0,2] [] (by kernel_rfl) (by kernel_rfl) fun K hK => ?_
   try simp only [ltb]
   try simp only [ltb]
   simp only [length_encTys,length_encExs,List.length_map,tt134,go_sem,reduceIte,reduceAdd,reduceLT,reduceLeDiff,reduceMul,reduceEqDiff,reduceSub,reduceCtorEq,List.take_length]
   refine hK _ _ (by kernel_rfl) ?_
   simp only [mkW,lkF,reduceAdd,reduceEqDiff,if_true,if_false,reduceIte]
   refine ex_ret ?_
   exact ⟨.inl rfl, _, ⟨_, rfl⟩, rfl⟩
  ·skip
   refine ex_seq_joinK [11] 3 [true,true,true,true,true,true,true,true,true,true,true,true,true,true,true,true,true,true,true,true] (fun vs => ∃ b : Bool, vs = [bl b]) ?_ ?_
   ·skip
    refine ex_last_region_w tt_ok 100 [0,0,0,0,0,0,0,0,0,0,0,2,0,0,0,0,0,0,0,0,2,2,2,2,2,2,2,2] [(3, 23)] (by kernel_rfl) (by kernel_rfl) (by kernel_rfl) fun K hK => ?_
    try simp only [ltb]
    refine runX_cut 4 fun K1 hK1 => ?_
    simp only [ltb]
    simp only [length_encTys,length_encExs,List.length_map,tt134,go_sem,reduceIte,reduceAdd,reduceLT,reduceLeDiff,reduceMul,reduceEqDiff,reduceSub,reduceCtorEq,List.take_length]
    refine hK1 _ ?_
    refine runX_case 23 (by rfl) fun b hb4_3 => ?_
    cases b
    ·skip
     try simp only [ltb]
     simp only [length_encTys,length_encExs,List.length_map,tt134,go_sem,reduceIte,reduceAdd,reduceLT,reduceLeDiff,reduceMul,reduceEqDiff,reduceSub,reduceCtorEq,List.take_length]
     refine hK _ _ (by kernel_rfl) ?_
     simp only [mkW,lkF,reduceAdd,reduceEqDiff,if_true,if_false,reduceIte]
     refine ⟨[_], ?_, 3, [true,true,true,true,true,true,true,true,true,true,true,true,true,true,true,true,true,true,true,true], by omega, by simp only [maskFr,belowV,belowL,belowB,reduceLT,mkb], by simp only [maskFr,belowV,belowL,belowB,reduceLT,mkb], by simp only [maskFr,belowV,belowL,belowB,reduceLT,mkb,putAll,List.set_cons_zero,List.set_cons_succ]; rfl⟩
     exact ⟨_, rfl⟩
    ·skip
     refine runX_cut 2 fun K1 hK1 => ?_
     simp only [ltb]
     simp only [length_encTys,length_encExs,List.length_map,tt134,go_sem,reduceIte,reduceAdd,reduceLT,reduceLeDiff,reduceMul,reduceEqDiff,reduceSub,reduceCtorEq,List.take_length]
     refine callS_ex (has_tot hG _ (rfl) 1 fl ty kd lb rfl _ (by decide) hf) ?_
     rintro _ ⟨r3, rfl⟩
     try simp only [length_encTys,length_encExs,List.length_map,tt134,go_sem,reduceIte,reduceAdd,reduceLT,reduceLeDiff,reduceMul,reduceEqDiff,reduceSub,reduceCtorEq,List.take_length]
     refine hK1 _ ?_
     try simp only [ltb]
     simp only [length_encTys,length_encExs,List.length_map,tt134,go_sem,reduceIte,reduceAdd,reduceLT,reduceLeDiff,reduceMul,reduceEqDiff,reduceSub,reduceCtorEq,List.take_length]
     refine hK _ _ (by kernel_rfl) ?_
     simp only [mkW,lkF,reduceAdd,reduceEqDiff,if_true,if_false,reduceIte]
     refine ⟨[_], ?_, 3, [true,true,true,true,true,true,true,true,true,true,true,true,true,true,true,true,true,true,true,true], by omega, by simp only [maskFr,belowV,belowL,belowB,reduceLT,mkb], by simp only [maskFr,belowV,belowL,belowB,reduceLT,mkb], by simp only [maskFr,belowV,belowL,belowB,reduceLT,mkb,putAll,List.set_cons_zero,List.set_cons_succ]; rfl⟩
     exact ⟨_, rfl⟩
   ·intro vs hJ
    obtain ⟨b11, rfl⟩ := hJ
    simp only [maskFr,belowV,belowL,belowB,reduceLT,mkb,putAll,List.set_cons_zero,List.set_cons_succ]
    refine ex_if rfl (fun hc11 => ?_) (fun hc11 => ?_)
    ·skip
     refine ex_skip ?_
     show Go.Eng.Ex _ _ _ _ _ _
     refine ex_cond (b := true) (congrArg (fun b => V.sc (Value.bool b)) hc11) ?_
     refine ex_region_w tt_ok 100 [0,0,0,0,2] [] (by kernel_rfl) (by kernel_rfl) fun K hK => ?_
     try simp only [ltb]
     try simp only [ltb]
     simp only [length_encTys,length_encExs,List.length_map,tt134,go_sem,reduceIte,reduceAdd,reduceLT,reduceLeDiff,reduceMul,reduceEqDiff,reduceSub,reduceCtorEq,List.take_length]
     refine hK _ _ (by kernel_rfl) ?_
     simp only [mkW,lkF,reduceAdd,reduceEqDiff,if_true,if_false,reduceIte]
     refine ex_ret ?_
     exact ⟨.inl rfl, _, ⟨_, rfl⟩, rfl⟩
    ·skip
     refine ex_seq_joinK [11] 3 [true,true,true,true,true,true,true,true,true,true,true,true,true,true,true,true,true,true,true,true,true,true,true,true,true,true,true,true] (fun vs => ∃ b : Bool, vs = [bl b]) ?_ ?_
     ·skip
      refine ex_last_region_w tt_ok 100 [0,0,0,0,0,0,0,0,0,0,0,2,0,0,0,0,0,0,0,0,0,0,0,0,0,0,0,0,2,2,2,2,2,2,2,2] [(3, 31)] (by kernel_rfl) (by kernel_rfl) (by kernel_rfl) fun K hK => ?_
      try simp only [ltb]
      refine runX_cut 4 fun K1 hK1 => ?_
      simp only [ltb]
      simp only [length_encTys,length_encExs,List.length_map,tt134,go_sem,reduceIte,reduceAdd,reduceLT,reduceLeDiff,reduceMul,reduceEqDiff,reduceSub,reduceCtorEq,List.take_length]
      refine hK1 _ ?_
      refine runX_case 31 (by rfl) fun b hb5_3 => ?_
      cases b
      ·skip
       try simp only [ltb]
       simp only [length_encTys,length_encExs,List.length_map,tt134,go_sem,reduceIte,reduceAdd,reduceLT,reduceLeDiff,reduceMul,reduceEqDiff,reduceSub,reduceCtorEq,List.take_length]
       refine hK _ _ (by kernel_rfl) ?_
       simp only [mkW,lkF,reduceAdd,reduceEqDiff,if_true,if_false,reduceIte]
       refine ⟨[_], ?_, 3, [true,true,true,true,true,true,true,true,true,true,true,true,true,true,true,true,true,true,true,true,true,true,true,true,true,true,true,true], by omega, by simp only [maskFr,belowV,belowL,belowB,reduceLT,mkb], by simp only [maskFr,belowV,belowL,belowB,reduceLT,mkb], by simp only [maskFr,belowV,belowL,belowB,reduceLT,mkb,putAll,List.set_cons_zero,List.set_cons_succ]; rfl⟩
       exact ⟨_, rfl⟩
      ·skip
       refine runX_cut 2 fun K1 hK1 => ?_
       simp only [ltb]
       simp only [length_encTys,length_encExs,List.length_map,tt134,go_sem,reduceIte,reduceAdd,reduceLT,reduceLeDiff,reduceMul,reduceEqDiff,reduceSub,reduceCtorEq,List.take_length]
       refine callS_ex (has_tot hG _ (rfl) 1 fl ty kd lb rfl _ (by decide) hf) ?_
       rintro _ ⟨r4, rfl⟩
       try simp only [length_encTys,length_encExs,List.length_map,tt134,go_sem,reduceIte,reduceAdd,reduceLT,reduceLeDiff,reduceMul,reduceEqDiff,reduceSub,reduceCtorEq,List.take_length]
       refine hK1 _ ?_
       try simp only [ltb]
       simp only [length_encTys,length_encExs,List.length_map,tt134,go_sem,reduceIte,reduceAdd,reduceLT,reduceLeDiff,reduceMul,reduceEqDiff,reduceSub,reduceCtorEq,List.take_length]
       refine hK _ _ (by kernel_rfl) ?_
       simp only [mkW,lkF,reduceAdd,reduceEqDiff,if_true,if_false,reduceIte]
       refine ⟨[_], ?_, 3, [true,true,true,true,true,true,true,true,true,true,true,true,true,true,true,true,true,true,true,true,true,true,true,true,true,true,true,true], by omega, by simp only [maskFr,belowV,belowL,belowB,reduceLT,mkb], by simp only [maskFr,belowV,belowL,belowB,reduceLT,mkb], by simp only [maskFr,belowV,belowL,belowB,reduceLT,mkb,putAll,List.set_cons_zero,List.set_cons_succ]; rfl⟩
       exact ⟨_, rfl⟩
     ·intro vs hJ
      obtain ⟨b11, rfl⟩ := hJ
      simp only [maskFr,belowV,belowL,belowB,reduceLT,mkb,putAll,List.set_cons_zero,List.set_cons_succ]
      refine ex_if rfl (fun hc11 => ?_) (fun hc11 => ?_)
      ·skip
       refine ex_skip ?_
       show Go.Eng.Ex _ _ _ _ _ _
       refine ex_cond (b := true) (congrArg (fun b => V.sc (Value.bool b)) hc11) ?_
       refine ex_region_w tt_ok 100 [0,0,0,0,2] [] (by kernel_rfl) (by kernel_rfl) fun K hK => ?_
       try simp only [ltb]
       try simp only [ltb]
       simp only [length_encTys,length_encExs,List.length_map,tt134,go_sem,reduceIte,reduceAdd,reduceLT,reduceLeDiff,reduceMul,reduceEqDiff,reduceSub,reduceCtorEq,List.take_length]
       refine hK _ _ (by kernel_rfl) ?_
       simp only [mkW,lkF,reduceAdd,reduceEqDiff,if_true,if_false,reduceIte]
       refine ex_ret ?_
       exact ⟨.inl rfl, _, ⟨_, rfl⟩, rfl⟩
      ·skip
       refine ex_last_region_w tt_ok 100 [0,0,0,0,0,0,0,0,0,0,0,2,0,0,0,0,0,0,0,0,0,0,0,0,0,0,0,0,0,0,0,0,0,0,0,0,2,2,2,2,2,2,2,2] [(3, 39)] (by kernel_rfl) (by kernel_rfl) (by kernel_rfl) fun K hK => ?_
       try simp only [ltb]
       refine runX_cut 4 fun K1 hK1 => ?_
       simp only [ltb]
       simp only [length_encTys,length_encExs,List.length_map,tt134,go_sem,reduceIte,reduceAdd,reduceLT,reduceLeDiff,reduceMul,reduceEqDiff,reduceSub,reduceCtorEq,List.take_length]
       refine hK1 _ ?_
       refine runX_case 39 (by rfl) fun b hb6_3 => ?_
       cases b
       ·skip
        try simp only [ltb]
        simp only [length_encTys,length_encExs,List.length_map,tt134,go_sem,reduceIte,reduceAdd,reduceLT,reduceLeDiff,reduceMul,reduceEqDiff,reduceSub,reduceCtorEq,List.take_length]
        refine hK _ _ (by kernel_rfl) ?_
        simp only [mkW,lkF,reduceAdd,reduceEqDiff,if_true,if_false,reduceIte]
        show Go.Eng.Ex _ _ _ _ _ _
        refine ex_cond rfl ?_
        refine ex_seq ?_
        refine ex_seq_joinK [44] 3 [true,true,true,true,true,true,true,true,true,true,true,true,true,true,true,true,true,true,true,true,true,true,true,true,true,true,true,true,true,true,true,true,true,true,true,true,true,true,true,true,true,true,true,true,true] (fun vs => ∃ b : Bool, vs = [bl b]) ?_ ?_
        ·skip
         refine ex_last_region_w tt_ok 100 [0,0,0,0,0,0,0,0,0,0,0,0,0,0,0,0,0,0,0,0,0,0,0,0,0,0,0,0,0,0,0,0,0,0,0,0,0,0,0,0,0,0,0,0,2,2,2,2,2,2,2,2,2,2,2,2,2,2] [(3, 48), (8, 53)] (by kernel_rfl) (by kernel_rfl) (by kernel_rfl) fun K hK => ?_
         try simp only [ltb]
         refine runX_cut 4 fun K1 hK1 => ?_
         simp only [ltb]
         simp only [length_encTys,length_encExs,List.length_map,tt134,go_sem,reduceIte,reduceAdd,reduceLT,reduceLeDiff,reduceMul,reduceEqDiff,reduceSub,reduceCtorEq,List.take_length]
         refine hK1 _ ?_
         refine runX_case 48 (by rfl) fun b hb8_3 => ?_
         cases b
         ·skip
          refine runX_cut 8 fun K1 hK1 => ?_
          simp only [ltb]
          simp only [length_encTys,length_encExs,List.length_map,tt134,go_sem,reduceIte,reduceAdd,reduceLT,reduceLeDiff,reduceMul,reduceEqDiff,reduceSub,reduceCtorEq,List.take_length]
          refine hK1 _ ?_
          try simp only [ltb]
          simp only [length_encTys,length_encExs,List.length_map,tt134,go_sem,reduceIte,reduceAdd,reduceLT,reduceLeDiff,reduceMul,reduceEqDiff,reduceSub,reduceCtorEq,List.take_length]
          refine hK _ _ (by kernel_rfl) ?_
          simp only [mkW,lkF,reduceAdd,reduceEqDiff,if_true,if_false,reduceIte]
          refine ⟨[_], ?_, 3, [true,true,true,true,true,true,true,true,true,true,true,true,true,true,true,true,true,true,true,true,true,true,true,true,true,true,true,true,true,true,true,true,true,true,true,true,true,true,true,true,true,true,true,true,true], by omega, by simp only [maskFr,belowV,belowL,belowB,reduceLT,mkb], by simp only [maskFr,belowV,belowL,belowB,reduceLT,mkb], by simp only [maskFr,belowV,belowL,belowB,reduceLT,mkb,putAll,List.set_cons_zero,List.set_cons_succ]; rfl⟩
          exact ⟨_, rfl⟩
         ·skip
          refine runX_cut 5 fun K1 hK1 => ?_
          simp only [ltb]
          simp only [length_encTys,length_encExs,List.length_map,tt134,go_sem,reduceIte,reduceAdd,reduceLT,reduceLeDiff,reduceMul,reduceEqDiff,reduceSub,reduceCtorEq,List.take_length]
          refine hK1 _ ?_
          refine runX_case 53 (by rfl) fun b hb8_8 => ?_
          cases b
          ·skip
           try simp only [ltb]
           simp only [length_encTys,length_encExs,List.length_map,tt134,go_sem,reduceIte,reduceAdd,reduceLT,reduceLeDiff,reduceMul,reduceEqDiff,reduceSub,reduceCtorEq,List.take_length]
           refine hK _ _ (by kernel_rfl) ?_
           simp only [mkW,lkF,reduceAdd,reduceEqDiff,if_true,if_false,reduceIte]
           refine ⟨[_], ?_, 3, [true,true,true,true,true,true,true,true,true,true,true,true,true,true,true,true,true,true,true,true,true,true,true,true,true,true,true,true,true,true,true,true,true,true,true,true,true,true,true,true,true,true,true,true,true], by omega, by simp only [maskFr,belowV,belowL,belowB,reduceLT,mkb], by simp only [maskFr,belowV,belowL,belowB,reduceLT,mkb], by simp only [maskFr,belowV,belowL,belowB,reduceLT,mkb,putAll,List.set_cons_zero,List.set_cons_succ]; rfl⟩
           exact ⟨_, rfl⟩
          ·skip
           try simp only [ltb]
           simp only [length_encTys,length_encExs,List.length_map,tt134,go_sem,reduceIte,reduceAdd,reduceLT,reduceLeDiff,reduceMul,reduceEqDiff,reduceSub,reduceCtorEq,List.take_length]
           refine hK _ _ (by kernel_rfl) ?_
           simp only [mkW,lkF,reduceAdd,reduceEqDiff,if_true,if_false,reduceIte]
           refine ⟨[_], ?_, 3, [true,true,true,true,true,true,true,true,true,true,true,true,true,true,true,true,true,true,true,true,true,true,true,true,true,true,true,true,true,true,true,true,true,true,true,true,true,true,true,true,true,true,true,true,true], by omega, by simp only [maskFr,belowV,belowL,belowB,reduceLT,mkb], by simp only [maskFr,belowV,belowL,belowB,reduceLT,mkb], by simp only [maskFr,belowV,belowL,belowB,reduceLT,mkb,putAll,List.set_cons_zero,List.set_cons_succ]; rfl⟩
           exact ⟨_, rfl⟩
        ·intro vs hJ
         obtain ⟨b44, rfl⟩ := hJ
         simp only [maskFr,belowV,belowL,belowB,reduceLT,mkb,putAll,List.set_cons_zero,List.set_cons_succ]
         refine ex_if rfl (fun hc44 => ?_) (fun hc44 => ?_)
         ·skip
          refine ex_skip ?_
          show Go.Eng.Ex _ _ _ _ _ _
          refine ex_cond (b := true) (congrArg (fun b => V.sc (Value.bool b)) hc44) ?_
          refine ex_region_w tt_ok 100 [0,0,0,0,2] [] (by kernel_rfl) (by kernel_rfl) fun K hK => ?_
          try simp only [ltb]
          try simp only [ltb]
          simp only [length_encTys,length_encExs,List.length_map,tt134,go_sem,reduceIte,reduceAdd,reduceLT,reduceLeDiff,reduceMul,reduceEqDiff,reduceSub,reduceCtorEq,List.take_length]
          refine hK _ _ (by kernel_rfl) ?_
          simp only [mkW,lkF,reduceAdd,reduceEqDiff,if_true,if_false,reduceIte]
          refine ex_ret ?_
          exact ⟨.inl rfl, _, ⟨_, rfl⟩, rfl⟩
         ·skip
          refine ex_last_region_w tt_ok 100 [0,0,0,0,0,0,0,0,0,0,0,0,0,0,0,0,0,0,0,0,0,0,0,0,0,0,0,0,0,0,0,0,0,0,0,0,0,0,0,0,0,0,0,0,2,0,0,0,0,0,0,0,0,0,0,0,0,0,2,2,2,2,2,2,2] [(3, 61)] (by kernel_rfl) (by kernel_rfl) (by kernel_rfl) fun K hK => ?_
          try simp only [ltb]
          refine runX_cut 4 fun K1 hK1 => ?_
          simp only [ltb]
          simp only [length_encTys,length_encExs,List.length_map,tt134,go_sem,reduceIte,reduceAdd,reduceLT,reduceLeDiff,reduceMul,reduceEqDiff,reduceSub,reduceCtorEq,List.take_length]
          refine hK1 _ ?_
          refine runX_case 61 (by rfl) fun b hb9_3 => ?_
          cases b
          ·skip
           try simp only [ltb]
           simp only [length_encTys,length_encExs,List.length_map,tt134,go_sem,reduceIte,reduceAdd,reduceLT,reduceLeDiff,reduceMul,reduceEqDiff,reduceSub,reduceCtorEq,List.take_length]
           refine hK _ _ (by kernel_rfl) ?_
           simp only [mkW,lkF,reduceAdd,reduceEqDiff,if_true,if_false,reduceIte]
           show Go.Eng.Ex _ _ _ _ _ _
           refine ex_cond rfl ?_
           refine ex_seq ?_
           refine ex_seq_joinK [65] 3 [true,true,true,true,true,true,true,true,true,true,true,true,true,true,true,true,true,true,true,true,true,true,true,true,true,true,true,true,true,true,true,true,true,true,true,true,true,true,true,true,true,true,true,true,true,true,true,true,true,true,true,true,true,true,true,true,true,true,true,true,true,true,true,true,true,true] (fun vs => ∃ b : Bool, vs = [bl b]) ?_ ?_
           ·skip
            refine ex_last_region_w tt_ok 100 [0,0,0,0,0,0,0,0,0,0,0,0,0,0,0,0,0,0,0,0,0,0,0,0,0,0,0,0,0,0,0,0,0,0,0,0,0,0,0,0,0,0,0,0,0,0,0,0,0,0,0,0,0,0,0,0,0,0,0,0,0,0,0,0,0,2,2,2,2,2,2,2,2,2,2,2,2] [(3, 69)] (by kernel_rfl) (by kernel_rfl) (by kernel_rfl) fun K hK => ?_
            try simp only [ltb]
            refine runX_cut 4 fun K1 hK1 => ?_
            simp only [ltb]
            simp only [length_encTys,length_encExs,List.length_map,tt134,go_sem,reduceIte,reduceAdd,reduceLT,reduceLeDiff,reduceMul,reduceEqDiff,reduceSub,reduceCtorEq,List.take_length]
            refine hK1 _ ?_
            refine runX_case 69 (by rfl) fun b hb11_3 => ?_
            cases b
            ·skip
             try simp only [ltb]
             simp only [length_encTys,length_encExs,List.length_map,tt134,go_sem,reduceIte,reduceAdd,reduceLT,reduceLeDiff,reduceMul,reduceEqDiff,reduceSub,reduceCtorEq,List.take_length]
             refine hK _ _ (by kernel_rfl) ?_
             simp only [mkW,lkF,reduceAdd,reduceEqDiff,if_true,if_false,reduceIte]
             refine ⟨[_], ?_, 3, [true,true,true,true,true,true,true,true,true,true,true,true,true,true,true,true,true,true,true,true,true,true,true,true,true,true,true,true,true,true,true,true,true,true,true,true,true,true,true,true,true,true,true,true,true,true,true,true,true,true,true,true,true,true,true,true,true,true,true,true,true,true,true,true,true,true], by omega, by simp only [maskFr,belowV,belowL,belowB,reduceLT,mkb], by simp only [maskFr,belowV,belowL,belowB,reduceLT,mkb], by simp only [maskFr,belowV,belowL,belowB,reduceLT,mkb,putAll,List.set_cons_zero,List.set_cons_succ]; rfl⟩
             exact ⟨_, rfl⟩
            ·skip
             try simp only [ltb]
             simp only [length_encTys,length_encExs,List.length_map,tt134,go_sem,reduceIte,reduceAdd,reduceLT,reduceLeDiff,reduceMul,reduceEqDiff,reduceSub,reduceCtorEq,List.take_length]
             refine hK _ _ (by kernel_rfl) ?_
             simp only [mkW,lkF,reduceAdd,reduceEqDiff,if_true,if_false,reduceIte]
             refine ⟨[_], ?_, 3, [true,true,true,true,true,true,true,true,true,true,true,true,true,true,true,true,true,true,true,true,true,true,true,true,true,true,true,true,true,true,true,true,true,true,true,true,true,true,true,true,true,true,true,true,true,true,true,true,true,true,true,true,true,true,true,true,true,true,true,true,true,true,true,true,true,true], by omega, by simp only [maskFr,belowV,belowL,belowB,reduceLT,mkb], by simp only [maskFr,belowV,belowL,belowB,reduceLT,mkb], by simp only [maskFr,belowV,belowL,belowB,reduceLT,mkb,putAll,List.set_cons_zero,List.set_cons_succ]; rfl⟩
             exact ⟨_, rfl⟩
           ·intro vs hJ
            obtain ⟨b65, rfl⟩ := hJ
            simp only [maskFr,belowV,belowL,belowB,reduceLT,mkb,putAll,List.set_cons_zero,List.set_cons_succ]
            refine ex_if rfl (fun hc65 => ?_) (fun hc65 => ?_)
            ·skip
             refine ex_skip ?_
             show Go.Eng.Ex _ _ _ _ _ _
             refine ex_cond (b := true) (congrArg (fun b => V.sc (Value.bool b)) hc65) ?_
             refine ex_region_w tt_ok 100 [0,0,0,0,2] [] (by kernel_rfl) (by kernel_rfl) fun K hK => ?_
             try simp only [ltb]
             try simp only [ltb]
             simp only [length_encTys,length_encExs,List.length_map,tt134,go_sem,reduceIte,reduceAdd,reduceLT,reduceLeDiff,reduceMul,reduceEqDiff,reduceSub,reduceCtorEq,List.take_length]
             refine hK _ _ (by kernel_rfl) ?_
             simp only [mkW,lkF,reduceAdd,reduceEqDiff,if_true,if_false,reduceIte]
             refine ex_ret ?_
             exact ⟨.inl rfl, _, ⟨_, rfl⟩, rfl⟩
            ·skip
             refine ex_seq_joinK [65] 3 [true,true,true,true,true,true,true,true,true,true,true,true,true,true,true,true,true,true,true,true,true,true,true,true,true,true,true,true,true,true,true,true,true,true,true,true,true,true,true,true,true,true,true,true,true,true,true,true,true,true,true,true,true,true,true,true,true,true,true,true,true,true,true,true,true,true,true,true,true,true,true,true,true,true,true,true,true] (fun vs => ∃ b : Bool, vs = [bl b]) ?_ ?_
             ·skip
              refine ex_last_region_w tt_ok 100 [0,0,0,0,0,0,0,0,0,0,0,0,0,0,0,0,0,0,0,0,0,0,0,0,0,0,0,0,0,0,0,0,0,0,0,0,0,0,0,0,0,0,0,0,0,0,0,0,0,0,0,0,0,0,0,0,0,0,0,0,0,0,0,0,0,2,0,0,0,0,0,0,0,0,0,0,0,2,2,2,2,2,2,2,2,2] [(4, 81)] (by kernel_rfl) (by kernel_rfl) (by kernel_rfl) fun K hK => ?_
              try simp only [ltb]
              refine runX_cut 5 fun K1 hK1 => ?_
              simp only [ltb]
              simp only [length_encTys,length_encExs,List.length_map,tt134,go_sem,reduceIte,reduceAdd,reduceLT,reduceLeDiff,reduceMul,reduceEqDiff,reduceSub,reduceCtorEq,List.take_length]
              refine hK1 _ ?_
              refine runX_case 81 (by rfl) fun b hb12_4 => ?_
              cases b
              ·skip
               try simp only [ltb]
               simp only [length_encTys,length_encExs,List.length_map,tt134,go_sem,reduceIte,reduceAdd,reduceLT,reduceLeDiff,reduceMul,reduceEqDiff,reduceSub,reduceCtorEq,List.take_length]
               refine hK _ _ (by kernel_rfl) ?_
               simp only [mkW,lkF,reduceAdd,reduceEqDiff,if_true,if_false,reduceIte]
               refine ⟨[_], ?_, 3, [true,true,true,true,true,true,true,true,true,true,true,true,true,true,true,true,true,true,true,true,true,true,true,true,true,true,true,true,true,true,true,true,true,true,true,true,true,true,true,true,true,true,true,true,true,true,true,true,true,true,true,true,true,true,true,true,true,true,true,true,true,true,true,true,true,true,true,true,true,true,true,true,true,true,true,true,true], by omega, by simp only [maskFr,belowV,belowL,belowB,reduceLT,mkb], by simp only [maskFr,belowV,belowL,belowB,reduceLT,mkb], by simp only [maskFr,belowV,belowL,belowB,reduceLT,mkb,putAll,List.set_cons_zero,List.set_cons_succ]; rfl⟩
               exact ⟨_, rfl⟩
              ·skip
               try simp only [ltb]
               simp only [length_encTys,length_encExs,List.length_map,tt134,go_sem,reduceIte,reduceAdd,reduceLT,reduceLeDiff,reduceMul,reduceEqDiff,reduceSub,reduceCtorEq,List.take_length]
               refine hK _ _ (by kernel_rfl) ?_
               simp only [mkW,lkF,reduceAdd,reduceEqDiff,if_true,if_false,reduceIte]
               refine ⟨[_], ?_, 3, [true,true,true,true,true,true,true,true,true,true,true,true,true,true,true,true,true,true,true,true,true,true,true,true,true,true,true,true,true,true,true,true,true,true,true,true,true,true,true,true,true,true,true,true,true,true,true,true,true,true,true,true,true,true,true,true,true,true,true,true,true,true,true,true,true,true,true,true,true,true,true,true,true,true,true,true,true], by omega, by simp only [maskFr,belowV,belowL,belowB,reduceLT,mkb], by simp only [maskFr,belowV,belowL,belowB,reduceLT,mkb], by simp only [maskFr,belowV,belowL,belowB,reduceLT,mkb,putAll,List.set_cons_zero,List.set_cons_succ]; rfl⟩
               exact ⟨_, rfl⟩
             ·intro vs hJ
              obtain ⟨b65, rfl⟩ := hJ
              simp only [maskFr,belowV,belowL,belowB,reduceLT,mkb,putAll,List.set_cons_zero,List.set_cons_succ]
              refine ex_if rfl (fun hc65 => ?_) (fun hc65 => ?_)
              ·skip
               refine ex_skip ?_
               show Go.Eng.Ex _ _ _ _ _ _
               refine ex_cond (b := true) (congrArg (fun b => V.sc (Value.bool b)) hc65) ?_
               refine ex_region_w tt_ok 100 [0,0,0,0,2] [] (by kernel_rfl) (by kernel_rfl) fun K hK => ?_
               try simp only [ltb]
               try simp only [ltb]
               simp only [length_encTys,length_encExs,List.length_map,tt134,go_sem,reduceIte,reduceAdd,reduceLT,reduceLeDiff,reduceMul,reduceEqDiff,reduceSub,reduceCtorEq,List.take_length]
               refine hK _ _ (by kernel_rfl) ?_
               simp only [mkW,lkF,reduceAdd,reduceEqDiff,if_true,if_false,reduceIte]
               refine ex_ret ?_
               exact ⟨.inl rfl, _, ⟨_, rfl⟩, rfl⟩
              ·skip
               refine ex_last_region_w tt_ok 100 [0,0,0,0,0,0,0,0,0,0,0,0,0,0,0,0,0,0,0,0,0,0,0,0,0,0,0,0,0,0,0,0,0,0,0,0,0,0,0,0,0,0,0,0,0,0,0,0,0,0,0,0,0,0,0,0,0,0,0,0,0,0,0,0,0,2,0,0,0,0,0,0,0,0,0,0,0,0,0,0,0,0,0,0,0,0,2,2,2,2,2,2,2,2,2] [(2, 88)] (by kernel_rfl) (by kernel_rfl) (by kernel_rfl) fun K hK => ?_
               try simp only [ltb]
               refine runX_cut 3 fun K1 hK1 => ?_
               simp only [ltb]
               simp only [length_encTys,length_encExs,List.length_map,tt134,go_sem,reduceIte,reduceAdd,reduceLT,reduceLeDiff,reduceMul,reduceEqDiff,reduceSub,reduceCtorEq,List.take_length]
               refine hK1 _ ?_
               refine runX_case 88 (by rfl) fun b hb13_2 => ?_
               cases b
               ·skip
                try simp only [ltb]
                simp only [length_encTys,length_encExs,List.length_map,tt134,go_sem,reduceIte,reduceAdd,reduceLT,reduceLeDiff,reduceMul,reduceEqDiff,reduceSub,reduceCtorEq,List.take_length]
                refine hK _ _ (by kernel_rfl) ?_
                simp only [mkW,lkF,reduceAdd,reduceEqDiff,if_true,if_false,reduceIte]
                show Go.Eng.Ex _ _ _ _ _ _
                refine ex_cond rfl ?_
                refine ex_skip ?_
                show Go.Eng.Ex _ _ _ _ _ _
                refine ex_region_w tt_ok 100 [0,0,0,0,2,0,0,0,0,0,0,0,0,0,0,0,0,0,0,0,0,0,0,0,0,0,0,0,0,0,0,0,0,0,0,0,0,0,0,0,0,0,0,0,0,0,0,0,0,0,0,0,0,0,0,0,0,0,0,0,0,0,0,0,0,0,0,0,0,0,0,0,0,0,0,0,0,0,0,0,0,0,0,0,0,0,0,0,0,0,0,0,0,0,0,1,1,1,1,1] [] (by kernel_rfl) (by kernel_rfl) fun K hK => ?_
                try simp only [ltb]
                refine runX_cut 4 fun K1 hK1 => ?_
                simp only [ltb]
                simp only [length_encTys,length_encExs,List.length_map,tt134,go_sem,reduceIte,reduceAdd,reduceLT,reduceLeDiff,reduceMul,reduceEqDiff,reduceSub,reduceCtorEq,List.take_length]
                refine callS_ex (containsLb_tot _ (rfl) 155 2 (by simp only [List.length_cons,List.length_nil]; decide) x.labels (fun l => fits2_tot hG _ (fun n hn => rfl) fl ty kd lb hf l) hl) ?_
                rintro _ ⟨r5, rfl⟩
                try simp only [length_encTys,length_encExs,List.length_map,tt134,go_sem,reduceIte,reduceAdd,reduceLT,reduceLeDiff,reduceMul,reduceEqDiff,reduceSub,reduceCtorEq,List.take_length]
                refine hK1 _ ?_
                try simp only [ltb]
                simp only [length_encTys,length_encExs,List.length_map,tt134,go_sem,reduceIte,reduceAdd,reduceLT,reduceLeDiff,reduceMul,reduceEqDiff,reduceSub,reduceCtorEq,List.take_length]
                refine hK _ _ (by kernel_rfl) ?_
                simp only [mkW,lkF,reduceAdd,reduceEqDiff,if_true,if_false,reduceIte]
                refine ex_ret ?_
                exact ⟨.inl rfl, _, ⟨_, rfl⟩, rfl⟩
               ·skip
                try simp only [ltb]
                simp only [length_encTys,length_encExs,List.length_map,tt134,go_sem,reduceIte,reduceAdd,reduceLT,reduceLeDiff,reduceMul,reduceEqDiff,reduceSub,reduceCtorEq,List.take_length]
                refine hK _ _ (by kernel_rfl) ?_
                simp only [mkW,lkF,reduceAdd,reduceEqDiff,if_true,if_false,reduceIte]
                show Go.Eng.Ex _ _ _ _ _ _
                refine ex_if rfl (fun hc65 => ?_) (fun hc65 => ?_)
                ·skip
                 refine ex_region_w tt_ok 100 [0,0,0,0,2] [] (by kernel_rfl) (by kernel_rfl) fun K hK => ?_
                 try simp only [ltb]
                 try simp only [ltb]
                 simp only [length_encTys,length_encExs,List.length_map,tt134,go_sem,reduceIte,reduceAdd,reduceLT,reduceLeDiff,reduceMul,reduceEqDiff,reduceSub,reduceCtorEq,List.take_length]
                 refine hK _ _ (by kernel_rfl) ?_
                 simp only [mkW,lkF,reduceAdd,reduceEqDiff,if_true,if_false,reduceIte]
                 refine ex_ret ?_
                 exact ⟨.inl rfl, _, ⟨_, rfl⟩, rfl⟩
                ·skip
                 refine ex_skip ?_
                 show Go.Eng.Ex _ _ _ _ _ _
                 refine ex_region_w tt_ok 100 [0,0,0,0,2,0,0,0,0,0,0,0,0,0,0,0,0,0,0,0,0,0,0,0,0,0,0,0,0,0,0,0,0,0,0,0,0,0,0,0,0,0,0,0,0,0,0,0,0,0,0,0,0,0,0,0,0,0,0,0,0,0,0,0,0,0,0,0,0,0,0,0,0,0,0,0,0,0,0,0,0,0,0,0,0,0,0,0,0,0,0,0,0,0,0,1,1,1,1,1] [] (by kernel_rfl) (by kernel_rfl) fun K hK => ?_
                 try simp only [ltb]
                 refine runX_cut 4 fun K1 hK1 => ?_
                 simp only [ltb]
                 simp only [length_encTys,length_encExs,List.length_map,tt134,go_sem,reduceIte,reduceAdd,reduceLT,reduceLeDiff,reduceMul,reduceEqDiff,reduceSub,reduceCtorEq,List.take_length]
                 refine callS_ex (containsLb_tot _ (rfl) 155 2 (by simp only [List.length_cons,List.length_nil]; decide) x.labels (fun l => fits2_tot hG _ (fun n hn => rfl) fl ty kd lb hf l) hl) ?_
                 rintro _ ⟨r6, rfl⟩
                 try simp only [length_encTys,length_encExs,List.length_map,tt134,go_sem,reduceIte,reduceAdd,reduceLT,reduceLeDiff,reduceMul,reduceEqDiff,reduceSub,reduceCtorEq,List.take_length]
                 refine hK1 _ ?_
                 try simp only [ltb]
                 simp only [length_encTys,length_encExs,List.length_map,tt134,go_sem,reduceIte,reduceAdd,reduceLT,reduceLeDiff,reduceMul,reduceEqDiff,reduceSub,reduceCtorEq,List.take_length]
                 refine hK _ _ (by kernel_rfl) ?_
                 simp only [mkW,lkF,reduceAdd,reduceEqDiff,if_true,if_false,reduceIte]
                 refine ex_ret ?_
                 exact ⟨.inl rfl, _, ⟨_, rfl⟩, rfl⟩
          ·skip
           try simp only [ltb]
           simp only [length_encTys,length_encExs,List.length_map,tt134,go_sem,reduceIte,reduceAdd,reduceLT,reduceLeDiff,reduceMul,reduceEqDiff,reduceSub,reduceCtorEq,List.take_length]
           refine hK _ _ (by kernel_rfl) ?_
           simp only [mkW,lkF,reduceAdd,reduceEqDiff,if_true,if_false,reduceIte]
           show Go.Eng.Ex _ _ _ _ _ _
           refine ex_if rfl (fun hc44 => ?_) (fun hc44 => ?_)
           ·skip
            refine ex_region_w tt_ok 100 [0,0,0,0,2] [] (by kernel_rfl) (by kernel_rfl) fun K hK => ?_
            try simp only [ltb]
            try simp only [ltb]
            simp only [length_encTys,length_encExs,List.length_map,tt134,go_sem,reduceIte,reduceAdd,reduceLT,reduceLeDiff,reduceMul,reduceEqDiff,reduceSub,reduceCtorEq,List.take_length]
            refine hK _ _ (by kernel_rfl) ?_
            simp only [mkW,lkF,reduceAdd,reduceEqDiff,if_true,if_false,reduceIte]
            refine ex_ret ?_
            exact ⟨.inl rfl, _, ⟨_, rfl⟩, rfl⟩
           ·skip
            refine ex_seq ?_
            refine ex_seq_joinK [65] 3 [true,true,true,true,true,true,true,true,true,true,true,true,true,true,true,true,true,true,true,true,true,true,true,true,true,true,true,true,true,true,true,true,true,true,true,true,true,true,true,true,true,true,true,true,true,true,true,true,true,true,true,true,true,true,true,true,true,true,true,true,true,true,true,true,true,true] (fun vs => ∃ b : Bool, vs = [bl b]) ?_ ?_
            ·skip
             refine ex_last_region_w tt_ok 100 [0,0,0,0,0,0,0,0,0,0,0,0,0,0,0,0,0,0,0,0,0,0,0,0,0,0,0,0,0,0,0,0,0,0,0,0,0,0,0,0,0,0,0,0,0,0,0,0,0,0,0,0,0,0,0,0,0,0,0,0,0,0,0,0,0,2,2,2,2,2,2,2,2,2,2,2,2] [(3, 69)] (by kernel_rfl) (by kernel_rfl) (by kernel_rfl) fun K hK => ?_
             try simp only [ltb]
             refine runX_cut 4 fun K1 hK1 => ?_
             simp only [ltb]
             simp only [length_encTys,length_encExs,List.length_map,tt134,go_sem,reduceIte,reduceAdd,reduceLT,reduceLeDiff,reduceMul,reduceEqDiff,reduceSub,reduceCtorEq,List.take_length]
             refine hK1 _ ?_
             refine runX_case 69 (by rfl) fun b hb11_3 => ?_
             cases b
             ·skip
              try simp only [ltb]
              simp only [length_encTys,length_encExs,List.length_map,tt134,go_sem,reduceIte,reduceAdd,reduceLT,reduceLeDiff,reduceMul,reduceEqDiff,reduceSub,reduceCtorEq,List.take_length]
              refine hK _ _ (by kernel_rfl) ?_
              simp only [mkW,lkF,reduceAdd,reduceEqDiff,if_true,if_false,reduceIte]
              refine ⟨[_], ?_, 3, [true,true,true,true,true,true,true,true,true,true,true,true,true,true,true,true,true,true,true,true,true,true,true,true,true,true,true,true,true,true,true,true,true,true,true,true,true,true,true,true,true,true,true,true,true,true,true,true,true,true,true,true,true,true,true,true,true,true,true,true,true,true,true,true,true,true], by omega, by simp only [maskFr,belowV,belowL,belowB,reduceLT,mkb], by simp only [maskFr,belowV,belowL,belowB,reduceLT,mkb], by simp only [maskFr,belowV,belowL,belowB,reduceLT,mkb,putAll,List.set_cons_zero,List.set_cons_succ]; rfl⟩
              exact ⟨_, rfl⟩
             ·skip
              try simp only [ltb]
              simp only [length_encTys,length_encExs,List.length_map,tt134,go_sem,reduceIte,reduceAdd,reduceLT,reduceLeDiff,reduceMul,reduceEqDiff,reduceSub,reduceCtorEq,List.take_length]
              refine hK _ _ (by kernel_rfl) ?_
              simp only [mkW,lkF,reduceAdd,reduceEqDiff,if_true,if_false,reduceIte]
              refine ⟨[_], ?_, 3, [true,true,true,true,true,true,true,true,true,true,true,true,true,true,true,true,true,true,true,true,true,true,true,true,true,true,true,true,true,true,true,true,true,true,true,true,true,true,true,true,true,true,true,true,true,true,true,true,true,true,true,true,true,true,true,true,true,true,true,true,true,true,true,true,true,true], by omega, by simp only [maskFr,belowV,belowL,belowB,reduceLT,mkb], by simp only [maskFr,belowV,belowL,belowB,reduceLT,mkb], by simp only [maskFr,belowV,belowL,belowB,reduceLT,mkb,putAll,List.set_cons_zero,List.set_cons_succ]; rfl⟩
              exact ⟨_, rfl⟩
            ·intro vs hJ
             obtain ⟨b65, rfl⟩ := hJ
             simp only [maskFr,belowV,belowL,belowB,reduceLT,mkb,putAll,List.set_cons_zero,List.set_cons_succ]
             refine ex_if rfl (fun hc65 => ?_) (fun hc65 => ?_)
             ·skip
              refine ex_skip ?_
              show Go.Eng.Ex _ _ _ _ _ _
              refine ex_cond (b := true) (congrArg (fun b => V.sc (Value.bool b)) hc65) ?_
              refine ex_region_w tt_ok 100 [0,0,0,0,2] [] (by kernel_rfl) (by kernel_rfl) fun K hK => ?_
              try simp only [ltb]
              try simp only [ltb]
              simp only [length_encTys,length_encExs,List.length_map,tt134,go_sem,reduceIte,reduceAdd,reduceLT,reduceLeDiff,reduceMul,reduceEqDiff,reduceSub,reduceCtorEq,List.take_length]
              refine hK _ _ (by kernel_rfl) ?_
              simp only [mkW,lkF,reduceAdd,reduceEqDiff,if_true,if_false,reduceIte]
              refine ex_ret ?_
              exact ⟨.inl rfl, _, ⟨_, rfl⟩, rfl⟩
             ·skip
              refine ex_seq_joinK [65] 3 [true,true,true,true,true,true,true,true,true,true,true,true,true,true,true,true,true,true,true,true,true,true,true,true,true,true,true,true,true,true,true,true,true,true,true,true,true,true,true,true,true,true,true,true,true,true,true,true,true,true,true,true,true,true,true,true,true,true,true,true,true,true,true,true,true,true,true,true,true,true,true,true,true,true,true,true,true] (fun vs => ∃ b : Bool, vs = [bl b]) ?_ ?_
              ·skip
               refine ex_last_region_w tt_ok 100 [0,0,0,0,0,0,0,0,0,0,0,0,0,0,0,0,0,0,0,0,0,0,0,0,0,0,0,0,0,0,0,0,0,0,0,0,0,0,0,0,0,0,0,0,0,0,0,0,0,0,0,0,0,0,0,0,0,0,0,0,0,0,0,0,0,2,0,0,0,0,0,0,0,0,0,0,0,2,2,2,2,2,2,2,2,2] [(4, 81)] (by kernel_rfl) (by kernel_rfl) (by kernel_rfl) fun K hK => ?_
               try simp only [ltb]
               refine runX_cut 5 fun K1 hK1 => ?_
               simp only [ltb]
               simp only [length_encTys,length_encExs,List.length_map,tt134,go_sem,reduceIte,reduceAdd,reduceLT,reduceLeDiff,reduceMul,reduceEqDiff,reduceSub,reduceCtorEq,List.take_length]
               refine hK1 _ ?_
               refine runX_case 81 (by rfl) fun b hb12_4 => ?_
               cases b
               ·skip
                try simp only [ltb]
                simp only [length_encTys,length_encExs,List.length_map,tt134,go_sem,reduceIte,reduceAdd,reduceLT,reduceLeDiff,reduceMul,reduceEqDiff,reduceSub,reduceCtorEq,List.take_length]
                refine hK _ _ (by kernel_rfl) ?_
                simp only [mkW,lkF,reduceAdd,reduceEqDiff,if_true,if_false,reduceIte]
                refine ⟨[_], ?_, 3, [true,true,true,true,true,true,true,true,true,true,true,true,true,true,true,true,true,true,true,true,true,true,true,true,true,true,true,true,true,true,true,true,true,true,true,true,true,true,true,true,true,true,true,true,true,true,true,true,true,true,true,true,true,true,true,true,true,true,true,true,true,true,true,true,true,true,true,true,true,true,true,true,true,true,true,true,true], by omega, by simp only [maskFr,belowV,belowL,belowB,reduceLT,mkb], by simp only [maskFr,belowV,belowL,belowB,reduceLT,mkb], by simp only [maskFr,belowV,belowL,belowB,reduceLT,mkb,putAll,List.set_cons_zero,List.set_cons_succ]; rfl⟩
                exact ⟨_, rfl⟩
               ·skip
                try simp only [ltb]
                simp only [length_encTys,length_encExs,List.length_map,tt134,go_sem,reduceIte,reduceAdd,reduceLT,reduceLeDiff,reduceMul,reduceEqDiff,reduceSub,reduceCtorEq,List.take_length]
                refine hK _ _ (by kernel_rfl) ?_
                simp only [mkW,lkF,reduceAdd,reduceEqDiff,if_true,if_false,reduceIte]
                refine ⟨[_], ?_, 3, [true,true,true,true,true,true,true,true,true,true,true,true,true,true,true,true,true,true,true,true,true,true,true,true,true,true,true,true,true,true,true,true,true,true,true,true,true,true,true,true,true,true,true,true,true,true,true,true,true,true,true,true,true,true,true,true,true,true,true,true,true,true,true,true,true,true,true,true,true,true,true,true,true,true,true,true,true], by omega, by simp only [maskFr,belowV,belowL,belowB,reduceLT,mkb], by simp only [maskFr,belowV,belowL,belowB,reduceLT,mkb], by simp only [maskFr,belowV,belowL,belowB,reduceLT,mkb,putAll,List.set_cons_zero,List.set_cons_succ]; rfl⟩
                exact ⟨_, rfl⟩
              ·intro vs hJ
               obtain ⟨b65, rfl⟩ := hJ
               simp only [maskFr,belowV,belowL,belowB,reduceLT,mkb,putAll,List.set_cons_zero,List.set_cons_succ]
               refine ex_if rfl (fun hc65 => ?_) (fun hc65 => ?_)
               ·skip
                refine ex_skip ?_
                show Go.Eng.Ex _ _ _ _ _ _
                refine ex_cond (b := true) (congrArg (fun b => V.sc (Value.bool b)) hc65) ?_
                refine ex_region_w tt_ok 100 [0,0,0,0,2] [] (by kernel_rfl) (by kernel_rfl) fun K hK => ?_
                try simp only [ltb]
                try simp only [ltb]
                simp only [length_encTys,length_encExs,List.length_map,tt134,go_sem,reduceIte,reduceAdd,reduceLT,reduceLeDiff,reduceMul,reduceEqDiff,reduceSub,reduceCtorEq,List.take_length]
                refine hK _ _ (by kernel_rfl) ?_
                simp only [mkW,lkF,reduceAdd,reduceEqDiff,if_true,if_false,reduceIte]
                refine ex_ret ?_
                exact ⟨.inl rfl, _, ⟨_, rfl⟩, rfl⟩
               ·skip
                refine ex_last_region_w tt_ok 100 [0,0,0,0,0,0,0,0,0,0,0,0,0,0,0,0,0,0,0,0,0,0,0,0,0,0,0,0,0,0,0,0,0,0,0,0,0,0,0,0,0,0,0,0,0,0,0,0,0,0,0,0,0,0,0,0,0,0,0,0,0,0,0,0,0,2,0,0,0,0,0,0,0,0,0,0,0,0,0,0,0,0,0,0,0,0,2,2,2,2,2,2,2,2,2] [(2, 88)] (by kernel_rfl) (by kernel_rfl) (by kernel_rfl) fun K hK => ?_
                try simp only [ltb]
                refine runX_cut 3 fun K1 hK1 => ?_
                simp only [ltb]
                simp only [length_encTys,length_encExs,List.length_map,tt134,go_sem,reduceIte,reduceAdd,reduceLT,reduceLeDiff,reduceMul,reduceEqDiff,reduceSub,reduceCtorEq,List.take_length]
                refine hK1 _ ?_
                refine runX_case 88 (by rfl) fun b hb13_2 => ?_
                cases b
                ·skip
                 try simp only [ltb]
                 simp only [length_encTys,length_encExs,List.length_map,tt134,go_sem,reduceIte,reduceAdd,reduceLT,reduceLeDiff,reduceMul,reduceEqDiff,reduceSub,reduceCtorEq,List.take_length]
                 refine hK _ _ (by kernel_rfl) ?_
                 simp only [mkW,lkF,reduceAdd,reduceEqDiff,if_true,if_false,reduceIte]
                 show Go.Eng.Ex _ _ _ _ _ _
                 refine ex_cond rfl ?_
                 refine ex_skip ?_
                 show Go.Eng.Ex _ _ _ _ _ _
                 refine ex_region_w tt_ok 100 [0,0,0,0,2,0,0,0,0,0,0,0,0,0,0,0,0,0,0,0,0,0,0,0,0,0,0,0,0,0,0,0,0,0,0,0,0,0,0,0,0,0,0,0,0,0,0,0,0,0,0,0,0,0,0,0,0,0,0,0,0,0,0,0,0,0,0,0,0,0,0,0,0,0,0,0,0,0,0,0,0,0,0,0,0,0,0,0,0,0,0,0,0,0,0,1,1,1,1,1] [] (by kernel_rfl) (by kernel_rfl) fun K hK => ?_
                 try simp only [ltb]
                 refine runX_cut 4 fun K1 hK1 => ?_
                 simp only [ltb]
                 simp only [length_encTys,length_encExs,List.length_map,tt134,go_sem,reduceIte,reduceAdd,reduceLT,reduceLeDiff,reduceMul,reduceEqDiff,reduceSub,reduceCtorEq,List.take_length]
                 refine callS_ex (containsLb_tot _ (rfl) 155 2 (by simp only [List.length_cons,List.length_nil]; decide) x.labels (fun l => fits2_tot hG _ (fun n hn => rfl) fl ty kd lb hf l) hl) ?_
                 rintro _ ⟨r7, rfl⟩
                 try simp only [length_encTys,length_encExs,List.length_map,tt134,go_sem,reduceIte,reduceAdd,reduceLT,reduceLeDiff,reduceMul,reduceEqDiff,reduceSub,reduceCtorEq,List.take_length]
                 refine hK1 _ ?_
                 try simp only [ltb]
                 simp only [length_encTys,length_encExs,List.length_map,tt134,go_sem,reduceIte,reduceAdd,reduceLT,reduceLeDiff,reduceMul,reduceEqDiff,reduceSub,reduceCtorEq,List.take_length]
                 refine hK _ _ (by kernel_rfl) ?_
                 simp only [mkW,lkF,reduceAdd,reduceEqDiff,if_true,if_false,reduceIte]
                 refine ex_ret ?_
                 exact ⟨.inl rfl, _, ⟨_, rfl⟩, rfl⟩
                ·skip
                 try simp only [ltb]
                 simp only [length_encTys,length_encExs,List.length_map,tt134,go_sem,reduceIte,reduceAdd,reduceLT,reduceLeDiff,reduceMul,reduceEqDiff,reduceSub,reduceCtorEq,List.take_length]
                 refine hK _ _ (by kernel_rfl) ?_
                 simp only [mkW,lkF,reduceAdd,reduceEqDiff,if_true,if_false,reduceIte]
                 show Go.Eng.Ex _ _ _ _ _ _
                 refine ex_if rfl (fun hc65 => ?_) (fun hc65 => ?_)
                 ·skip
                  refine ex_region_w tt_ok 100 [0,0,0,0,2] [] (by kernel_rfl) (by kernel_rfl) fun K hK => ?_
                  try simp only [ltb]
                  try simp only [ltb]
                  simp only [length_encTys,length_encExs,List.length_map,tt134,go_sem,reduceIte,reduceAdd,reduceLT,reduceLeDiff,reduceMul,reduceEqDiff,reduceSub,reduceCtorEq,List.take_length]
                  refine hK _ _ (by kernel_rfl) ?_
                  simp only [mkW,lkF,reduceAdd,reduceEqDiff,if_true,if_false,reduceIte]
                  refine ex_ret ?_
                  exact ⟨.inl rfl, _, ⟨_, rfl⟩, rfl⟩
                 ·skip
                  refine ex_skip ?_
                  show Go.Eng.Ex _ _ _ _ _ _
                  refine ex_region_w tt_ok 100 [0,0,0,0,2,0,0,0,0,0,0,0,0,0,0,0,0,0,0,0,0,0,0,0,0,0,0,0,0,0,0,0,0,0,0,0,0,0,0,0,0,0,0,0,0,0,0,0,0,0,0,0,0,0,0,0,0,0,0,0,0,0,0,0,0,0,0,0,0,0,0,0,0,0,0,0,0,0,0,0,0,0,0,0,0,0,0,0,0,0,0,0,0,0,0,1,1,1,1,1] [] (by kernel_rfl) (by kernel_rfl) fun K hK => ?_
                  try simp only [ltb]
                  refine runX_cut 4 fun K1 hK1 => ?_
                  simp only [ltb]
                  simp only [length_encTys,length_encExs,List.length_map,tt134,go_sem,reduceIte,reduceAdd,reduceLT,reduceLeDiff,reduceMul,reduceEqDiff,reduceSub,reduceCtorEq,List.take_length]
                  refine callS_ex (containsLb_tot _ (rfl) 155 2 (by simp only [List.length_cons,List.length_nil]; decide) x.labels (fun l => fits2_tot hG _ (fun n hn => rfl) fl ty kd lb hf l) hl) ?_
                  rintro _ ⟨r8, rfl⟩
                  try simp only [length_encTys,length_encExs,List.length_map,tt134,go_sem,reduceIte,reduceAdd,reduceLT,reduceLeDiff,reduceMul,reduceEqDiff,reduceSub,reduceCtorEq,List.take_length]
                  refine hK1 _ ?_
                  try simp only [ltb]
                  simp only [length_encTys,length_encExs,List.length_map,tt134,go_sem,reduceIte,reduceAdd,reduceLT,reduceLeDiff,reduceMul,reduceEqDiff,reduceSub,reduceCtorEq,List.take_length]
                  refine hK _ _ (by kernel_rfl) ?_
                  simp only [mkW,lkF,reduceAdd,reduceEqDiff,if_true,if_false,reduceIte]
                  refine ex_ret ?_
                  exact ⟨.inl rfl, _, ⟨_, rfl⟩, rfl⟩
       ·skip
        refine runX_cut 2 fun K1 hK1 => ?_
        simp only [ltb]
        simp only [length_encTys,length_encExs,List.length_map,tt134,go_sem,reduceIte,reduceAdd,reduceLT,reduceLeDiff,reduceMul,reduceEqDiff,reduceSub,reduceCtorEq,List.take_length]
        refine callS_ex (has_tot hG _ (rfl) 1 fl ty kd lb rfl _ (by decide) hf) ?_
        rintro _ ⟨r9, rfl⟩
        try simp only [length_encTys,length_encExs,List.length_map,tt134,go_sem,reduceIte,reduceAdd,reduceLT,reduceLeDiff,reduceMul,reduceEqDiff,reduceSub,reduceCtorEq,List.take_length]
        refine hK1 _ ?_
        try simp only [ltb]
        simp only [length_encTys,length_encExs,List.length_map,tt134,go_sem,reduceIte,reduceAdd,reduceLT,reduceLeDiff,reduceMul,reduceEqDiff,reduceSub,reduceCtorEq,List.take_length]
        refine hK _ _ (by kernel_rfl) ?_
        simp only [mkW,lkF,reduceAdd,reduceEqDiff,if_true,if_false,reduceIte]
        show Go.Eng.Ex _ _ _ _ _ _
        refine ex_if rfl (fun hc11 => ?_) (fun hc11 => ?_)
        ·skip
         refine ex_region_w tt_ok 100 [0,0,0,0,2] [] (by kernel_rfl) (by kernel_rfl) fun K hK => ?_
         try simp only [ltb]
         try simp only [ltb]
         simp only [length_encTys,length_encExs,List.length_map,tt134,go_sem,reduceIte,reduceAdd,reduceLT,reduceLeDiff,reduceMul,reduceEqDiff,reduceSub,reduceCtorEq,List.take_length]
         refine hK _ _ (by kernel_rfl) ?_
         simp only [mkW,lkF,reduceAdd,reduceEqDiff,if_true,if_false,reduceIte]
         refine ex_ret ?_
         exact ⟨.inl rfl, _, ⟨_, rfl⟩, rfl⟩
        ·skip
         refine ex_seq ?_
         refine ex_seq_joinK [44] 3 [true,true,true,true,true,true,true,true,true,true,true,true,true,true,true,true,true,true,true,true,true,true,true,true,true,true,true,true,true,true,true,true,true,true,true,true,true,true,true,true,true,true,true,true,true] (fun vs => ∃ b : Bool, vs = [bl b]) ?_ ?_
         ·skip
          refine ex_last_region_w tt_ok 100 [0,0,0,0,0,0,0,0,0,0,0,0,0,0,0,0,0,0,0,0,0,0,0,0,0,0,0,0,0,0,0,0,0,0,0,0,0,0,0,0,0,0,0,0,2,2,2,2,2,2,2,2,2,2,2,2,2,2] [(3, 48), (8, 53)] (by kernel_rfl) (by kernel_rfl) (by kernel_rfl) fun K hK => ?_
          try simp only [ltb]
          refine runX_cut 4 fun K1 hK1 => ?_
          simp only [ltb]
          simp only [length_encTys,length_encExs,List.length_map,tt134,go_sem,reduceIte,reduceAdd,reduceLT,reduceLeDiff,reduceMul,reduceEqDiff,reduceSub,reduceCtorEq,List.take_length]
          refine hK1 _ ?_
          refine runX_case 48 (by rfl) fun b hb8_3 => ?_
          cases b
          ·skip
           refine runX_cut 8 fun K1 hK1 => ?_
           simp only [ltb]
           simp only [length_encTys,length_encExs,List.length_map,tt134,go_sem,reduceIte,reduceAdd,reduceLT,reduceLeDiff,reduceMul,reduceEqDiff,reduceSub,reduceCtorEq,List.take_length]
           refine hK1 _ ?_
           try simp only [ltb]
           simp only [length_encTys,length_encExs,List.length_map,tt134,go_sem,reduceIte,reduceAdd,reduceLT,reduceLeDiff,reduceMul,reduceEqDiff,reduceSub,reduceCtorEq,List.take_length]
           refine hK _ _ (by kernel_rfl) ?_
           simp only [mkW,lkF,reduceAdd,reduceEqDiff,if_true,if_false,reduceIte]
           refine ⟨[_], ?_, 3, [true,true,true,true,true,true,true,true,true,true,true,true,true,true,true,true,true,true,true,true,true,true,true,true,true,true,true,true,true,true,true,true,true,true,true,true,true,true,true,true,true,true,true,true,true], by omega, by simp only [maskFr,belowV,belowL,belowB,reduceLT,mkb], by simp only [maskFr,belowV,belowL,belowB,reduceLT,mkb], by simp only [maskFr,belowV,belowL,belowB,reduceLT,mkb,putAll,List.set_cons_zero,List.set_cons_succ]; rfl⟩
           exact ⟨_, rfl⟩
          ·skip
           refine runX_cut 5 fun K1 hK1 => ?_
           simp only [ltb]
           simp only [length_encTys,length_encExs,List.length_map,tt134,go_sem,reduceIte,reduceAdd,reduceLT,reduceLeDiff,reduceMul,reduceEqDiff,reduceSub,reduceCtorEq,List.take_length]
           refine hK1 _ ?_
           refine runX_case 53 (by rfl) fun b hb8_8 => ?_
           cases b
           ·skip
            try simp only [ltb]
            simp only [length_encTys,length_encExs,List.length_map,tt134,go_sem,reduceIte,reduceAdd,reduceLT,reduceLeDiff,reduceMul,reduceEqDiff,reduceSub,reduceCtorEq,List.take_length]
            refine hK _ _ (by kernel_rfl) ?_
            simp only [mkW,lkF,reduceAdd,reduceEqDiff,if_true,if_false,reduceIte]
            refine ⟨[_], ?_, 3, [true,true,true,true,true,true,true,true,true,true,true,true,true,true,true,true,true,true,true,true,true,true,true,true,true,true,true,true,true,true,true,true,true,true,true,true,true,true,true,true,true,true,true,true,true], by omega, by simp only [maskFr,belowV,belowL,belowB,reduceLT,mkb], by simp only [maskFr,belowV,belowL,belowB,reduceLT,mkb], by simp only [maskFr,belowV,belowL,belowB,reduceLT,mkb,putAll,List.set_cons_zero,List.set_cons_succ]; rfl⟩
            exact ⟨_, rfl⟩
           ·skip
            try simp only [ltb]
            simp only [length_encTys,length_encExs,List.length_map,tt134,go_sem,reduceIte,reduceAdd,reduceLT,reduceLeDiff,reduceMul,reduceEqDiff,reduceSub,reduceCtorEq,List.take_length]
            refine hK _ _ (by kernel_rfl) ?_
            simp only [mkW,lkF,reduceAdd,reduceEqDiff,if_true,if_false,reduceIte]
            refine ⟨[_], ?_, 3, [true,true,true,true,true,true,true,true,true,true,true,true,true,true,true,true,true,true,true,true,true,true,true,true,true,true,true,true,true,true,true,true,true,true,true,true,true,true,true,true,true,true,true,true,true], by omega, by simp only [maskFr,belowV,belowL,belowB,reduceLT,mkb], by simp only [maskFr,belowV,belowL,belowB,reduceLT,mkb], by simp only [maskFr,belowV,belowL,belowB,reduceLT,mkb,putAll,List.set_cons_zero,List.set_cons_succ]; rfl⟩
            exact ⟨_, rfl⟩
         ·intro vs hJ
          obtain ⟨b44, rfl⟩ := hJ
          simp only [maskFr,belowV,belowL,belowB,reduceLT,mkb,putAll,List.set_cons_zero,List.set_cons_succ]
          refine ex_if rfl (fun hc44 => ?_) (fun hc44 => ?_)
          ·skip
           refine ex_skip ?_
           show Go.Eng.Ex _ _ _ _ _ _
           refine ex_cond (b := true) (congrArg (fun b => V.sc (Value.bool b)) hc44) ?_
           refine ex_region_w tt_ok 100 [0,0,0,0,2] [] (by kernel_rfl) (by kernel_rfl) fun K hK => ?_
           try simp only [ltb]
           try simp only [ltb]
           simp only [length_encTys,length_encExs,List.length_map,tt134,go_sem,reduceIte,reduceAdd,reduceLT,reduceLeDiff,reduceMul,reduceEqDiff,reduceSub,reduceCtorEq,List.take_length]
           refine hK _ _ (by kernel_rfl) ?_
           simp only [mkW,lkF,reduceAdd,reduceEqDiff,if_true,if_false,reduceIte]
           refine ex_ret ?_
           exact ⟨.inl rfl, _, ⟨_, rfl⟩, rfl⟩
          ·skip
           refine ex_last_region_w tt_ok 100 [0,0,0,0,0,0,0,0,0,0,0,0,0,0,0,0,0,0,0,0,0,0,0,0,0,0,0,0,0,0,0,0,0,0,0,0,0,0,0,0,0,0,0,0,2,0,0,0,0,0,0,0,0,0,0,0,0,0,2,2,2,2,2,2,2] [(3, 61)] (by kernel_rfl) (by kernel_rfl) (by kernel_rfl) fun K hK => ?_
           try simp only [ltb]
           refine runX_cut 4 fun K1 hK1 => ?_
           simp only [ltb]
           simp only [length_encTys,length_encExs,List.length_map,tt134,go_sem,reduceIte,reduceAdd,reduceLT,reduceLeDiff,reduceMul,reduceEqDiff,reduceSub,reduceCtorEq,List.take_length]
           refine hK1 _ ?_
           refine runX_case 61 (by rfl) fun b hb9_3 => ?_
           cases b
           ·skip
            try simp only [ltb]
            simp only [length_encTys,length_encExs,List.length_map,tt134,go_sem,reduceIte,reduceAdd,reduceLT,reduceLeDiff,reduceMul,reduceEqDiff,reduceSub,reduceCtorEq,List.take_length]
            refine hK _ _ (by kernel_rfl) ?_
            simp only [mkW,lkF,reduceAdd,reduceEqDiff,if_true,if_false,reduceIte]
            show Go.Eng.Ex _ _ _ _ _ _
            refine ex_cond rfl ?_
            refine ex_seq ?_
            refine ex_seq_joinK [65] 3 [true,true,true,true,true,true,true,true,true,true,true,true,true,true,true,true,true,true,true,true,true,true,true,true,true,true,true,true,true,true,true,true,true,true,true,true,true,true,true,true,true,true,true,true,true,true,true,true,true,true,true,true,true,true,true,true,true,true,true,true,true,true,true,true,true,true] (fun vs => ∃ b : Bool, vs = [bl b]) ?_ ?_
            ·skip
             refine ex_last_region_w tt_ok 100 [0,0,0,0,0,0,0,0,0,0,0,0,0,0,0,0,0,0,0,0,0,0,0,0,0,0,0,0,0,0,0,0,0,0,0,0,0,0,0,0,0,0,0,0,0,0,0,0,0,0,0,0,0,0,0,0,0,0,0,0,0,0,0,0,0,2,2,2,2,2,2,2,2,2,2,2,2] [(3, 69)] (by kernel_rfl) (by kernel_rfl) (by kernel_rfl) fun K hK => ?_
             try simp only [ltb]
             refine runX_cut 4 fun K1 hK1 => ?_
             simp only [ltb]
             simp only [length_encTys,length_encExs,List.length_map,tt134,go_sem,reduceIte,reduceAdd,reduceLT,reduceLeDiff,reduceMul,reduceEqDiff,reduceSub,reduceCtorEq,List.take_length]
             refine hK1 _ ?_
             refine runX_case 69 (by rfl) fun b hb11_3 => ?_
             cases b
             ·skip
              try simp only [ltb]
              simp only [length_encTys,length_encExs,List.length_map,tt134,go_sem,reduceIte,reduceAdd,reduceLT,reduceLeDiff,reduceMul,reduceEqDiff,reduceSub,reduceCtorEq,List.take_length]
              refine hK _ _ (by kernel_rfl) ?_
              simp only [mkW,lkF,reduceAdd,reduceEqDiff,if_true,if_false,reduceIte]
              refine ⟨[_], ?_, 3, [true,true,true,true,true,true,true,true,true,true,true,true,true,true,true,true,true,true,true,true,true,true,true,true,true,true,true,true,true,true,true,true,true,true,true,true,true,true,true,true,true,true,true,true,true,true,true,true,true,true,true,true,true,true,true,true,true,true,true,true,true,true,true,true,true,true], by omega, by simp only [maskFr,belowV,belowL,belowB,reduceLT,mkb], by simp only [maskFr,belowV,belowL,belowB,reduceLT,mkb], by simp only [maskFr,belowV,belowL,belowB,reduceLT,mkb,putAll,List.set_cons_zero,List.set_cons_succ]; rfl⟩
              exact ⟨_, rfl⟩
             ·skip
              try simp only [ltb]
              simp only [length_encTys,length_encExs,List.length_map,tt134,go_sem,reduceIte,reduceAdd,reduceLT,reduceLeDiff,reduceMul,reduceEqDiff,reduceSub,reduceCtorEq,List.take_length]
              refine hK _ _ (by kernel_rfl) ?_
              simp only [mkW,lkF,reduceAdd,reduceEqDiff,if_true,if_false,reduceIte]
              refine ⟨[_], ?_, 3, [true,true,true,true,true,true,true,true,true,true,true,true,true,true,true,true,true,true,true,true,true,true,true,true,true,true,true,true,true,true,true,true,true,true,true,true,true,true,true,true,true,true,true,true,true,true,true,true,true,true,true,true,true,true,true,true,true,true,true,true,true,true,true,true,true,true], by omega, by simp only [maskFr,belowV,belowL,belowB,reduceLT,mkb], by simp only [maskFr,belowV,belowL,belowB,reduceLT,mkb], by simp only [maskFr,belowV,belowL,belowB,reduceLT,mkb,putAll,List.set_cons_zero,List.set_cons_succ]; rfl⟩
              exact ⟨_, rfl⟩
            ·intro vs hJ
             obtain ⟨b65, rfl⟩ := hJ
             simp only [maskFr,belowV,belowL,belowB,reduceLT,mkb,putAll,List.set_cons_zero,List.set_cons_succ]
             refine ex_if rfl (fun hc65 => ?_) (fun hc65 => ?_)
             ·skip
              refine ex_skip ?_
              show Go.Eng.Ex _ _ _ _ _ _
              refine ex_cond (b := true) (congrArg (fun b => V.sc (Value.bool b)) hc65) ?_
              refine ex_region_w tt_ok 100 [0,0,0,0,2] [] (by kernel_rfl) (by kernel_rfl) fun K hK => ?_
              try simp only [ltb]
              try simp only [ltb]
              simp only [length_encTys,length_encExs,List.length_map,tt134,go_sem,reduceIte,reduceAdd,reduceLT,reduceLeDiff,reduceMul,reduceEqDiff,reduceSub,reduceCtorEq,List.take_length]
              refine hK _ _ (by kernel_rfl) ?_
              simp only [mkW,lkF,reduceAdd,reduceEqDiff,if_true,if_false,reduceIte]
              refine ex_ret ?_
              exact ⟨.inl rfl, _, ⟨_, rfl⟩, rfl⟩
             ·skip
              refine ex_seq_joinK [65] 3 [true,true,true,true,true,true,true,true,true,true,true,true,true,true,true,true,true,true,true,true,true,true,true,true,true,true,true,true,true,true,true,true,true,true,true,true,true,true,true,true,true,true,true,true,true,true,true,true,true,true,true,true,true,true,true,true,true,true,true,true,true,true,true,true,true,true,true,true,true,true,true,true,true,true,true,true,true] (fun vs => ∃ b : Bool, vs = [bl b]) ?_ ?_
              ·skip
               refine ex_last_region_w tt_ok 100 [0,0,0,0,0,0,0,0,0,0,0,0,0,0,0,0,0,0,0,0,0,0,0,0,0,0,0,0,0,0,0,0,0,0,0,0,0,0,0,0,0,0,0,0,0,0,0,0,0,0,0,0,0,0,0,0,0,0,0,0,0,0,0,0,0,2,0,0,0,0,0,0,0,0,0,0,0,2,2,2,2,2,2,2,2,2] [(4, 81)] (by kernel_rfl) (by kernel_rfl) (by kernel_rfl) fun K hK => ?_
               try simp only [ltb]
               refine runX_cut 5 fun K1 hK1 => ?_
               simp only [ltb]
               simp only [length_encTys,length_encExs,List.length_map,tt134,go_sem,reduceIte,reduceAdd,reduceLT,reduceLeDiff,reduceMul,reduceEqDiff,reduceSub,reduceCtorEq,List.take_length]
               refine hK1 _ ?_
               refine runX_case 81 (by rfl) fun b hb12_4 => ?_
               cases b
               ·skip
                try simp only [ltb]
                simp only [length_encTys,length_encExs,List.length_map,tt134,go_sem,reduceIte,reduceAdd,reduceLT,reduceLeDiff,reduceMul,reduceEqDiff,reduceSub,reduceCtorEq,List.take_length]
                refine hK _ _ (by kernel_rfl) ?_
                simp only [mkW,lkF,reduceAdd,reduceEqDiff,if_true,if_false,reduceIte]
                refine ⟨[_], ?_, 3, [true,true,true,true,true,true,true,true,true,true,true,true,true,true,true,true,true,true,true,true,true,true,true,true,true,true,true,true,true,true,true,true,true,true,true,true,true,true,true,true,true,true,true,true,true,true,true,true,true,true,true,true,true,true,true,true,true,true,true,true,true,true,true,true,true,true,true,true,true,true,true,true,true,true,true,true,true], by omega, by simp only [maskFr,belowV,belowL,belowB,reduceLT,mkb], by simp only [maskFr,belowV,belowL,belowB,reduceLT,mkb], by simp only [maskFr,belowV,belowL,belowB,reduceLT,mkb,putAll,List.set_cons_zero,List.set_cons_succ]; rfl⟩
                exact ⟨_, rfl⟩
               ·skip
                try simp only [ltb]
                simp only [length_encTys,length_encExs,List.length_map,tt134,go_sem,reduceIte,reduceAdd,reduceLT,reduceLeDiff,reduceMul,reduceEqDiff,reduceSub,reduceCtorEq,List.take_length]
                refine hK _ _ (by kernel_rfl) ?_
                simp only [mkW,lkF,reduceAdd,reduceEqDiff,if_true,if_false,reduceIte]
                refine ⟨[_], ?_, 3, [true,true,true,true,true,true,true,true,true,true,true,true,true,true,true,true,true,true,true,true,true,true,true,true,true,true,true,true,true,true,true,true,true,true,true,true,true,true,true,true,true,true,true,true,true,true,true,true,true,true,true,true,true,true,true,true,true,true,true,true,true,true,true,true,true,true,true,true,true,true,true,true,true,true,true,true,true], by omega, by simp only [maskFr,belowV,belowL,belowB,reduceLT,mkb], by simp only [maskFr,belowV,belowL,belowB,reduceLT,mkb], by simp only [maskFr,belowV,belowL,belowB,reduceLT,mkb,putAll,List.set_cons_zero,List.set_cons_succ]; rfl⟩
                exact ⟨_, rfl⟩
              ·intro vs hJ
               obtain ⟨b65, rfl⟩ := hJ
               simp only [maskFr,belowV,belowL,belowB,reduceLT,mkb,putAll,List.set_cons_zero,List.set_cons_succ]
               refine ex_if rfl (fun hc65 => ?_) (fun hc65 => ?_)
               ·skip
                refine ex_skip ?_
                show Go.Eng.Ex _ _ _ _ _ _
                refine ex_cond (b := true) (congrArg (fun b => V.sc (Value.bool b)) hc65) ?_
                refine ex_region_w tt_ok 100 [0,0,0,0,2] [] (by kernel_rfl) (by kernel_rfl) fun K hK => ?_
                try simp only [ltb]
                try simp only [ltb]
                simp only [length_encTys,length_encExs,List.length_map,tt134,go_sem,reduceIte,reduceAdd,reduceLT,reduceLeDiff,reduceMul,reduceEqDiff,reduceSub,reduceCtorEq,List.take_length]
                refine hK _ _ (by kernel_rfl) ?_
                simp only [mkW,lkF,reduceAdd,reduceEqDiff,if_true,if_false,reduceIte]
                refine ex_ret ?_
                exact ⟨.inl rfl, _, ⟨_, rfl⟩, rfl⟩
               ·skip
                refine ex_last_region_w tt_ok 100 [0,0,0,0,0,0,0,0,0,0,0,0,0,0,0,0,0,0,0,0,0,0,0,0,0,0,0,0,0,0,0,0,0,0,0,0,0,0,0,0,0,0,0,0,0,0,0,0,0,0,0,0,0,0,0,0,0,0,0,0,0,0,0,0,0,2,0,0,0,0,0,0,0,0,0,0,0,0,0,0,0,0,0,0,0,0,2,2,2,2,2,2,2,2,2] [(2, 88)] (by kernel_rfl) (by kernel_rfl) (by kernel_rfl) fun K hK => ?_
                try simp only [ltb]
                refine runX_cut 3 fun K1 hK1 => ?_
                simp only [ltb]
                simp only [length_encTys,length_encExs,List.length_map,tt134,go_sem,reduceIte,reduceAdd,reduceLT,reduceLeDiff,reduceMul,reduceEqDiff,reduceSub,reduceCtorEq,List.take_length]
                refine hK1 _ ?_
                refine runX_case 88 (by rfl) fun b hb13_2 => ?_
                cases b
                ·skip
                 try simp only [ltb]
                 simp only [length_encTys,length_encExs,List.length_map,tt134,go_sem,reduceIte,reduceAdd,reduceLT,reduceLeDiff,reduceMul,reduceEqDiff,reduceSub,reduceCtorEq,List.take_length]
                 refine hK _ _ (by kernel_rfl) ?_
                 simp only [mkW,lkF,reduceAdd,reduceEqDiff,if_true,if_false,reduceIte]
                 show Go.Eng.Ex _ _ _ _ _ _
                 refine ex_cond rfl ?_
                 refine ex_skip ?_
                 show Go.Eng.Ex _ _ _ _ _ _
                 refine ex_region_w tt_ok 100 [0,0,0,0,2,0,0,0,0,0,0,0,0,0,0,0,0,0,0,0,0,0,0,0,0,0,0,0,0,0,0,0,0,0,0,0,0,0,0,0,0,0,0,0,0,0,0,0,0,0,0,0,0,0,0,0,0,0,0,0,0,0,0,0,0,0,0,0,0,0,0,0,0,0,0,0,0,0,0,0,0,0,0,0,0,0,0,0,0,0,0,0,0,0,0,1,1,1,1,1] [] (by kernel_rfl) (by kernel_rfl) fun K hK => ?_
                 try simp only [ltb]
                 refine runX_cut 4 fun K1 hK1 => ?_
                 simp only [ltb]
                 simp only [length_encTys,length_encExs,List.length_map,tt134,go_sem,reduceIte,reduceAdd,reduceLT,reduceLeDiff,reduceMul,reduceEqDiff,reduceSub,reduceCtorEq,List.take_length]
                 refine callS_ex (containsLb_tot _ (rfl) 155 2 (by simp only [List.length_cons,List.length_nil]; decide) x.labels (fun l => fits2_tot hG _ (fun n hn => rfl) fl ty kd lb hf l) hl) ?_
                 rintro _ ⟨r10, rfl⟩
                 try simp only [length_encTys,length_encExs,List.length_map,tt134,go_sem,reduceIte,reduceAdd,reduceLT,reduceLeDiff,reduceMul,reduceEqDiff,reduceSub,reduceCtorEq,List.take_length]
                 refine hK1 _ ?_
                 try simp only [ltb]
                 simp only [length_encTys,length_encExs,List.length_map,tt134,go_sem,reduceIte,reduceAdd,reduceLT,reduceLeDiff,reduceMul,reduceEqDiff,reduceSub,reduceCtorEq,List.take_length]
                 refine hK _ _ (by kernel_rfl) ?_
                 simp only [mkW,lkF,reduceAdd,reduceEqDiff,if_true,if_false,reduceIte]
                 refine ex_ret ?_
                 exact ⟨.inl rfl, _, ⟨_, rfl⟩, rfl⟩
                ·skip
                 try simp only [ltb]
                 simp only [length_encTys,length_encExs,List.length_map,tt134,go_sem,reduceIte,reduceAdd,reduceLT,reduceLeDiff,reduceMul,reduceEqDiff,reduceSub,reduceCtorEq,List.take_length]
                 refine hK _ _ (by kernel_rfl) ?_
                 simp only [mkW,lkF,reduceAdd,reduceEqDiff,if_true,if_false,reduceIte]
                 show Go.Eng.Ex _ _ _ _ _ _
                 refine ex_if rfl (fun hc65 => ?_) (fun hc65 => ?_)
                 ·skip
                  refine ex_region_w tt_ok 100 [0,0,0,0,2] [] (by kernel_rfl) (by kernel_rfl) fun K hK => ?_
                  try simp only [ltb]
                  try simp only [ltb]
                  simp only [length_encTys,length_encExs,List.length_map,tt134,go_sem,reduceIte,reduceAdd,reduceLT,reduceLeDiff,reduceMul,reduceEqDiff,reduceSub,reduceCtorEq,List.take_length]
                  refine hK _ _ (by kernel_rfl) ?_
                  simp only [mkW,lkF,reduceAdd,reduceEqDiff,if_true,if_false,reduceIte]
                  refine ex_ret ?_
                  exact ⟨.inl rfl, _, ⟨_, rfl⟩, rfl⟩
                 ·skip
                  refine ex_skip ?_
                  show Go.Eng.Ex _ _ _ _ _ _
                  refine ex_region_w tt_ok 100 [0,0,0,0,2,0,0,0,0,0,0,0,0,0,0,0,0,0,0,0,0,0,0,0,0,0,0,0,0,0,0,0,0,0,0,0,0,0,0,0,0,0,0,0,0,0,0,0,0,0,0,0,0,0,0,0,0,0,0,0,0,0,0,0,0,0,0,0,0,0,0,0,0,0,0,0,0,0,0,0,0,0,0,0,0,0,0,0,0,0,0,0,0,0,0,1,1,1,1,1] [] (by kernel_rfl) (by kernel_rfl) fun K hK => ?_
                  try simp only [ltb]
                  refine runX_cut 4 fun K1 hK1 => ?_
                  simp only [ltb]
                  simp only [length_encTys,length_encExs,List.length_map,tt134,go_sem,reduceIte,reduceAdd,reduceLT,reduceLeDiff,reduceMul,reduceEqDiff,reduceSub,reduceCtorEq,List.take_length]
                  refine callS_ex (containsLb_tot _ (rfl) 155 2 (by simp only [List.length_cons,List.length_nil]; decide) x.labels (fun l => fits2_tot hG _ (fun n hn => rfl) fl ty kd lb hf l) hl) ?_
                  rintro _ ⟨r11, rfl⟩
                  try simp only [length_encTys,length_encExs,List.length_map,tt134,go_sem,reduceIte,reduceAdd,reduceLT,reduceLeDiff,reduceMul,reduceEqDiff,reduceSub,reduceCtorEq,List.take_length]
                  refine hK1 _ ?_
                  try simp only [ltb]
                  simp only [length_encTys,length_encExs,List.length_map,tt134,go_sem,reduceIte,reduceAdd,reduceLT,reduceLeDiff,reduceMul,reduceEqDiff,reduceSub,reduceCtorEq,List.take_length]
                  refine hK _ _ (by kernel_rfl) ?_
                  simp only [mkW,lkF,reduceAdd,reduceEqDiff,if_true,if_false,reduceIte]
                  refine ex_ret ?_
                  exact ⟨.inl rfl, _, ⟨_, rfl⟩, rfl⟩
           ·skip
            try simp only [ltb]
            simp only [length_encTys,length_encExs,List.length_map,tt134,go_sem,reduceIte,reduceAdd,reduceLT,reduceLeDiff,reduceMul,reduceEqDiff,reduceSub,reduceCtorEq,List.take_length]
            refine hK _ _ (by kernel_rfl) ?_
            simp only [mkW,lkF,reduceAdd,reduceEqDiff,if_true,if_false,reduceIte]
            show Go.Eng.Ex _ _ _ _ _ _
            refine ex_if rfl (fun hc44 => ?_) (fun hc44 => ?_)
            ·skip
             refine ex_region_w tt_ok 100 [0,0,0,0,2] [] (by kernel_rfl) (by kernel_rfl) fun K hK => ?_
             try simp only [ltb]
             try simp only [ltb]
             simp only [length_encTys,length_encExs,List.length_map,tt134,go_sem,reduceIte,reduceAdd,reduceLT,reduceLeDiff,reduceMul,reduceEqDiff,reduceSub,reduceCtorEq,List.take_length]
             refine hK _ _ (by kernel_rfl) ?_
             simp only [mkW,lkF,reduceAdd,reduceEqDiff,if_true,if_false,reduceIte]
             refine ex_ret ?_
             exact ⟨.inl rfl, _, ⟨_, rfl⟩, rfl⟩
            ·skip
             refine ex_seq ?_
             refine ex_seq_joinK [65] 3 [true,true,true,true,true,true,true,true,true,true,true,true,true,true,true,true,true,true,true,true,true,true,true,true,true,true,true,true,true,true,true,true,true,true,true,true,true,true,true,true,true,true,true,true,true,true,true,true,true,true,true,true,true,true,true,true,true,true,true,true,true,true,true,true,true,true] (fun vs => ∃ b : Bool, vs = [bl b]) ?_ ?_
             ·skip
              refine ex_last_region_w tt_ok 100 [0,0,0,0,0,0,0,0,0,0,0,0,0,0,0,0,0,0,0,0,0,0,0,0,0,0,0,0,0,0,0,0,0,0,0,0,0,0,0,0,0,0,0,0,0,0,0,0,0,0,0,0,0,0,0,0,0,0,0,0,0,0,0,0,0,2,2,2,2,2,2,2,2,2,2,2,2] [(3, 69)] (by kernel_rfl) (by kernel_rfl) (by kernel_rfl) fun K hK => ?_
              try simp only [ltb]
              refine runX_cut 4 fun K1 hK1 => ?_
              simp only [ltb]
              simp only [length_encTys,length_encExs,List.length_map,tt134,go_sem,reduceIte,reduceAdd,reduceLT,reduceLeDiff,reduceMul,reduceEqDiff,reduceSub,reduceCtorEq,List.take_length]
              refine hK1 _ ?_
              refine runX_case 69 (by rfl) fun b hb11_3 => ?_
              cases b
              ·skip
               try simp only [ltb]
               simp only [length_encTys,length_encExs,List.length_map,tt134,go_sem,reduceIte,reduceAdd,reduceLT,reduceLeDiff,reduceMul,reduceEqDiff,reduceSub,reduceCtorEq,List.take_length]
               refine hK _ _ (by kernel_rfl) ?_
               simp only [mkW,lkF,reduceAdd,reduceEqDiff,if_true,if_false,reduceIte]
               refine ⟨[_], ?_, 3, [true,true,true,true,true,true,true,true,true,true,true,true,true,true,true,true,true,true,true,true,true,true,true,true,true,true,true,true,true,true,true,true,true,true,true,true,true,true,true,true,true,true,true,true,true,true,true,true,true,true,true,true,true,true,true,true,true,true,true,true,true,true,true,true,true,true], by omega, by simp only [maskFr,belowV,belowL,belowB,reduceLT,mkb], by simp only [maskFr,belowV,belowL,belowB,reduceLT,mkb], by simp only [maskFr,belowV,belowL,belowB,reduceLT,mkb,putAll,List.set_cons_zero,List.set_cons_succ]; rfl⟩
               exact ⟨_, rfl⟩
              ·skip
               try simp only [ltb]
               simp only [length_encTys,length_encExs,List.length_map,tt134,go_sem,reduceIte,reduceAdd,reduceLT,reduceLeDiff,reduceMul,reduceEqDiff,reduceSub,reduceCtorEq,List.take_length]
               refine hK _ _ (by kernel_rfl) ?_
               simp only [mkW,lkF,reduceAdd,reduceEqDiff,if_true,if_false,reduceIte]
               refine ⟨[_], ?_, 3, [true,true,true,true,true,true,true,true,true,true,true,true,true,true,true,true,true,true,true,true,true,true,true,true,true,true,true,true,true,true,true,true,true,true,true,true,true,true,true,true,true,true,true,true,true,true,true,true,true,true,true,true,true,true,true,true,true,true,true,true,true,true,true,true,true,true], by omega, by simp only [maskFr,belowV,belowL,belowB,reduceLT,mkb], by simp only [maskFr,belowV,belowL,belowB,reduceLT,mkb], by simp only [maskFr,belowV,belowL,belowB,reduceLT,mkb,putAll,List.set_cons_zero,List.set_cons_succ]; rfl⟩
               exact ⟨_, rfl⟩
             ·intro vs hJ
              obtain ⟨b65, rfl⟩ := hJ
              simp only [maskFr,belowV,belowL,belowB,reduceLT,mkb,putAll,List.set_cons_zero,List.set_cons_succ]
              refine ex_if rfl (fun hc65 => ?_) (fun hc65 => ?_)
              ·skip
               refine ex_skip ?_
               show Go.Eng.Ex _ _ _ _ _ _
               refine ex_cond (b := true) (congrArg (fun b => V.sc (Value.bool b)) hc65) ?_
               refine ex_region_w tt_ok 100 [0,0,0,0,2] [] (by kernel_rfl) (by kernel_rfl) fun K hK => ?_
               try simp only [ltb]
               try simp only [ltb]
               simp only [length_encTys,length_encExs,List.length_map,tt134,go_sem,reduceIte,reduceAdd,reduceLT,reduceLeDiff,reduceMul,reduceEqDiff,reduceSub,reduceCtorEq,List.take_length]
               refine hK _ _ (by kernel_rfl) ?_
               simp only [mkW,lkF,reduceAdd,reduceEqDiff,if_true,if_false,reduceIte]
               refine ex_ret ?_
               exact ⟨.inl rfl, _, ⟨_, rfl⟩, rfl⟩
              ·skip
               refine ex_seq_joinK [65] 3 [true,true,true,true,true,true,true,true,true,true,true,true,true,true,true,true,true,true,true,true,true,true,true,true,true,true,true,true,true,true,true,true,true,true,true,true,true,true,true,true,true,true,true,true,true,true,true,true,true,true,true,true,true,true,true,true,true,true,true,true,true,true,true,true,true,true,true,true,true,true,true,true,true,true,true,true,true] (fun vs => ∃ b : Bool, vs = [bl b]) ?_ ?_
               ·skip
                refine ex_last_region_w tt_ok 100 [0,0,0,0,0,0,0,0,0,0,0,0,0,0,0,0,0,0,0,0,0,0,0,0,0,0,0,0,0,0,0,0,0,0,0,0,0,0,0,0,0,0,0,0,0,0,0,0,0,0,0,0,0,0,0,0,0,0,0,0,0,0,0,0,0,2,0,0,0,0,0,0,0,0,0,0,0,2,2,2,2,2,2,2,2,2] [(4, 81)] (by kernel_rfl) (by kernel_rfl) (by kernel_rfl) fun K hK => ?_
                try simp only [ltb]
                refine runX_cut 5 fun K1 hK1 => ?_
                simp only [ltb]
                simp only [length_encTys,length_encExs,List.length_map,tt134,go_sem,reduceIte,reduceAdd,reduceLT,reduceLeDiff,reduceMul,reduceEqDiff,reduceSub,reduceCtorEq,List.take_length]
                refine hK1 _ ?_
                refine runX_case 81 (by rfl) fun b hb12_4 => ?_
                cases b
                ·skip
                 try simp only [ltb]
                 simp only [length_encTys,length_encExs,List.length_map,tt134,go_sem,reduceIte,reduceAdd,reduceLT,reduceLeDiff,reduceMul,reduceEqDiff,reduceSub,reduceCtorEq,List.take_length]
                 refine hK _ _ (by kernel_rfl) ?_
                 simp only [mkW,lkF,reduceAdd,reduceEqDiff,if_true,if_false,reduceIte]
                 refine ⟨[_], ?_, 3, [true,true,true,true,true,true,true,true,true,true,true,true,true,true,true,true,true,true,true,true,true,true,true,true,true,true,true,true,true,true,true,true,true,true,true,true,true,true,true,true,true,true,true,true,true,true,true,true,true,true,true,true,true,true,true,true,true,true,true,true,true,true,true,true,true,true,true,true,true,true,true,true,true,true,true,true,true], by omega, by simp only [maskFr,belowV,belowL,belowB,reduceLT,mkb], by simp only [maskFr,belowV,belowL,belowB,reduceLT,mkb], by simp only [maskFr,belowV,belowL,belowB,reduceLT,mkb,putAll,List.set_cons_zero,List.set_cons_succ]; rfl⟩
                 exact ⟨_, rfl⟩
                ·skip
                 try simp only [ltb]
                 simp only [length_encTys,length_encExs,List.length_map,tt134,go_sem,reduceIte,reduceAdd,reduceLT,reduceLeDiff,reduceMul,reduceEqDiff,reduceSub,reduceCtorEq,List.take_length]
                 refine hK _ _ (by kernel_rfl) ?_
                 simp only [mkW,lkF,reduceAdd,reduceEqDiff,if_true,if_false,reduceIte]
                 refine ⟨[_], ?_, 3, [true,true,true,true,true,true,true,true,true,true,true,true,true,true,true,true,true,true,true,true,true,true,true,true,true,true,true,true,true,true,true,true,true,true,true,true,true,true,true,true,true,true,true,true,true,true,true,true,true,true,true,true,true,true,true,true,true,true,true,true,true,true,true,true,true,true,true,true,true,true,true,true,true,true,true,true,true], by omega, by simp only [maskFr,belowV,belowL,belowB,reduceLT,mkb], by simp only [maskFr,belowV,belowL,belowB,reduceLT,mkb], by simp only [maskFr,belowV,belowL,belowB,reduceLT,mkb,putAll,List.set_cons_zero,List.set_cons_succ]; rfl⟩
                 exact ⟨_, rfl⟩
               ·intro vs hJ
                obtain ⟨b65, rfl⟩ := hJ
                simp only [maskFr,belowV,belowL,belowB,reduceLT,mkb,putAll,List.set_cons_zero,List.set_cons_succ]
                refine ex_if rfl (fun hc65 => ?_) (fun hc65 => ?_)
                ·skip
                 refine ex_skip ?_
                 show Go.Eng.Ex _ _ _ _ _ _
                 refine ex_cond (b := true) (congrArg (fun b => V.sc (Value.bool b)) hc65) ?_
                 refine ex_region_w tt_ok 100 [0,0,0,0,2] [] (by kernel_rfl) (by kernel_rfl) fun K hK => ?_
                 try simp only [ltb]
                 try simp only [ltb]
                 simp only [length_encTys,length_encExs,List.length_map,tt134,go_sem,reduceIte,reduceAdd,reduceLT,reduceLeDiff,reduceMul,reduceEqDiff,reduceSub,reduceCtorEq,List.take_length]
                 refine hK _ _ (by kernel_rfl) ?_
                 simp only [mkW,lkF,reduceAdd,reduceEqDiff,if_true,if_false,reduceIte]
                 refine ex_ret ?_
                 exact ⟨.inl rfl, _, ⟨_, rfl⟩, rfl⟩
                ·skip
                 refine ex_last_region_w tt_ok 100 [0,0,0,0,0,0,0,0,0,0,0,0,0,0,0,0,0,0,0,0,0,0,0,0,0,0,0,0,0,0,0,0,0,0,0,0,0,0,0,0,0,0,0,0,0,0,0,0,0,0,0,0,0,0,0,0,0,0,0,0,0,0,0,0,0,2,0,0,0,0,0,0,0,0,0,0,0,0,0,0,0,0,0,0,0,0,2,2,2,2,2,2,2,2,2] [(2, 88)] (by kernel_rfl) (by kernel_rfl) (by kernel_rfl) fun K hK => ?_
                 try simp only [ltb]
                 refine runX_cut 3 fun K1 hK1 => ?_
                 simp only [ltb]
                 simp only [length_encTys,length_encExs,List.length_map,tt134,go_sem,reduceIte,reduceAdd,reduceLT,reduceLeDiff,reduceMul,reduceEqDiff,reduceSub,reduceCtorEq,List.take_length]
                 refine hK1 _ ?_
                 refine runX_case 88 (by rfl) fun b hb13_2 => ?_
                 cases b
                 ·skip
                  try simp only [ltb]
                  simp only [length_encTys,length_encExs,List.length_map,tt134,go_sem,reduceIte,reduceAdd,reduceLT,reduceLeDiff,reduceMul,reduceEqDiff,reduceSub,reduceCtorEq,List.take_length]
                  refine hK _ _ (by kernel_rfl) ?_
                  simp only [mkW,lkF,reduceAdd,reduceEqDiff,if_true,if_false,reduceIte]
                  show Go.Eng.Ex _ _ _ _ _ _
                  refine ex_cond rfl ?_
                  refine ex_skip ?_
                  show Go.Eng.Ex _ _ _ _ _ _
                  refine ex_region_w tt_ok 100 [0,0,0,0,2,0,0,0,0,0,0,0,0,0,0,0,0,0,0,0,0,0,0,0,0,0,0,0,0,0,0,0,0,0,0,0,0,0,0,0,0,0,0,0,0,0,0,0,0,0,0,0,0,0,0,0,0,0,0,0,0,0,0,0,0,0,0,0,0,0,0,0,0,0,0,0,0,0,0,0,0,0,0,0,0,0,0,0,0,0,0,0,0,0,0,1,1,1,1,1] [] (by kernel_rfl) (by kernel_rfl) fun K hK => ?_
                  try simp only [ltb]
                  refine runX_cut 4 fun K1 hK1 => ?_
                  simp only [ltb]
                  simp only [length_encTys,length_encExs,List.length_map,tt134,go_sem,reduceIte,reduceAdd,reduceLT,reduceLeDiff,reduceMul,reduceEqDiff,reduceSub,reduceCtorEq,List.take_length]
                  refine callS_ex (containsLb_tot _ (rfl) 155 2 (by simp only [List.length_cons,List.length_nil]; decide) x.labels (fun l => fits2_tot hG _ (fun n hn => rfl) fl ty kd lb hf l) hl) ?_
                  rintro _ ⟨r12, rfl⟩
                  try simp only [length_encTys,length_encExs,List.length_map,tt134,go_sem,reduceIte,reduceAdd,reduceLT,reduceLeDiff,reduceMul,reduceEqDiff,reduceSub,reduceCtorEq,List.take_length]
                  refine hK1 _ ?_
                  try simp only [ltb]
                  simp only [length_encTys,length_encExs,List.length_map,tt134,go_sem,reduceIte,reduceAdd,reduceLT,reduceLeDiff,reduceMul,reduceEqDiff,reduceSub,reduceCtorEq,List.take_length]
                  refine hK _ _ (by kernel_rfl) ?_
                  simp only [mkW,lkF,reduceAdd,reduceEqDiff,if_true,if_false,reduceIte]
                  refine ex_ret ?_
                  exact ⟨.inl rfl, _, ⟨_, rfl⟩, rfl⟩
                 ·skip
                  try simp only [ltb]
                  simp only [length_encTys,length_encExs,List.length_map,tt134,go_sem,reduceIte,reduceAdd,reduceLT,reduceLeDiff,reduceMul,reduceEqDiff,reduceSub,reduceCtorEq,List.take_length]
                  refine hK _ _ (by kernel_rfl) ?_
                  simp only [mkW,lkF,reduceAdd,reduceEqDiff,if_true,if_false,reduceIte]
                  show Go.Eng.Ex _ _ _ _ _ _
                  refine ex_if rfl (fun hc65 => ?_) (fun hc65 => ?_)
                  ·skip
                   refine ex_region_w tt_ok 100 [0,0,0,0,2] [] (by kernel_rfl) (by kernel_rfl) fun K hK => ?_
                   try simp only [ltb]
                   try simp only [ltb]
                   simp only [length_encTys,length_encExs,List.length_map,tt134,go_sem,reduceIte,reduceAdd,reduceLT,reduceLeDiff,reduceMul,reduceEqDiff,reduceSub,reduceCtorEq,List.take_length]
                   refine hK _ _ (by kernel_rfl) ?_
                   simp only [mkW,lkF,reduceAdd,reduceEqDiff,if_true,if_false,reduceIte]
                   refine ex_ret ?_
                   exact ⟨.inl rfl, _, ⟨_, rfl⟩, rfl⟩
                  ·skip
                   refine ex_skip ?_
                   show Go.Eng.Ex _ _ _ _ _ _
                   refine ex_region_w tt_ok 100 [0,0,0,0,2,0,0,0,0,0,0,0,0,0,0,0,0,0,0,0,0,0,0,0,0,0,0,0,0,0,0,0,0,0,0,0,0,0,0,0,0,0,0,0,0,0,0,0,0,0,0,0,0,0,0,0,0,0,0,0,0,0,0,0,0,0,0,0,0,0,0,0,0,0,0,0,0,0,0,0,0,0,0,0,0,0,0,0,0,0,0,0,0,0,0,1,1,1,1,1] [] (by kernel_rfl) (by kernel_rfl) fun K hK => ?_
                   try simp only [ltb]
                   refine runX_cut 4 fun K1 hK1 => ?_
                   simp only [ltb]
                   simp only [length_encTys,length_encExs,List.length_map,tt134,go_sem,reduceIte,reduceAdd,reduceLT,reduceLeDiff,reduceMul,reduceEqDiff,reduceSub,reduceCtorEq,List.take_length]
                   refine callS_ex (containsLb_tot _ (rfl) 155 2 (by simp only [List.length_cons,List.length_nil]; decide) x.labels (fun l => fits2_tot hG _ (fun n hn => rfl) fl ty kd lb hf l) hl) ?_
                   rintro _ ⟨r13, rfl⟩
                   try simp only [length_encTys,length_encExs,List.length_map,tt134,go_sem,reduceIte,reduceAdd,reduceLT,reduceLeDiff,reduceMul,reduceEqDiff,reduceSub,reduceCtorEq,List.take_length]
                   refine hK1 _ ?_
                   try simp only [ltb]
                   simp only [length_encTys,length_encExs,List.length_map,tt134,go_sem,reduceIte,reduceAdd,reduceLT,reduceLeDiff,reduceMul,reduceEqDiff,reduceSub,reduceCtorEq,List.take_length]
                   refine hK _ _ (by kernel_rfl) ?_
                   simp only [mkW,lkF,reduceAdd,reduceEqDiff,if_true,if_false,reduceIte]
                   refine ex_ret ?_
                   exact ⟨.inl rfl, _, ⟨_, rfl⟩, rfl⟩
theorem misnamed_tot (hG : Glob.g = some 0) (x : Ex) (fl : ByteArray) (ty kd : Int) (lb : Bool) (hf : fl.size ≤ 1048576) (hl : x.labels.length ≤ 1048576) (hm : x.mod.size ≤ 1048575) : ∃ r, isB r ∧ FnOk Tryz.prog 103 [encEx x, .agg [str fl, num ty, bl lb, num kd]] r := by
 refine fn_ex tt_ok (fn := Tryz.f103) Tryz.func103 rfl Tryz.call103 ?_
 simp only [startSt,Tryz.ntmps103,List.length_cons,List.length_nil,reduceAdd,reduceSub,List.replicate_succ,List.replicate_zero,List.cons_append,List.nil_append]
 simp only [encEx_eq,exCells]
 refine ex_region_w tt_ok 42 [0,0,2,2,2] [] (by kernel_rfl) (by kernel_rfl) fun K hK => ?_
 try simp only [ltb]
 try simp only [ltb]
 simp only [length_encTys,length_encExs,List.length_map,tt134,go_sem,reduceIte,reduceAdd,reduceLT,reduceLeDiff,reduceMul,reduceEqDiff,reduceSub,reduceCtorEq,List.take_length]
 refine hK _ _ (by kernel_rfl) ?_
 simp only [mkW,lkF,reduceAdd,reduceEqDiff,if_true,if_false,reduceIte]
 refine ex_region_w tt_ok 42 [0,0,0,0,0,2,1] [] (by kernel_rfl) (by kernel_rfl) fun K hK => ?_
 try simp only [ltb]
 try simp only [ltb]
 simp only [length_encTys,length_encExs,List.length_map,tt134,go_sem,reduceIte,reduceAdd,reduceLT,reduceLeDiff,reduceMul,reduceEqDiff,reduceSub,reduceCtorEq,List.take_length]
 refine hK _ _ (by kernel_rfl) ?_
 simp only [mkW,lkF,reduceAdd,reduceEqDiff,if_true,if_false,reduceIte]
 refine ex_seq ?_
 refine ex_block ?_
 refine ex_seq ?_
 refine ex_seq_joinK [7] 3 [true,true,true,true,true,true,true,true] (fun vs => ∃ b : Bool, vs = [bl b]) ?_ ?_
 ·skip
  refine ex_last_region_w tt_ok 42 [0,0,0,0,0,0,0,2,2,2,2,2,2,2,2,2] [(2, 10)] (by kernel_rfl) (by kernel_rfl) (by kernel_rfl) fun K hK => ?_
  try simp only [ltb]
  refine runX_cut 2 fun K1 hK1 => ?_
  simp only [ltb]
  simp only [length_encTys,length_encExs,List.length_map,tt134,go_sem,reduceIte,reduceAdd,reduceLT,reduceLeDiff,reduceMul,reduceEqDiff,reduceSub,reduceCtorEq,List.take_length]
  refine callS_ex (has2_tot hG _ (rfl) 1 fl ty kd lb rfl _ (by decide) hf) ?_
  rintro _ ⟨r1, rfl⟩
  try simp only [length_encTys,length_encExs,List.length_map,tt134,go_sem,reduceIte,reduceAdd,reduceLT,reduceLeDiff,reduceMul,reduceEqDiff,reduceSub,reduceCtorEq,List.take_length]
  refine hK1 _ ?_
  refine runX_cut 1 fun K1 hK1 => ?_
  simp only [ltb]
  simp only [length_encTys,length_encExs,List.length_map,tt134,go_sem,reduceIte,reduceAdd,reduceLT,reduceLeDiff,reduceMul,reduceEqDiff,reduceSub,reduceCtorEq,List.take_length]
  refine hK1 _ ?_
  refine runX_case 10 (by rfl) fun b hb2_2 => ?_
  cases b
  ·skip
   try simp only [ltb]
   simp only [length_encTys,length_encExs,List.length_map,tt134,go_sem,reduceIte,reduceAdd,reduceLT,reduceLeDiff,reduceMul,reduceEqDiff,reduceSub,reduceCtorEq,List.take_length]
   refine hK _ _ (by kernel_rfl) ?_
   simp only [mkW,lkF,reduceAdd,reduceEqDiff,if_true,if_false,reduceIte]
   refine ⟨[_], ?_, 3, [true,true,true,true,true,true,true,true], by omega, by simp only [maskFr,belowV,belowL,belowB,reduceLT,mkb], by simp only [maskFr,belowV,belowL,belowB,reduceLT,mkb], by simp only [maskFr,belowV,belowL,belowB,reduceLT,mkb,putAll,List.set_cons_zero,List.set_cons_succ]; rfl⟩
   exact ⟨_, rfl⟩
  ·skip
   refine runX_cut 3 fun K1 hK1 => ?_
   simp only [ltb]
   simp only [length_encTys,length_encExs,List.length_map,tt134,go_sem,reduceIte,reduceAdd,reduceLT,reduceLeDiff,reduceMul,reduceEqDiff,reduceSub,reduceCtorEq,List.take_length]
   refine callF_ex (module_tot hG x.mod hm) ?_
   rintro _ ⟨r2, rfl⟩
   try simp only [length_encTys,length_encExs,List.length_map,tt134,go_sem,reduceIte,reduceAdd,reduceLT,reduceLeDiff,reduceMul,reduceEqDiff,reduceSub,reduceCtorEq,List.take_length]
   refine hK1 _ ?_
   try simp only [ltb]
   simp only [length_encTys,length_encExs,List.length_map,tt134,go_sem,reduceIte,reduceAdd,reduceLT,reduceLeDiff,reduceMul,reduceEqDiff,reduceSub,reduceCtorEq,List.take_length]
   refine hK _ _ (by kernel_rfl) ?_
   simp only [mkW,lkF,reduceAdd,reduceEqDiff,if_true,if_false,reduceIte]
   refine ⟨[_], ?_, 3, [true,true,true,true,true,true,true,true], by omega, by simp only [maskFr,belowV,belowL,belowB,reduceLT,mkb], by simp only [maskFr,belowV,belowL,belowB,reduceLT,mkb], by simp only [maskFr,belowV,belowL,belowB,reduceLT,mkb,putAll,List.set_cons_zero,List.set_cons_succ]; rfl⟩
   exact ⟨_, rfl⟩
 ·intro vs hJ
  obtain ⟨b7, rfl⟩ := hJ
  simp only [maskFr,belowV,belowL,belowB,reduceLT,mkb,putAll,List.set_cons_zero,List.set_cons_succ]
  refine ex_if rfl (fun hc7 => ?_) (fun hc7 => ?_)
  ·skip
   refine ex_skip ?_
   show Go.Eng.Ex _ _ _ _ _ _
   refine ex_cond (b := true) (congrArg (fun b => V.sc (Value.bool b)) hc7) ?_
   refine ex_region_w tt_ok 42 [0,0,0,0,2] [] (by kernel_rfl) (by kernel_rfl) fun K hK => ?_
   try simp only [ltb]
   try simp only [ltb]
   simp only [length_encTys,length_encExs,List.length_map,tt134,go_sem,reduceIte,reduceAdd,reduceLT,reduceLeDiff,reduceMul,reduceEqDiff,reduceSub,reduceCtorEq,List.take_length]
   refine hK _ _ (by kernel_rfl) ?_
   simp only [mkW,lkF,reduceAdd,reduceEqDiff,if_true,if_false,reduceIte]
   refine ex_ret ?_
   exact ⟨.inl rfl, _, ⟨_, rfl⟩, rfl⟩
  ·skip
   refine ex_seq_joinK [7] 3 [true,true,true,true,true,true,true,true,true,true,true,true,true,true,true,true] (fun vs => ∃ b : Bool, vs = [bl b]) ?_ ?_
   ·skip
    refine ex_last_region_w tt_ok 42 [0,0,0,0,0,0,0,2,0,0,0,0,0,0,0,0,2,2,2,2,2,2,2,2,2,2,2,2,2] [(2, 18), (7, 23)] (by kernel_rfl) (by kernel_rfl) (by kernel_rfl) fun K hK => ?_
    try simp only [ltb]
    refine runX_cut 2 fun K1 hK1 => ?_
    simp only [ltb]
    simp only [length_encTys,length_encExs,List.length_map,tt134,go_sem,reduceIte,reduceAdd,reduceLT,reduceLeDiff,reduceMul,reduceEqDiff,reduceSub,reduceCtorEq,List.take_length]
    refine callS_ex (has2_tot hG _ (rfl) 1 fl ty kd lb rfl _ (by decide) hf) ?_
    rintro _ ⟨r3, rfl⟩
    try simp only [length_encTys,length_encExs,List.length_map,tt134,go_sem,reduceIte,reduceAdd,reduceLT,reduceLeDiff,reduceMul,reduceEqDiff,reduceSub,reduceCtorEq,List.take_length]
    refine hK1 _ ?_
    refine runX_cut 1 fun K1 hK1 => ?_
    simp only [ltb]
    simp only [length_encTys,length_encExs,List.length_map,tt134,go_sem,reduceIte,reduceAdd,reduceLT,reduceLeDiff,reduceMul,reduceEqDiff,reduceSub,reduceCtorEq,List.take_length]
    refine hK1 _ ?_
    refine runX_case 18 (by rfl) fun b hb3_2 => ?_
    cases b
    ·skip
     refine runX_cut 8 fun K1 hK1 => ?_
     simp only [ltb]
     simp only [length_encTys,length_encExs,List.length_map,tt134,go_sem,reduceIte,reduceAdd,reduceLT,reduceLeDiff,reduceMul,reduceEqDiff,reduceSub,reduceCtorEq,List.take_length]
     refine hK1 _ ?_
     try simp only [ltb]
     simp only [length_encTys,length_encExs,List.length_map,tt134,go_sem,reduceIte,reduceAdd,reduceLT,reduceLeDiff,reduceMul,reduceEqDiff,reduceSub,reduceCtorEq,List.take_length]
     refine hK _ _ (by kernel_rfl) ?_
     simp only [mkW,lkF,reduceAdd,reduceEqDiff,if_true,if_false,reduceIte]
     refine ⟨[_], ?_, 3, [true,true,true,true,true,true,true,true,true,true,true,true,true,true,true,true], by omega, by simp only [maskFr,belowV,belowL,belowB,reduceLT,mkb], by simp only [maskFr,belowV,belowL,belowB,reduceLT,mkb], by simp only [maskFr,belowV,belowL,belowB,reduceLT,mkb,putAll,List.set_cons_zero,List.set_cons_succ]; rfl⟩
     exact ⟨_, rfl⟩
    ·skip
     refine runX_cut 5 fun K1 hK1 => ?_
     simp only [ltb]
     simp only [length_encTys,length_encExs,List.length_map,tt134,go_sem,reduceIte,reduceAdd,reduceLT,reduceLeDiff,reduceMul,reduceEqDiff,reduceSub,reduceCtorEq,List.take_length]
     refine hK1 _ ?_
     refine runX_case 23 (by rfl) fun b hb3_7 => ?_
     cases b
     ·skip
      try simp only [ltb]
      simp only [length_encTys,length_encExs,List.length_map,tt134,go_sem,reduceIte,reduceAdd,reduceLT,reduceLeDiff,reduceMul,reduceEqDiff,reduceSub,reduceCtorEq,List.take_length]
      refine hK _ _ (by kernel_rfl) ?_
      simp only [mkW,lkF,reduceAdd,reduceEqDiff,if_true,if_false,reduceIte]
      refine ⟨[_], ?_, 3, [true,true,true,true,true,true,true,true,true,true,true,true,true,true,true,true], by omega, by simp only [maskFr,belowV,belowL,belowB,reduceLT,mkb], by simp only [maskFr,belowV,belowL,belowB,reduceLT,mkb], by simp only [maskFr,belowV,belowL,belowB,reduceLT,mkb,putAll,List.set_cons_zero,List.set_cons_succ]; rfl⟩
      exact ⟨_, rfl⟩
     ·skip
      refine runX_cut 3 fun K1 hK1 => ?_
      simp only [ltb]
      simp only [length_encTys,length_encExs,List.length_map,tt134,go_sem,reduceIte,reduceAdd,reduceLT,reduceLeDiff,reduceMul,reduceEqDiff,reduceSub,reduceCtorEq,List.take_length]
      refine callF_ex (isName_tot hG _) ?_
      rintro _ ⟨r4, rfl⟩
      try simp only [length_encTys,length_encExs,List.length_map,tt134,go_sem,reduceIte,reduceAdd,reduceLT,reduceLeDiff,reduceMul,reduceEqDiff,reduceSub,reduceCtorEq,List.take_length]
      refine hK1 _ ?_
      try simp only [ltb]
      simp only [length_encTys,length_encExs,List.length_map,tt134,go_sem,reduceIte,reduceAdd,reduceLT,reduceLeDiff,reduceMul,reduceEqDiff,reduceSub,reduceCtorEq,List.take_length]
      refine hK _ _ (by kernel_rfl) ?_
      simp only [mkW,lkF,reduceAdd,reduceEqDiff,if_true,if_false,reduceIte]
      refine ⟨[_], ?_, 3, [true,true,true,true,true,true,true,true,true,true,true,true,true,true,true,true], by omega, by simp only [maskFr,belowV,belowL,belowB,reduceLT,mkb], by simp only [maskFr,belowV,belowL,belowB,reduceLT,mkb], by simp only [maskFr,belowV,belowL,belowB,reduceLT,mkb,putAll,List.set_cons_zero,List.set_cons_succ]; rfl⟩
      exact ⟨_, rfl⟩
   ·intro vs hJ
    obtain ⟨b7, rfl⟩ := hJ
    simp only [maskFr,belowV,belowL,belowB,reduceLT,mkb,putAll,List.set_cons_zero,List.set_cons_succ]
    refine ex_if rfl (fun hc7 => ?_) (fun hc7 => ?_)
    ·skip
     refine ex_skip ?_
     show Go.Eng.Ex _ _ _ _ _ _
     refine ex_cond (b := true) (congrArg (fun b => V.sc (Value.bool b)) hc7) ?_
     refine ex_region_w tt_ok 42 [0,0,0,0,2] [] (by kernel_rfl) (by kernel_rfl) fun K hK => ?_
     try simp only [ltb]
     try simp only [ltb]
     simp only [length_encTys,length_encExs,List.length_map,tt134,go_sem,reduceIte,reduceAdd,reduceLT,reduceLeDiff,reduceMul,reduceEqDiff,reduceSub,reduceCtorEq,List.take_length]
     refine hK _ _ (by kernel_rfl) ?_
     simp only [mkW,lkF,reduceAdd,reduceEqDiff,if_true,if_false,reduceIte]
     refine ex_ret ?_
     exact ⟨.inl rfl, _, ⟨_, rfl⟩, rfl⟩
    ·skip
     refine ex_last_region_w tt_ok 42 [0,0,0,0,0,0,0,2,0,0,0,0,0,0,0,0,0,0,0,0,0,0,0,0,0,0,0,0,0,2,2,2,2,2,2,2,2,2] [(3, 32)] (by kernel_rfl) (by kernel_rfl) (by kernel_rfl) fun K hK => ?_
     try simp only [ltb]
     refine runX_cut 4 fun K1 hK1 => ?_
     simp only [ltb]
     simp only [length_encTys,length_encExs,List.length_map,tt134,go_sem,reduceIte,reduceAdd,reduceLT,reduceLeDiff,reduceMul,reduceEqDiff,reduceSub,reduceCtorEq,List.take_length]
     refine hK1 _ ?_
     refine runX_case 32 (by rfl) fun b hb4_3 => ?_
     cases b
     ·skip
      try simp only [ltb]
      simp only [length_encTys,length_encExs,List.length_map,tt134,go_sem,reduceIte,reduceAdd,reduceLT,reduceLeDiff,reduceMul,reduceEqDiff,reduceSub,reduceCtorEq,List.take_length]
      refine hK _ _ (by kernel_rfl) ?_
      simp only [mkW,lkF,reduceAdd,reduceEqDiff,if_true,if_false,reduceIte]
      show Go.Eng.Ex _ _ _ _ _ _
      refine ex_cond rfl ?_
      refine ex_skip ?_
      show Go.Eng.Ex _ _ _ _ _ _
      refine ex_region_w tt_ok 42 [0,0,0,0,2,0,0,0,0,0,0,0,0,0,0,0,0,0,0,0,0,0,0,0,0,0,0,0,0,0,0,0,0,0,0,0,0,0,1,1,1,1] [] (by kernel_rfl) (by kernel_rfl) fun K hK => ?_
      try simp only [ltb]
      refine runX_cut 4 fun K1 hK1 => ?_
      simp only [ltb]
      simp only [length_encTys,length_encExs,List.length_map,tt134,go_sem,reduceIte,reduceAdd,reduceLT,reduceLeDiff,reduceMul,reduceEqDiff,reduceSub,reduceCtorEq,List.take_length]
      refine callS_ex (containsLb_tot _ (rfl) 158 2 (by simp only [List.length_cons,List.length_nil]; decide) x.labels (fun l => misnamed2_tot hG _ (fun n hn => rfl) fl ty kd lb hf l) hl) ?_
      rintro _ ⟨r5, rfl⟩
      try simp only [length_encTys,length_encExs,List.length_map,tt134,go_sem,reduceIte,reduceAdd,reduceLT,reduceLeDiff,reduceMul,reduceEqDiff,reduceSub,reduceCtorEq,List.take_length]
      refine hK1 _ ?_
      try simp only [ltb]
      simp only [length_encTys,length_encExs,List.length_map,tt134,go_sem,reduceIte,reduceAdd,reduceLT,reduceLeDiff,reduceMul,reduceEqDiff,reduceSub,reduceCtorEq,List.take_length]
      refine hK _ _ (by kernel_rfl) ?_
      simp only [mkW,lkF,reduceAdd,reduceEqDiff,if_true,if_false,reduceIte]
      refine ex_ret ?_
      exact ⟨.inl rfl, _, ⟨_, rfl⟩, rfl⟩
     ·skip
      refine runX_cut 3 fun K1 hK1 => ?_
      simp only [ltb]
      simp only [length_encTys,length_encExs,List.length_map,tt134,go_sem,reduceIte,reduceAdd,reduceLT,reduceLeDiff,reduceMul,reduceEqDiff,reduceSub,reduceCtorEq,List.take_length]
      refine callF_ex (isName_tot hG _) ?_
      rintro _ ⟨r6, rfl⟩
      try simp only [length_encTys,length_encExs,List.length_map,tt134,go_sem,reduceIte,reduceAdd,reduceLT,reduceLeDiff,reduceMul,reduceEqDiff,reduceSub,reduceCtorEq,List.take_length]
      refine hK1 _ ?_
      try simp only [ltb]
      simp only [length_encTys,length_encExs,List.length_map,tt134,go_sem,reduceIte,reduceAdd,reduceLT,reduceLeDiff,reduceMul,reduceEqDiff,reduceSub,reduceCtorEq,List.take_length]
      refine hK _ _ (by kernel_rfl) ?_
      simp only [mkW,lkF,reduceAdd,reduceEqDiff,if_true,if_false,reduceIte]
      show Go.Eng.Ex _ _ _ _ _ _
      refine ex_if rfl (fun hc7 => ?_) (fun hc7 => ?_)
      ·skip
       refine ex_region_w tt_ok 42 [0,0,0,0,2] [] (by kernel_rfl) (by kernel_rfl) fun K hK => ?_
       try simp only [ltb]
       try simp only [ltb]
       simp only [length_encTys,length_encExs,List.length_map,tt134,go_sem,reduceIte,reduceAdd,reduceLT,reduceLeDiff,reduceMul,reduceEqDiff,reduceSub,reduceCtorEq,List.take_length]
       refine hK _ _ (by kernel_rfl) ?_
       simp only [mkW,lkF,reduceAdd,reduceEqDiff,if_true,if_false,reduceIte]
       refine ex_ret ?_
       exact ⟨.inl rfl, _, ⟨_, rfl⟩, rfl⟩
      ·skip
       refine ex_skip ?_
       show Go.Eng.Ex _ _ _ _ _ _
       refine ex_region_w tt_ok 42 [0,0,0,0,2,0,0,0,0,0,0,0,0,0,0,0,0,0,0,0,0,0,0,0,0,0,0,0,0,0,0,0,0,0,0,0,0,0,1,1,1,1] [] (by kernel_rfl) (by kernel_rfl) fun K hK => ?_
       try simp only [ltb]
       refine runX_cut 4 fun K1 hK1 => ?_
       simp only [ltb]
       simp only [length_encTys,length_encExs,List.length_map,tt134,go_sem,reduceIte,reduceAdd,reduceLT,reduceLeDiff,reduceMul,reduceEqDiff,reduceSub,reduceCtorEq,List.take_length]
       refine callS_ex (containsLb_tot _ (rfl) 158 2 (by simp only [List.length_cons,List.length_nil]; decide) x.labels (fun l => misnamed2_tot hG _ (fun n hn => rfl) fl ty kd lb hf l) hl) ?_
       rintro _ ⟨r7, rfl⟩
       try simp only [length_encTys,length_encExs,List.length_map,tt134,go_sem,reduceIte,reduceAdd,reduceLT,reduceLeDiff,reduceMul,reduceEqDiff,reduceSub,reduceCtorEq,List.take_length]
       refine hK1 _ ?_
       try simp only [ltb]
       simp only [length_encTys,length_encExs,List.length_map,tt134,go_sem,reduceIte,reduceAdd,reduceLT,reduceLeDiff,reduceMul,reduceEqDiff,reduceSub,reduceCtorEq,List.take_length]
       refine hK _ _ (by kernel_rfl) ?_
       simp only [mkW,lkF,reduceAdd,reduceEqDiff,if_true,if_false,reduceIte]
       refine ex_ret ?_
       exact ⟨.inl rfl, _, ⟨_, rfl⟩, rfl⟩
end Go.Proofs.YtpjdfcigadnhcaaGreatDoor
end

section
namespace Go.Proofs.YtpjdfcigadnhcaaGreatDoor
open Go.Eng
open Nat (reduceAdd reduceLT reduceLeDiff reduceMul reduceEqDiff reduceSub)
variable [Glob]
section
variable {σ : Type} {M : σ → List Blk} {n k k1 k2 : Nat}
theorem walkP_ok (hn : ∀ s, (M s).length = n) (hk : k < n) (hk1 : k1 < n) (hk2 : k2 < n) (h1 : ∀ s, (M s)[k1]? = some (.box [.yld k])) (h2 : ∀ s, (M s)[k2]? = some (.box [.clo (.func 92) [] [.ptr k1 0, .ptr k2 0]])) (hb : ∀ s, (M s).all (belowB n) = true)
  (step : σ → Ty → σ × Bool) (G : σ → Prop) (hG : ∀ s u, G s → (step s u).2 = true → G (step s u).1) {B : Nat} (hB : B ≤ 1048576) (Pd : Ty → Prop) (hy : ∀ s u, G s → u.size ≤ B → Pd u → YOk Tryz.prog k [encTy u] (M s) (step s u).2 (M (step s u).1)) :
  ∀ (N : Nat) (t : Ty) (s : σ), G s → (∀ v ∈ t.nodes, Pd v) → t.size ≤ N → N ≤ B → FnOkS Tryz.prog 92 [encTy t, .ptr k1 0, .ptr k2 0] (M s) (bl (stepL step s t.nodes).2) (M (stepL step s t.nodes).1) := by
 have g0 : ∀ s (l : List Blk), (M s ++ l)[n]? = l[0]? := fun s l => by rw [List.getElem?_append_right (by rw [hn]; exact Nat.le_refl _), hn, Nat.sub_self]
 have g1 : ∀ s (l : List Blk), (M s ++ l)[n + 1]? = l[1]? := fun s l => by rw [List.getElem?_append_right (by rw [hn]; omega), hn, Nat.add_sub_cancel_left]
 have gk1 : ∀ s (l : List Blk), (M s ++ l)[k1]? = some (.box [.yld k]) := fun s l => by rw [List.getElem?_append_left (by rw [hn]; exact hk1)]; exact h1 s
 have gk2 : ∀ s (l : List Blk), (M s ++ l)[k2]? = some (.box [.clo (.func 92) [] [.ptr k1 0, .ptr k2 0]]) := fun s l => by rw [List.getElem?_append_left (by rw [hn]; exact hk2)]; exact h2 s
 have gs : ∀ s (l : List Blk) X, (M s ++ l).set n X = M s ++ l.set 0 X := fun s l X => by rw [List.set_append_right _ _ (by rw [hn]; exact Nat.le_refl _), hn, Nat.sub_self]
 have gt : ∀ s (l : List Blk), (M s ++ l).take n = M s := fun s l => by rw [← hn s, List.take_left]
 have gt' : ∀ s, (M s).take n = M s := fun s => by rw [List.take_of_length_le (by rw [hn]; exact Nat.le_refl _)]
 have fy : ∀ s u (l : List Blk), G s → u.size ≤ B → Pd u → YOk Tryz.prog k [encTy u] (M s ++ l) (step s u).2 (M (step s u).1 ++ l) := fun s u l hg hu hp => by
  refine (hy s u hg hu hp).frame (by rw [hn]; exact hk) ?_ (by rw [hn]; exact hb s) (by rw [hn, hn]) (by rw [hn]; exact hb _) l
  rw [encTy_eq]; simp [belowV, belowL, tyCells]
 intro N
 induction N with
 | zero => intro t s hg hP h; have := t.size_pos; omega
 | succ N ih =>
  intro t s hg hP hN hNB
  have hpl := t.parts_length
  have hps := t.size_parts
  have hpn := length_le_sum Ty.size Ty.size_pos t.parts
  have hne := t.nodes_eq
  have hp := sparts_ok t (by omega)
  have hyt := fun l => fy s t l hg (by omega) (hP t (by rw [t.nodes_eq]; simp))
  have ihf : ∀ u s (l : List Blk), G s → (∀ v ∈ u.nodes, Pd v) → u.size ≤ N → FnOkS Tryz.prog 92 [encTy u, .ptr k1 0, .ptr k2 0] (M s ++ l) (bl (stepL step s u.nodes).2) (M (stepL step s u.nodes).1 ++ l) := fun u s l hg hq hu => by
   refine (ih u s hg hq hu (by omega)).frame ?_ (by rw [hn]; exact hb s) rfl (by rw [hn, hn]) (by rw [hn]; exact hb _) l
   rw [encTy_eq, hn]; simp [belowV, belowL, tyCells, hk1, hk2]
  simp only [encTy_eq,tyCells] at ihf
  refine fns_ok tt_ok (fn := Tryz.f92) n (by rw [hn]; exact Nat.le_refl _) Tryz.func92 rfl Tryz.call92 ?_
  simp only [startSt,Tryz.ntmps92,List.length_cons,List.length_nil,reduceAdd,reduceSub,List.replicate_succ,List.replicate_zero,List.cons_append,List.nil_append]
  rw [encTy_eq] at hp hyt ⊢
  simp only [tyCells] at hp hyt ⊢
  refine tri_seq_region tt_ok fun K hK => ?_
  simp only [hn,go_sem,reduceIte,reduceAdd,reduceLT,reduceLeDiff,reduceMul,reduceEqDiff,reduceSub,reduceCtorEq]
  refine hK _ ?_
  clear hK K
  refine tri_seq ?_
  refine tri_seq_region tt_ok fun K hK => ?_
  simp only [gk1,g0,hn,go_sem,reduceIte,reduceAdd,reduceLT,reduceLeDiff,reduceMul,reduceEqDiff,reduceSub,reduceCtorEq]
  refine .inl ⟨_, _, hyt _, ?_⟩
  try simp only [go_sem,reduceIte,reduceAdd,reduceLT,reduceLeDiff,reduceMul,reduceEqDiff,reduceSub,reduceCtorEq]
  refine hK _ ?_
  clear hK K
  cases hbb : (step s t).2 with
  | false =>
   refine tri_cond rfl ?_
   refine tri_seq_region tt_ok fun K hK => ?_
   simp only [go_sem,reduceIte,reduceAdd,reduceLT,reduceLeDiff,reduceMul,reduceEqDiff,reduceSub,reduceCtorEq]
   refine hK _ ?_
   clear hK K
   refine tri_ret ⟨.inl rfl, ?_⟩
   have hst : stepL step s t.nodes = ((step s t).1, false) := by rw [hne]; simp [stepL, hbb]
   rw [hst]
   exact ⟨rfl, rfl, by dsimp only; rw [gt]; exact hb _, (gt _ _).symm⟩
  | true =>
   refine tri_cond rfl (tri_skip ?_)
   show Tri _ _ _ _ _ _
   refine tri_seq ?_
   refine tri_seq_region tt_ok fun K hK => ?_
   simp only [gk1,g0,hn,go_sem,reduceIte,reduceAdd,reduceLT,reduceLeDiff,reduceMul,reduceEqDiff,reduceSub,reduceCtorEq]
   refine .inl ⟨_, _, by simp only [length_encTys,go_sem,reduceIte,reduceAdd,reduceLT,reduceLeDiff,reduceMul,reduceEqDiff,reduceSub,reduceCtorEq,List.take_length], hp, ?_⟩
   try simp only [length_encTys,go_sem,reduceIte,reduceAdd,reduceLT,reduceLeDiff,reduceMul,reduceEqDiff,reduceSub,reduceCtorEq]
   refine hK _ ?_
   clear hK K
   obtain ⟨ps, hps'⟩ : ∃ ps, ps = t.parts := ⟨_, rfl⟩
   rw [← hps'] at hps hpn hne ⊢
   have hPp : ∀ u ∈ ps, ∀ v ∈ u.nodes, Pd v := fun u hu v hv => hP v (by rw [hne]; exact List.mem_cons_of_mem _ (List.mem_flatMap.2 ⟨u, hu, hv⟩))
   refine tri_block (tri_loop_inv (fun N st => ∃ (i : Nat) (s' : σ), G s' ∧ N = ps.length - i ∧ i ≤ ps.length ∧ stepL step s (t :: (ps.take i).flatMap Ty.nodes) = (s', true) ∧
    st = { fr := [.undef, .ptr k1 0, .ptr k2 0, .undef, .undef, .undef, .undef, .undef, .undef, .undef, .undef, .undef, .slice (encTys ps), num ps.length, num i] ++ List.replicate 8 .undef, mem := M s' }) ps.length ?_ ?_)
   ·refine ⟨n, [false,true,true,false,false,false,false,false,false,false,false,false,true,true,true], by rw [hn]; exact Nat.le_refl _, by simp only [maskFr,belowV,belowL,belowB,reduceLT,mkb,hk1,hk2], by dsimp only; rw [gt]; exact hb _, 0, (step s t).1, hG s t hg hbb, by omega, by omega, by simp [stepL, hbb], ?_⟩
    dsimp only; rw [gt]; rfl
   ·rintro N' st ⟨i, s', hg', rfl, hi, hsi, rfl⟩
    simp only [List.replicate_succ,List.replicate_zero,List.cons_append,List.nil_append]
    by_cases hlt : i < ps.length
    ·have hd := lt_dec hlt
     refine tri_seq_region tt_ok fun K hK => ?_
     simp only [length_encTys,hd,go_sem,reduceIte,reduceAdd,reduceLT,reduceLeDiff,reduceMul,reduceEqDiff,reduceSub,reduceCtorEq]
     refine hK _ ?_
     clear hK K
     refine tri_seq (tri_cond rfl (tri_skip ?_))
     refine tri_seq (tri_block ?_)
     obtain ⟨u, hu⟩ : ∃ u, ps[i]? = some u := ⟨_, List.getElem?_eq_getElem hlt⟩
     have hus := sumBy_mem Ty.size hu
     have hrec := fun l => ihf u s' l hg' (hPp u (List.mem_of_getElem? hu)) (by omega)
     have htk : (ps.take (i + 1)).flatMap Ty.nodes = (ps.take i).flatMap Ty.nodes ++ u.nodes := by rw [List.take_add_one, hu]; simp
     have hnx : stepL step s (t :: (ps.take (i + 1)).flatMap Ty.nodes) = stepL step s' u.nodes := by
      rw [htk, ← List.cons_append, stepL_append, hsi]; simp
     refine tri_seq_region tt_ok fun K hK => ?_
     simp only [get_encTys,hu,encTy_eq,tyCells,hn,g0,gs,go_sem,reduceIte,reduceAdd,reduceLT,reduceLeDiff,reduceMul,reduceEqDiff,reduceSub,reduceCtorEq]
     refine hK _ ?_
     clear hK K
     refine tri_seq_region tt_ok fun K hK => ?_
     simp only [gk2,g0,hn,go_sem,reduceIte,reduceAdd,reduceLT,reduceLeDiff,reduceMul,reduceEqDiff,reduceSub,reduceCtorEq]
     refine .inr <| .inl ⟨_, _, hrec _, ?_⟩
     try simp only [go_sem,reduceIte,reduceAdd,reduceLT,reduceLeDiff,reduceMul,reduceEqDiff,reduceSub,reduceCtorEq]
     refine hK _ ?_
     clear hK K
     cases hbu : (stepL step s' u.nodes).2 with
     | false =>
      refine tri_cond rfl ?_
      refine tri_seq_region tt_ok fun K hK => ?_
      simp only [go_sem,reduceIte,reduceAdd,reduceLT,reduceLeDiff,reduceMul,reduceEqDiff,reduceSub,reduceCtorEq]
      refine hK _ ?_
      clear hK K
      refine tri_ret ⟨.inl rfl, ?_⟩
      have hst : stepL step s t.nodes = ((stepL step s' u.nodes).1, false) := by
       have hsplit : ps.flatMap Ty.nodes = (ps.take (i + 1)).flatMap Ty.nodes ++ (ps.drop (i + 1)).flatMap Ty.nodes := by rw [← List.flatMap_append, List.take_append_drop]
       rw [hne, hsplit, ← List.cons_append, stepL_append, hnx, hbu]; simp
      rw [hst]
      exact ⟨rfl, rfl, by dsimp only; rw [gt]; exact hb _, (gt _ _).symm⟩
     | true =>
      refine tri_cond rfl (tri_skip ?_)
      show Tri _ _ _ _ _ _
      refine tri_last_region tt_ok fun K hK => ?_
      simp only [go_sem,reduceIte,reduceAdd,reduceLT,reduceLeDiff,reduceMul,reduceEqDiff,reduceSub,reduceCtorEq]
      refine hK _ ?_
      clear hK K
      have hw2 := i64_succ i (by omega)
      rw [hw2]
      refine ⟨ps.length - (i + 1), by omega, n, [false,true,true,false,false,false,false,false,false,false,false,false,true,true,true], by rw [hn]; exact Nat.le_refl _, by simp only [maskFr,belowV,belowL,belowB,reduceLT,mkb,hk1,hk2], by dsimp only; rw [gt]; exact hb _, i + 1, (stepL step s' u.nodes).1, stepL_good step hG _ _ hg' hbu, rfl, hlt, by rw [hnx, ← hbu], ?_⟩
      dsimp only; rw [gt]; rfl
    ·have hd := ge_dec hlt
     refine tri_seq_region tt_ok fun K hK => ?_
     simp only [length_encTys,hd,go_sem,reduceIte,reduceAdd,reduceLT,reduceLeDiff,reduceMul,reduceEqDiff,reduceSub,reduceCtorEq]
     refine hK _ ?_
     clear hK K
     refine tri_seq (tri_cond rfl (tri_exit ?_))
     have hie : i = ps.length := by omega
     subst hie
     show Tri _ _ _ _ _ _
     refine tri_seq_region tt_ok fun K hK => ?_
     simp only [go_sem,reduceIte,reduceAdd,reduceLT,reduceLeDiff,reduceMul,reduceEqDiff,reduceSub,reduceCtorEq]
     refine hK _ ?_
     clear hK K
     refine tri_ret ⟨.inl rfl, ?_⟩
     rw [List.take_length] at hsi
     rw [hne, hsi]
     exact ⟨rfl, rfl, by dsimp only; rw [gt']; exact hb _, (gt' _).symm⟩
end

section
variable {σ : Type} {M : σ → List Blk} {n k kt : Nat}
theorem iterP_ok (hn : ∀ s, (M s).length = n) (hk : k < n) (hkt : kt < n) {t : Ty} (h1 : ∀ s, (M s)[kt]? = some (.box (tyCells t))) (hb : ∀ s, (M s).all (belowB n) = true)
  (step : σ → Ty → σ × Bool) (G : σ → Prop) (hG : ∀ s u, G s → (step s u).2 = true → G (step s u).1) {B : Nat} (hB : B ≤ 1048576) (Pd : Ty → Prop) (hy : ∀ s u, G s → u.size ≤ B → Pd u → YOk Tryz.prog k [encTy u] (M s) (step s u).2 (M (step s u).1)) (ht : t.size ≤ B) (hP : ∀ v ∈ t.nodes, Pd v) (s : σ) (hs : G s) :
  FnOkS Tryz.prog 91 [.yld k, .ptr kt 0] (M s) (.tup []) (M (stepL step s t.nodes).1) := by
 have g0 : ∀ s (l : List Blk), (M s ++ l)[n]? = l[0]? := fun s l => by rw [List.getElem?_append_right (by rw [hn]; exact Nat.le_refl _), hn, Nat.sub_self]
 have g1 : ∀ s (l : List Blk), (M s ++ l)[n + 1]? = l[1]? := fun s l => by rw [List.getElem?_append_right (by rw [hn]; omega), hn, Nat.add_sub_cancel_left]
 have gkt : ∀ s (l : List Blk), (M s ++ l)[kt]? = some (.box (tyCells t)) := fun s l => by rw [List.getElem?_append_left (by rw [hn]; exact hkt)]; exact h1 s
 have gs : ∀ s (l : List Blk) X, (M s ++ l).set (n + 1) X = M s ++ l.set 1 X := fun s l X => by rw [List.set_append_right _ _ (by rw [hn]; omega), hn, Nat.add_sub_cancel_left]
 have gt : ∀ s (l : List Blk), (M s ++ l).take n = M s := fun s l => by rw [← hn s, List.take_left]
 have hw : ∀ s, G s → FnOkS Tryz.prog 92 [encTy t, .ptr n 0, .ptr (n + 1) 0] (M s ++ [.box [.yld k], .box [.clo (.func 92) [] [.ptr n 0, .ptr (n + 1) 0]]]) (bl (stepL step s t.nodes).2) (M (stepL step s t.nodes).1 ++ [.box [.yld k], .box [.clo (.func 92) [] [.ptr n 0, .ptr (n + 1) 0]]]) := fun s hs => by
  refine walkP_ok (M := fun s => M s ++ [.box [.yld k], .box [.clo (.func 92) [] [.ptr n 0, .ptr (n + 1) 0]]]) (n := n + 2) (k := k) (k1 := n) (k2 := n + 1) (fun s => by simp [hn]) (by omega) (by omega) (by omega) (fun s => g0 _ _) (fun s => g1 _ _) (fun s => ?_) step G hG hB Pd (fun s u hg hu hq => ?_) t.size t s hs hP (Nat.le_refl _) ht
  ·rw [List.all_append, Bool.and_eq_true]
   refine ⟨belowBs_mono (by omega) (hb s), ?_⟩
   simp [belowB, belowV, belowL]; omega
  ·refine (hy s u hg hu hq).frame (by rw [hn]; exact hk) ?_ (by rw [hn]; exact hb s) (by rw [hn, hn]) (by rw [hn]; exact hb _) _
   rw [encTy_eq]; simp [belowV, belowL, tyCells]
 refine fns_ok tt_ok (fn := Tryz.f91) n (by rw [hn]; exact Nat.le_refl _) Tryz.func91 rfl Tryz.call91 ?_
 simp only [startSt,Tryz.ntmps91,List.length_cons,List.length_nil,reduceAdd,reduceSub,List.replicate_succ,List.replicate_zero,List.cons_append,List.nil_append]
 have hws := hw s hs
 rw [encTy_eq] at hws
 simp only [tyCells] at hws gkt
 refine tri_seq_region tt_ok fun K hK => ?_
 simp only [hn,go_sem,reduceIte,reduceAdd,reduceLT,reduceLeDiff,reduceMul,reduceEqDiff,reduceSub,reduceCtorEq]
 refine hK _ ?_
 clear hK K
 refine tri_seq_region tt_ok fun K hK => ?_
 simp only [hn,List.length_append,List.append_assoc,go_sem,reduceIte,reduceAdd,reduceLT,reduceLeDiff,reduceMul,reduceEqDiff,reduceSub,reduceCtorEq]
 refine hK _ ?_
 clear hK K
 refine tri_seq_region tt_ok fun K hK => ?_
 simp only [hn,g1,gs,go_sem,reduceIte,reduceAdd,reduceLT,reduceLeDiff,reduceMul,reduceEqDiff,reduceSub,reduceCtorEq]
 refine hK _ ?_
 clear hK K
 refine tri_last_region tt_ok fun K hK => ?_
 simp only [hn,g1,gkt,go_sem,reduceIte,reduceAdd,reduceLT,reduceLeDiff,reduceMul,reduceEqDiff,reduceSub,reduceCtorEq]
 refine .inr <| .inl ⟨_, _, hws, ?_⟩
 try simp only [go_sem,reduceIte,reduceAdd,reduceLT,reduceLeDiff,reduceMul,reduceEqDiff,reduceSub,reduceCtorEq]
 refine hK _ ?_
 clear hK K
 refine ⟨.inr rfl, rfl, rfl, ?_, ?_⟩
 ·dsimp only; rw [gt]; exact hb _
 ·dsimp only; rw [gt]



theorem triP_types {n0 : Nat} {st : St} {Q : Exit → St → Prop} {f : Operand} {params : Array Tmp} {assign body : Code} {t : Ty} (pre : σ → List Blk) (s0 : σ) (n kt : Nat) (hmem : st.mem = pre s0) (hn : ∀ s, (pre s).length = n) (hkt : kt < n)
  (ht : ∀ s, (pre s)[kt]? = some (.box (tyCells t))) (hb : ∀ s, (pre s).all (belowB (n + 1)) = true) (hfr : st.fr.all (belowV (n + 1)) = true) (hf : st.eval f = .clo (.func 91) [] [.ptr kt 0]) (hp : params.size = 1) (step : σ → Ty → σ × Option Code) {B : Nat} (hB : B ≤ 1048576) (hsz : t.size ≤ B) (Pd : Ty → Prop) (hPt : ∀ v ∈ t.nodes, Pd v)
  (hbody : ∀ s u, u.size ≤ B → Pd u → ∀ (l : Nat) (LR LB : Blk), belowB (n + 1) LR = true → belowB (n + 1) LB = true → Tri Tryz.prog (some l) (n + 1) assign { fr := setPs params.toList [encTy u] st.fr, mem := pre s ++ [LR] } fun ex st1 => ex = .normal ∧ st1.mem[n]? = some LR ∧
   Tri Tryz.prog (some l) (n + 1) body { st1 with mem := st1.mem.set n LB } fun ex st2 => jumpOf ex = some (step s u).2 ∧ st2.mem[n]? = some LB ∧ st2.mem.take n = pre (step s u).1)
  (hq : match (stepJ step s0 t.nodes).2 with
   | none => Q .normal { st with mem := pre (stepJ step s0 t.nodes).1 ++ [.dead] }
   | some c => Tri Tryz.prog none n0 c { st with mem := pre (stepJ step s0 t.nodes).1 ++ [.dead] } Q) : Tri Tryz.prog none n0 (.rangeFunc f params assign body) st Q := by
 have hlen : st.mem.length = n := by rw [hmem, hn]
 have gn : ∀ s X, (pre s ++ [X])[n]? = some X := fun s X => by rw [List.getElem?_append_right (by rw [hn]; exact Nat.le_refl _), hn, Nat.sub_self]; rfl
 have gk : ∀ s X, (pre s ++ [X])[kt]? = some (.box (tyCells t)) := fun s X => by rw [List.getElem?_append_left (by rw [hn]; exact hkt)]; exact ht s
 have gset : ∀ s (X Y : Blk), (pre s ++ [X]).set n Y = pre s ++ [Y] := fun s X Y => by rw [List.set_append_right _ _ (by rw [hn]; exact Nat.le_refl _), hn, Nat.sub_self]; rfl
 have hball : ∀ (s : σ) (a : LoopState) (b : Option Code), (pre s ++ [Blk.loop a b st.fr params assign body]).all (belowB (n + 1)) = true := fun s a b => by
  rw [List.all_append, Bool.and_eq_true]
  exact ⟨hb s, by simp only [List.all_cons,List.all_nil,Bool.and_true,belowB]; exact hfr⟩
 have it := iterP_ok (M := fun s : σ × Option Code => pre s.1 ++ [.loop (if s.2.isNone then .ready else .done) s.2 st.fr params assign body]) (n := n + 1) (k := n) (kt := kt) (t := t) (fun s => by simp [hn]) (by omega) (by omega) (fun s => gk _ _) (fun s => hball _ _ _)
  (stepB step) (fun s => s.2 = none) (fun s u hs h => by simpa [stepB] using h) hB Pd (fun s u hs hu hq => by
   obtain ⟨s, j⟩ := s
   simp only at hs; subst hs
   refine yok_of_body (fr := st.fr) (params := params) (assign := assign) (body := body) (gn _ _) (by simp [hp]) fun l => ?_
   have hl : (pre s ++ [Blk.loop .ready none st.fr params assign body]).length = n + 1 := by simp [hn]
   simp only [Option.isNone_none,if_true,hl]
   refine Tri.mono (hbody s u hu hq l (.loop .ready none st.fr params assign body) (.loop .busy none st.fr params assign body) hfr hfr) ?_
   rintro ex st1 ⟨h1, h2, h3⟩
   refine ⟨h1, h2, Tri.mono h3 ?_⟩
   rintro ex st2 ⟨h4, h5, h6⟩
   refine ⟨_, h4, rfl, h5, ?_, ?_⟩
   ·rw [take_set (hn _) h5 h6]; exact hball _ _ _
   ·rw [take_set (hn _) h5 h6]; rfl) hsz hPt (s0, none) rfl
 rw [stepJ_L] at it
 refine tri_rangeFunc (g := 91) (vs := [.yld n, .ptr kt 0]) (by rw [hf, hlen]; rfl) (by rw [hmem]; exact it) ?_
 rw [hlen]
 refine ⟨_, _, _, _, _, _, gn _ _, ?_, ?_⟩
 ·cases (stepJ step s0 t.nodes).2 <;> simp
 ·generalize hj : (stepJ step s0 t.nodes).2 = j at hq
  cases j with
  | none => dsimp only at hq ⊢; rw [gset]; exact hq
  | some c => dsimp only at hq ⊢; rw [gset]; exact hq
end

end Go.Proofs.YtpjdfcigadnhcaaGreatDoor
end

section
namespace Go.Proofs.YtpjdfcigadnhcaaGreatDoor
open Go.Eng
open Nat (reduceAdd reduceLT reduceLeDiff reduceMul reduceEqDiff reduceSub)
variable [Glob]
set_option maxHeartbeats 4000000
set_option maxRecDepth 100000
theorem typeNode_n (hG : Glob.g = some 0) (t : Ty) (hl : t.flds.length ≤ 1048576) (hm : t.mod.size ≤ 1048575) : ∃ n : Int, FnOk Tryz.prog 56 [encTy t] (num n) := by
 obtain ⟨_, ⟨n, rfl⟩, h⟩ := typeNode_tot hG t hl hm
 exact ⟨n, h⟩
open Classical in
noncomputable def tnOf (hG : Glob.g = some 0) (t : Ty) : Int := if h : t.flds.length ≤ 1048576 ∧ t.mod.size ≤ 1048575 then Classical.choose (typeNode_n hG t h.1 h.2) else 0
theorem tnOf_ok (hG : Glob.g = some 0) (t : Ty) (hl : t.flds.length ≤ 1048576) (hm : t.mod.size ≤ 1048575) : FnOk Tryz.prog 56 [encTy t] (num (tnOf hG t)) := by
 unfold tnOf
 rw [dif_pos ⟨hl, hm⟩]
 exact Classical.choose_spec (typeNode_n hG t hl hm)
noncomputable def firstE (f : Ty → Int) : List Ty → Int
 | [] => 0
 | u :: r => if decide (f u = 0) = true then firstE f r else f u
noncomputable def ctRes (hG : Glob.g = some 0) (t : Ty) : Int := if decide (4096 < (t.size : Int)) || decide (32 < (t.depth : Int)) then 7 else firstE (tnOf hG) t.nodes
theorem stepJ_first (f : Ty → Int) (c : Code) : ∀ (l : List Ty) (s : Int), stepJ (fun (s : Int) u => if decide (f u = 0) = true then (s, none) else (f u, some c)) s l = if decide (firstE f l = 0) = true then (s, none) else (firstE f l, some c)
 | [], s => by simp [stepJ, firstE]
 | u :: r, s => by
  by_cases h : f u = 0
  ·simp only [stepJ,firstE,h,decide_true,if_true]
   exact stepJ_first f c r s
  ·have hd : decide (f u = 0) = false := decide_eq_false h
   simp [stepJ, firstE, hd, h]
theorem checkType_ok (hG : Glob.g = some 0) (t : Ty) (ht : t.size ≤ 1048576) (hP : ∀ v ∈ t.nodes, v.mod.size ≤ 1048575) : FnOk Tryz.prog 20 [encTy t] (num (ctRes hG t)) := by
 have h14 := stsize_ok t ht
 have h16 := stdepth_ok t.size t (Nat.le_refl _) ht
 have h51 := fun B0 B1 h => types_ok t [B0, B1] h
 refine fn_ok tt_ok (fn := Tryz.f20) Tryz.func20 rfl Tryz.call20 ?_
 simp only [startSt,Tryz.ntmps20,List.length_cons,List.length_nil,reduceAdd,reduceSub,List.replicate_succ,List.replicate_zero,List.cons_append,List.nil_append]
 rw [encTy_eq] at h14 h16 h51 ⊢
 simp only [tyCells] at h14 h16 h51 ⊢
 refine tri_seq_region tt_ok fun K hK => ?_
 simp only [go_sem,reduceIte,reduceAdd,reduceLT,reduceLeDiff,reduceMul,reduceEqDiff,reduceSub,reduceCtorEq]
 refine hK _ ?_
 clear hK K
 refine tri_seq ?_
 have res : ctRes hG t = if decide (4096 < (t.size : Int)) || decide (32 < (t.depth : Int)) then 7 else firstE (tnOf hG) t.nodes := rfl
 cases c1 : decide (4096 < (t.size : Int)) with
 | true =>
  rw [c1] at res
  refine tri_seq_region tt_ok fun K hK => ?_
  simp only [c1,go_sem,reduceIte,reduceAdd,reduceLT,reduceLeDiff,reduceMul,reduceEqDiff,reduceSub,reduceCtorEq]
  refine .inl ⟨_, _, by simp only [c1,go_sem,reduceIte,reduceAdd,reduceLT,reduceLeDiff,reduceMul,reduceEqDiff,reduceSub,reduceCtorEq,List.take_length], h14, ?_⟩
  try simp only [c1,go_sem,reduceIte,reduceAdd,reduceLT,reduceLeDiff,reduceMul,reduceEqDiff,reduceSub,reduceCtorEq]
  refine hK _ ?_
  clear hK K
  refine tri_cond rfl ?_
  refine tri_seq_region tt_ok fun K hK => ?_
  simp only [go_sem,reduceIte,reduceAdd,reduceLT,reduceLeDiff,reduceMul,reduceEqDiff,reduceSub,reduceCtorEq]
  refine hK _ ?_
  clear hK K
  refine tri_ret ⟨.inl rfl, ?_⟩
  rw [res]; rfl
 | false =>
  rw [c1] at res
  cases c2 : decide (32 < (t.depth : Int)) with
  | true =>
   rw [c2] at res
   refine tri_seq_region tt_ok fun K hK => ?_
   simp only [c1,go_sem,reduceIte,reduceAdd,reduceLT,reduceLeDiff,reduceMul,reduceEqDiff,reduceSub,reduceCtorEq]
   refine .inl ⟨_, _, by simp only [c1,go_sem,reduceIte,reduceAdd,reduceLT,reduceLeDiff,reduceMul,reduceEqDiff,reduceSub,reduceCtorEq,List.take_length], h14, ?_⟩
   try simp only [c1,go_sem,reduceIte,reduceAdd,reduceLT,reduceLeDiff,reduceMul,reduceEqDiff,reduceSub,reduceCtorEq]
   refine .inl ⟨_, _, by simp only [c2,go_sem,reduceIte,reduceAdd,reduceLT,reduceLeDiff,reduceMul,reduceEqDiff,reduceSub,reduceCtorEq,List.take_length], h16, ?_⟩
   try simp only [c2,go_sem,reduceIte,reduceAdd,reduceLT,reduceLeDiff,reduceMul,reduceEqDiff,reduceSub,reduceCtorEq]
   refine hK _ ?_
   clear hK K
   refine tri_cond rfl ?_
   refine tri_seq_region tt_ok fun K hK => ?_
   simp only [go_sem,reduceIte,reduceAdd,reduceLT,reduceLeDiff,reduceMul,reduceEqDiff,reduceSub,reduceCtorEq]
   refine hK _ ?_
   clear hK K
   refine tri_ret ⟨.inl rfl, ?_⟩
   rw [res]; rfl
  | false =>
   rw [c2] at res
   refine tri_seq_region tt_ok fun K hK => ?_
   simp only [c1,go_sem,reduceIte,reduceAdd,reduceLT,reduceLeDiff,reduceMul,reduceEqDiff,reduceSub,reduceCtorEq]
   refine .inl ⟨_, _, by simp only [c1,go_sem,reduceIte,reduceAdd,reduceLT,reduceLeDiff,reduceMul,reduceEqDiff,reduceSub,reduceCtorEq,List.take_length], h14, ?_⟩
   try simp only [c1,go_sem,reduceIte,reduceAdd,reduceLT,reduceLeDiff,reduceMul,reduceEqDiff,reduceSub,reduceCtorEq]
   refine .inl ⟨_, _, by simp only [c2,go_sem,reduceIte,reduceAdd,reduceLT,reduceLeDiff,reduceMul,reduceEqDiff,reduceSub,reduceCtorEq,List.take_length], h16, ?_⟩
   try simp only [c2,go_sem,reduceIte,reduceAdd,reduceLT,reduceLeDiff,reduceMul,reduceEqDiff,reduceSub,reduceCtorEq]
   refine hK _ ?_
   clear hK K
   refine tri_cond rfl (tri_skip ?_)
   show Tri _ _ _ _ _ _
   refine tri_seq ?_
   refine tri_seq_region tt_ok fun K hK => ?_
   simp only [go_sem,reduceIte,reduceAdd,reduceLT,reduceLeDiff,reduceMul,reduceEqDiff,reduceSub,reduceCtorEq]
   refine .inr <| .inl ⟨_, _, h51 _ _ rfl, ?_⟩
   try simp only [go_sem,reduceIte,reduceAdd,reduceLT,reduceLeDiff,reduceMul,reduceEqDiff,reduceSub,reduceCtorEq]
   refine hK _ ?_
   clear hK K
   refine tri_block (triP_types (t := t) (B := 1048576) (fun s : Int => [.box (tyCells t), .box [num s], .box (tyCells t)]) 0 3 2 rfl (fun _ => rfl) (by omega) (fun _ => rfl) (fun _ => rfl) rfl rfl rfl (fun s u => if decide (tnOf hG u = 0) = true then (s, none) else (tnOf hG u, some .ret)) (by omega) ht (fun v => v.mod.size ≤ 1048575) hP ?_ ?_)
   ·intro s u hu hm l LR LB hLR hLB
    have hpl := u.parts_length
    have hn := tnOf_ok hG u (by omega) hm
    rw [encTy_eq] at hn ⊢
    simp only [tyCells] at hn
    simp only [setPs,tyCells,List.set_cons_succ,List.set_cons_zero,List.cons_append,List.nil_append]
    refine tri_last_region tt_ok fun K hK => ?_
    simp only [go_sem,reduceIte,reduceAdd,reduceLT,reduceLeDiff,reduceMul,reduceEqDiff,reduceSub,reduceCtorEq]
    refine hK _ ?_
    clear hK K
    refine ⟨rfl, rfl, tri_block ?_⟩
    simp only [List.set_cons_succ,List.set_cons_zero]
    refine tri_seq_region tt_ok fun K hK => ?_
    simp only [go_sem,reduceIte,reduceAdd,reduceLT,reduceLeDiff,reduceMul,reduceEqDiff,reduceSub,reduceCtorEq]
    refine .inl ⟨_, _, by simp only [go_sem,reduceIte,reduceAdd,reduceLT,reduceLeDiff,reduceMul,reduceEqDiff,reduceSub,reduceCtorEq,List.take_length], hn, ?_⟩
    try simp only [go_sem,reduceIte,reduceAdd,reduceLT,reduceLeDiff,reduceMul,reduceEqDiff,reduceSub,reduceCtorEq]
    refine hK _ ?_
    clear hK K
    refine tri_seq ?_
    cases c3 : decide (tnOf hG u = 0) with
    | true =>
     refine tri_last_region tt_ok fun K hK => ?_
     simp only [c3,go_sem,reduceIte,reduceAdd,reduceLT,reduceLeDiff,reduceMul,reduceEqDiff,reduceSub,reduceCtorEq]
     refine hK _ ?_
     clear hK K
     refine tri_cond rfl (tri_skip ?_)
     exact ⟨rfl, rfl, rfl⟩
    | false =>
     refine tri_last_region tt_ok fun K hK => ?_
     simp only [c3,go_sem,reduceIte,reduceAdd,reduceLT,reduceLeDiff,reduceMul,reduceEqDiff,reduceSub,reduceCtorEq]
     refine hK _ ?_
     clear hK K
     refine tri_cond rfl ?_
     refine tri_seq_region tt_ok fun K hK => ?_
     simp only [go_sem,reduceIte,reduceAdd,reduceLT,reduceLeDiff,reduceMul,reduceEqDiff,reduceSub,reduceCtorEq]
     refine hK _ ?_
     clear hK K
     exact tri_ret ⟨rfl, rfl, rfl⟩
   ·rw [stepJ_first]
    simp only [Bool.or_self,Bool.false_eq_true,if_false] at res
    rw [res]
    cases c4 : decide (firstE (tnOf hG) t.nodes = 0) with
    | true =>
     have e0 : firstE (tnOf hG) t.nodes = 0 := of_decide_eq_true c4
     simp only [if_true]
     show Tri _ _ _ _ _ _
     refine tri_seq_region tt_ok fun K hK => ?_
     simp only [go_sem,reduceIte,reduceAdd,reduceLT,reduceLeDiff,reduceMul,reduceEqDiff,reduceSub,reduceCtorEq]
     refine hK _ ?_
     clear hK K
     refine tri_ret ⟨.inl rfl, ?_⟩
     rw [e0]; rfl
    | false =>
     simp only [Bool.false_eq_true,if_false]
     exact tri_ret ⟨.inl rfl, rfl⟩
end Go.Proofs.YtpjdfcigadnhcaaGreatDoor
end

section
namespace Go.Proofs.YtpjdfcigadnhcaaGreatDoor
open Go.Eng
open Nat (reduceAdd reduceLT reduceLeDiff reduceMul reduceEqDiff reduceSub)
variable [Glob]
set_option maxHeartbeats 4000000
set_option maxRecDepth 100000
attribute [local irreducible] runM stepM valD stepOp stepD callF callS
theorem isN_of {f : FuncId} {vs : List V} {n : Int} (h : FnOk Tryz.prog f vs (num n)) : ∃ v, isN v ∧ FnOk Tryz.prog f vs v := ⟨_, ⟨_, rfl⟩, h⟩
def FormMap (kvs : List (Value × Nat × V)) : Prop := ∀ e ∈ kvs, isIntK .i64 e.1 ∧ ∃ (fl : ByteArray) (ty kd : Int) (lb : Bool), e.2.2 = .agg [str fl, num ty, bl lb, num kd] ∧ fl.size ≤ 1048576
theorem FormMap.below {kvs : List (Value × Nat × V)} (h : FormMap kvs) (n : Nat) : (kvs.all fun e => belowV n e.2.2) = true := List.all_eq_true.2 fun e he => by
 obtain ⟨-, fl, ty, kd, lb, e1, -⟩ := h e he
 rw [e1]; rfl
theorem key87 : KeyT Tryz.prog 87 3 134 (isIntK .i64) := keyT_int (by kernel_rfl) (by kernel_rfl)
theorem FormMap.look {kvs : List (Value × Nat × V)} (h : FormMap kvs) {mem : List Blk} {b cl : Nat} (hm : mem[b]? = some (.map kvs cl)) (n : Int) :
  ∃ (fl : ByteArray) (ty kd : Int) (lb ok : Bool), lookupV Tryz.prog mem 87 (.mp b) (num n) true = some (.tup [.agg [str fl, num ty, bl lb, num kd], bl ok]) ∧ fl.size ≤ 1048576 := by
 rcases lookup_key key87 (k := .int .i64 n) ⟨n, rfl⟩ rfl hm (fun e he => (h e he).1) (z := .agg [str ⟨#[]⟩, num 0, bl false, num 0]) (by kernel_rfl) true with ⟨h1, -⟩ | ⟨e, he, -, h1⟩
 ·exact ⟨_, _, _, _, _, h1, by decide⟩
 ·obtain ⟨-, fl, ty, kd, lb, e1, hs⟩ := h e he
  rw [e1] at h1
  exact ⟨_, _, _, _, _, h1, hs⟩
theorem exprNode_tot (hG : Glob.g = some 0) (b0 b1 b3 b4 b5 b6 : Blk) (kvs : List (Value × Nat × V)) (cl : Nat) (hb : ∀ n, 7 ≤ n → belowB n b0 = true ∧ belowB n b1 = true ∧ belowB n b3 = true ∧ belowB n b4 = true ∧ belowB n b5 = true ∧ belowB n b6 = true) (hkf : FormMap kvs) (x : Ex) (hw : x.wt ≤ 1048576) : ∃ r, isN r ∧ FnOkS Tryz.prog 59 [encEx x, .mp 2] ([b0, b1, .map kvs cl, b3, b4, b5, b6]) r ([b0, b1, .map kvs cl, b3, b4, b5, b6]) := by
 refine fns_ex tt_ok (fn := Tryz.f59) Tryz.func59 rfl Tryz.call59 (by simp only [List.all_cons,List.all_nil,bB_box,bB_map,bB_rows,bB_frz,bB_dead,bB_hole,List.length_cons,List.length_nil,reduceAdd,Bool.and_self,Bool.and_true,(hb 7 (by omega)).1,(hb 7 (by omega)).2.1,(hb 7 (by omega)).2.2.1,(hb 7 (by omega)).2.2.2.1,(hb 7 (by omega)).2.2.2.2.1,(hb 7 (by omega)).2.2.2.2.2,hkf.below 7]) ?_
 simp only [startSt,Tryz.ntmps59,List.length_cons,List.length_nil,reduceAdd,reduceSub,List.replicate_succ,List.replicate_zero,List.cons_append,List.nil_append]
 have hb0 := fun n h => (hb n h).1
 have hb1 := fun n h => (hb n h).2.1
 have hb3 := fun n h => (hb n h).2.2.1
 have hb4 := fun n h => (hb n h).2.2.2.1
 have hb5 := fun n h => (hb n h).2.2.2.2.1
 have hb6 := fun n h => (hb n h).2.2.2.2.2
 have hbk : ∀ n, (kvs.all fun e => belowV n e.2.2) = true := fun n => hkf.below n
 have hlb := x.labels_le
 have hml := x.mod_lt
 have hwb := x.bulk_le_wt
 have hol := x.own_le
 simp only [encEx_eq,exCells]
 obtain ⟨fl, ty, kd, lb, ok, hlook, hf⟩ := hkf.look (mem := [b0, b1, .map kvs cl, b3, b4, b5, b6, .box [num x.kind, str x.mod, str x.name, str x.text, num x.num, .slice (encTys x.types), .slice (x.labels.map encLb), .slice (encExs x.kids)]]) (b := 2) rfl x.kind
 have hT9 : Tryz.prog.underlying 9 = some .string := by kernel_rfl
 have sl : ∀ (a : ByteArray) (ty : TypeId), liftL Tryz.prog (Builtin.len_ #[9] ty) [.sc (.string a)] = some (num a.size) := fun a ty => ev_slen (P := Tryz.prog) (tt := tt) (T := 9) a hT9 ty
 refine ex_region_w tt_ok 77 [0,0,2,0,2] [] (by kernel_rfl) (by kernel_rfl) fun K hK => ?_
 try simp only [ltb]
 try simp only [ltb]
 simp only [length_encTys,length_encExs,List.length_map,tt134,hlook,sl,go_sem,reduceIte,reduceAdd,reduceLT,reduceLeDiff,reduceMul,reduceEqDiff,reduceSub,reduceCtorEq,List.take_length]
 refine hK _ _ (by kernel_rfl) ?_
 simp only [mkW,lkF,reduceAdd,reduceEqDiff,if_true,if_false,reduceIte]
 refine ex_region_w tt_ok 77 [0,0,0,0,0,2,2,0,0,0,0,1,1,1,1,1,1,1] [] (by kernel_rfl) (by kernel_rfl) fun K hK => ?_
 try simp only [ltb]
 refine runX_cut 8 fun K1 hK1 => ?_
 simp only [ltb]
 simp only [length_encTys,length_encExs,List.length_map,tt134,hlook,sl,go_sem,reduceIte,reduceAdd,reduceLT,reduceLeDiff,reduceMul,reduceEqDiff,reduceSub,reduceCtorEq,List.take_length]
 refine hK1 _ ?_
 try simp only [ltb]
 simp only [length_encTys,length_encExs,List.length_map,tt134,hlook,sl,go_sem,reduceIte,reduceAdd,reduceLT,reduceLeDiff,reduceMul,reduceEqDiff,reduceSub,reduceCtorEq,List.take_length]
 refine hK _ _ (by kernel_rfl) ?_
 simp only [mkW,lkF,reduceAdd,reduceEqDiff,if_true,if_false,reduceIte]
 refine ex_seq ?_
 refine ex_block ?_
 refine ex_region_w tt_ok 77 [0,0,0,0,0,0,0,0,0,0,0,0,0,0,0,0,0,0,2,1,1,1,1,1,1,1,1] [(2, 21)] (by kernel_rfl) (by kernel_rfl) fun K hK => ?_
 try simp only [ltb]
 refine runX_cut 3 fun K1 hK1 => ?_
 simp only [ltb]
 simp only [length_encTys,length_encExs,List.length_map,tt134,hlook,sl,go_sem,reduceIte,reduceAdd,reduceLT,reduceLeDiff,reduceMul,reduceEqDiff,reduceSub,reduceCtorEq,List.take_length]
 refine hK1 _ ?_
 refine runX_case 21 (by rfl) fun b hb2_2 => ?_
 cases b
 ·skip
  refine runX_cut 3 fun K1 hK1 => ?_
  simp only [ltb]
  simp only [length_encTys,length_encExs,List.length_map,tt134,hlook,sl,go_sem,reduceIte,reduceAdd,reduceLT,reduceLeDiff,reduceMul,reduceEqDiff,reduceSub,reduceCtorEq,List.take_length]
  refine callF_ex (by have h := fits_tot hG x fl ty kd lb hf (by omega); rw [encEx_eq] at h; simp only [exCells] at h; exact h) ?_
  rintro _ ⟨r1, rfl⟩
  try simp only [length_encTys,length_encExs,List.length_map,tt134,hlook,sl,go_sem,reduceIte,reduceAdd,reduceLT,reduceLeDiff,reduceMul,reduceEqDiff,reduceSub,reduceCtorEq,List.take_length]
  refine hK1 _ ?_
  try simp only [ltb]
  simp only [length_encTys,length_encExs,List.length_map,tt134,hlook,sl,go_sem,reduceIte,reduceAdd,reduceLT,reduceLeDiff,reduceMul,reduceEqDiff,reduceSub,reduceCtorEq,List.take_length]
  refine hK _ _ (by kernel_rfl) ?_
  simp only [mkW,lkF,reduceAdd,reduceEqDiff,if_true,if_false,reduceIte]
  refine ex_if rfl (fun hc18 => ?_) (fun hc18 => ?_)
  ·skip
   refine ex_region_w tt_ok 77 [0,0,0,0,2] [] (by kernel_rfl) (by kernel_rfl) fun K hK => ?_
   try simp only [ltb]
   try simp only [ltb]
   simp only [length_encTys,length_encExs,List.length_map,tt134,hlook,sl,go_sem,reduceIte,reduceAdd,reduceLT,reduceLeDiff,reduceMul,reduceEqDiff,reduceSub,reduceCtorEq,List.take_length]
   refine hK _ _ (by kernel_rfl) ?_
   simp only [mkW,lkF,reduceAdd,reduceEqDiff,if_true,if_false,reduceIte]
   refine ex_ret ?_
   exact ⟨.inl rfl, _, ⟨_, rfl⟩, rfl, rfl, rfl⟩
  ·skip
   refine ex_region_w tt_ok 77 [0,0,0,0,0,0,0,0,0,0,0,0,0,0,0,0,0,0,0,0,0,0,0,0,0,0,0,2,1,1,1,1,1,1,1,1,1,1,1,1,1,1,1,1] [(4, 32), (10, 38)] (by kernel_rfl) (by kernel_rfl) fun K hK => ?_
   try simp only [ltb]
   refine runX_cut 5 fun K1 hK1 => ?_
   simp only [ltb]
   simp only [length_encTys,length_encExs,List.length_map,tt134,hlook,sl,go_sem,reduceIte,reduceAdd,reduceLT,reduceLeDiff,reduceMul,reduceEqDiff,reduceSub,reduceCtorEq,List.take_length]
   refine hK1 _ ?_
   refine runX_case 32 (by rfl) fun b hb4_4 => ?_
   cases b
   ·skip
    refine runX_cut 6 fun K1 hK1 => ?_
    simp only [ltb]
    simp only [length_encTys,length_encExs,List.length_map,tt134,hlook,sl,go_sem,reduceIte,reduceAdd,reduceLT,reduceLeDiff,reduceMul,reduceEqDiff,reduceSub,reduceCtorEq,List.take_length]
    refine hK1 _ ?_
    refine runX_case 38 (by rfl) fun b hb4_10 => ?_
    cases b
    ·skip
     try simp only [ltb]
     simp only [length_encTys,length_encExs,List.length_map,tt134,hlook,sl,go_sem,reduceIte,reduceAdd,reduceLT,reduceLeDiff,reduceMul,reduceEqDiff,reduceSub,reduceCtorEq,List.take_length]
     refine hK _ _ (by kernel_rfl) ?_
     simp only [mkW,lkF,reduceAdd,reduceEqDiff,if_true,if_false,reduceIte]
     refine ex_if rfl (fun hc27 => ?_) (fun hc27 => ?_)
     ·skip
      refine ex_region_w tt_ok 77 [0,0,0,0,2] [] (by kernel_rfl) (by kernel_rfl) fun K hK => ?_
      try simp only [ltb]
      try simp only [ltb]
      simp only [length_encTys,length_encExs,List.length_map,tt134,hlook,sl,go_sem,reduceIte,reduceAdd,reduceLT,reduceLeDiff,reduceMul,reduceEqDiff,reduceSub,reduceCtorEq,List.take_length]
      refine hK _ _ (by kernel_rfl) ?_
      simp only [mkW,lkF,reduceAdd,reduceEqDiff,if_true,if_false,reduceIte]
      refine ex_ret ?_
      exact ⟨.inl rfl, _, ⟨_, rfl⟩, rfl, rfl, rfl⟩
     ·skip
      refine ex_region_w tt_ok 77 [0,0,0,0,0,0,0,0,0,0,0,0,0,0,0,0,0,0,0,0,0,0,0,0,0,0,0,0,0,0,0,0,0,0,0,0,0,0,0,0,0,0,0,0,2,1,1,1] [] (by kernel_rfl) (by kernel_rfl) fun K hK => ?_
      try simp only [ltb]
      refine runX_cut 3 fun K1 hK1 => ?_
      simp only [ltb]
      simp only [length_encTys,length_encExs,List.length_map,tt134,hlook,sl,go_sem,reduceIte,reduceAdd,reduceLT,reduceLeDiff,reduceMul,reduceEqDiff,reduceSub,reduceCtorEq,List.take_length]
      refine callF_ex (by have h := misnamed_tot hG x fl ty kd lb hf (by omega) (by omega); rw [encEx_eq] at h; simp only [exCells] at h; exact h) ?_
      rintro _ ⟨r2, rfl⟩
      try simp only [length_encTys,length_encExs,List.length_map,tt134,hlook,sl,go_sem,reduceIte,reduceAdd,reduceLT,reduceLeDiff,reduceMul,reduceEqDiff,reduceSub,reduceCtorEq,List.take_length]
      refine hK1 _ ?_
      try simp only [ltb]
      simp only [length_encTys,length_encExs,List.length_map,tt134,hlook,sl,go_sem,reduceIte,reduceAdd,reduceLT,reduceLeDiff,reduceMul,reduceEqDiff,reduceSub,reduceCtorEq,List.take_length]
      refine hK _ _ (by kernel_rfl) ?_
      simp only [mkW,lkF,reduceAdd,reduceEqDiff,if_true,if_false,reduceIte]
      refine ex_if rfl (fun hc44 => ?_) (fun hc44 => ?_)
      ·skip
       refine ex_region_w tt_ok 77 [0,0,0,0,2] [] (by kernel_rfl) (by kernel_rfl) fun K hK => ?_
       try simp only [ltb]
       try simp only [ltb]
       simp only [length_encTys,length_encExs,List.length_map,tt134,hlook,sl,go_sem,reduceIte,reduceAdd,reduceLT,reduceLeDiff,reduceMul,reduceEqDiff,reduceSub,reduceCtorEq,List.take_length]
       refine hK _ _ (by kernel_rfl) ?_
       simp only [mkW,lkF,reduceAdd,reduceEqDiff,if_true,if_false,reduceIte]
       refine ex_ret ?_
       exact ⟨.inl rfl, _, ⟨_, rfl⟩, rfl, rfl, rfl⟩
      ·skip
       refine ex_skip ?_
       show Go.Eng.Ex _ _ _ _ _ _
       refine ex_seq ?_
       refine ex_region_w tt_ok 77 [0,0,0,0,0,0,0,2,0,0,0,0,0,0,0,0,0,0,0,0,0,0,0,0,0,0,0,0,0,0,0,0,0,0,0,0,0,0,0,0,0,0,0,0,0,0,0,0,1,1,1] [] (by kernel_rfl) (by kernel_rfl) fun K hK => ?_
       try simp only [ltb]
       refine runX_cut 3 fun K1 hK1 => ?_
       simp only [ltb]
       simp only [length_encTys,length_encExs,List.length_map,tt134,hlook,sl,go_sem,reduceIte,reduceAdd,reduceLT,reduceLeDiff,reduceMul,reduceEqDiff,reduceSub,reduceCtorEq,List.take_length]
       refine callF_ex (increaseLb_tot 105 x.labels (fun l => let ⟨r, h1, h2⟩ := lbName_tot l; ⟨r, ⟨_, h1⟩, h2⟩) (by omega)) ?_
       rintro _ ⟨r3, rfl⟩
       try simp only [length_encTys,length_encExs,List.length_map,tt134,hlook,sl,go_sem,reduceIte,reduceAdd,reduceLT,reduceLeDiff,reduceMul,reduceEqDiff,reduceSub,reduceCtorEq,List.take_length]
       refine hK1 _ ?_
       try simp only [ltb]
       simp only [length_encTys,length_encExs,List.length_map,tt134,hlook,sl,go_sem,reduceIte,reduceAdd,reduceLT,reduceLeDiff,reduceMul,reduceEqDiff,reduceSub,reduceCtorEq,List.take_length]
       refine hK _ _ (by kernel_rfl) ?_
       simp only [mkW,lkF,reduceAdd,reduceEqDiff,if_true,if_false,reduceIte]
       refine ex_region_w tt_ok 77 [0,0,0,0,0,0,0,0,0,0,0,0,0,0,0,0,0,0,0,0,0,0,0,0,0,0,0,0,0,0,0,0,0,0,0,0,0,0,0,0,0,0,0,0,0,0,0,0,0,0,0,1,2] [] (by kernel_rfl) (by kernel_rfl) fun K hK => ?_
       try simp only [ltb]
       try simp only [ltb]
       simp only [length_encTys,length_encExs,List.length_map,tt134,hlook,sl,go_sem,reduceIte,reduceAdd,reduceLT,reduceLeDiff,reduceMul,reduceEqDiff,reduceSub,reduceCtorEq,List.take_length]
       refine hK _ _ (by kernel_rfl) ?_
       simp only [mkW,lkF,reduceAdd,reduceEqDiff,if_true,if_false,reduceIte]
       refine ex_if rfl (fun hc52 => ?_) (fun hc52 => ?_)
       ·skip
        refine ex_region_w tt_ok 77 [0,0,0,0,2,0,0,0,0,0,0,0,0,0,0,0,0,0,0,0,0,0,0,0,0,0,0,0,0,0,0,0,0,0,0,0,0,0,0,0,0,0,0,0,0,0,0,0,0,0,0,0,0,1] [] (by kernel_rfl) (by kernel_rfl) fun K hK => ?_
        try simp only [ltb]
        try simp only [ltb]
        simp only [length_encTys,length_encExs,List.length_map,tt134,hlook,sl,go_sem,reduceIte,reduceAdd,reduceLT,reduceLeDiff,reduceMul,reduceEqDiff,reduceSub,reduceCtorEq,List.take_length]
        refine hK _ _ (by kernel_rfl) ?_
        simp only [mkW,lkF,reduceAdd,reduceEqDiff,if_true,if_false,reduceIte]
        refine ex_ret ?_
        exact ⟨.inl rfl, _, ⟨_, rfl⟩, rfl, rfl, rfl⟩
       ·skip
        refine ex_skip ?_
        show Go.Eng.Ex _ _ _ _ _ _
        refine ex_seq ?_
        refine ex_seq_joinK [63] 9 [true,true,true,false,true,true,true,true,false,false,false,true,true,true,true,true,true,true,true,true,true,true,true,true,true,true,true,true,true,true,true,true,true,true,true,true,true,true,true,true,true,true,true,true,true,true,true,true,true,true,true,true,true,true,false,false,false,false,false,false,false,false,false,true] (fun vs => ∃ b : Bool, vs = [bl b]) ?_ ?_
        ·skip
         refine ex_last_region_w tt_ok 77 [0,0,0,0,0,0,0,0,0,0,0,0,0,0,0,0,0,0,0,0,0,0,0,0,0,0,0,0,0,0,0,0,0,0,0,0,0,0,0,0,0,0,0,0,0,0,0,0,0,0,0,0,0,0,2,2,2,2,2,2,2,2,2,2] [(3, 57)] (by kernel_rfl) (by kernel_rfl) (by kernel_rfl) fun K hK => ?_
         try simp only [ltb]
         refine runX_cut 4 fun K1 hK1 => ?_
         simp only [ltb]
         simp only [length_encTys,length_encExs,List.length_map,tt134,hlook,sl,go_sem,reduceIte,reduceAdd,reduceLT,reduceLeDiff,reduceMul,reduceEqDiff,reduceSub,reduceCtorEq,List.take_length]
         refine hK1 _ ?_
         refine runX_case 57 (by rfl) fun b hb11_3 => ?_
         cases b
         ·skip
          try simp only [ltb]
          simp only [length_encTys,length_encExs,List.length_map,tt134,hlook,sl,go_sem,reduceIte,reduceAdd,reduceLT,reduceLeDiff,reduceMul,reduceEqDiff,reduceSub,reduceCtorEq,List.take_length]
          refine hK _ _ (by kernel_rfl) ?_
          simp only [mkW,lkF,reduceAdd,reduceEqDiff,if_true,if_false,reduceIte]
          refine ⟨[_], ?_, 9, [true,true,true,false,true,true,true,true,false,false,false,true,true,true,true,true,true,true,true,true,true,true,true,true,true,true,true,true,true,true,true,true,true,true,true,true,true,true,true,true,true,true,true,true,true,true,true,true,true,true,true,true,true,true,false,false,false,false,false,false,false,false,false,true], by omega, by simp only [hb0,hb1,hb3,hb4,hb5,hb6,hbk,reduceLeDiff,maskFr,belowV,belowL,bB_box,bB_map,bB_rows,bB_frz,bB_dead,bB_hole,reduceLeDiff,reduceLT,mkb], by simp only [hb0,hb1,hb3,hb4,hb5,hb6,hbk,reduceLeDiff,maskFr,belowV,belowL,bB_box,bB_map,bB_rows,bB_frz,bB_dead,bB_hole,reduceLeDiff,reduceLT,mkb], by simp only [hb0,hb1,hb3,hb4,hb5,hb6,hbk,reduceLeDiff,maskFr,belowV,belowL,bB_box,bB_map,bB_rows,bB_frz,bB_dead,bB_hole,reduceLeDiff,reduceLT,mkb,putAll,List.set_cons_zero,List.set_cons_succ]; rfl⟩
          exact ⟨_, rfl⟩
         ·skip
          try simp only [ltb]
          simp only [length_encTys,length_encExs,List.length_map,tt134,hlook,sl,go_sem,reduceIte,reduceAdd,reduceLT,reduceLeDiff,reduceMul,reduceEqDiff,reduceSub,reduceCtorEq,List.take_length]
          refine hK _ _ (by kernel_rfl) ?_
          simp only [mkW,lkF,reduceAdd,reduceEqDiff,if_true,if_false,reduceIte]
          refine ⟨[_], ?_, 9, [true,true,true,false,true,true,true,true,false,false,false,true,true,true,true,true,true,true,true,true,true,true,true,true,true,true,true,true,true,true,true,true,true,true,true,true,true,true,true,true,true,true,true,true,true,true,true,true,true,true,true,true,true,true,false,false,false,false,false,false,false,false,false,true], by omega, by simp only [hb0,hb1,hb3,hb4,hb5,hb6,hbk,reduceLeDiff,maskFr,belowV,belowL,bB_box,bB_map,bB_rows,bB_frz,bB_dead,bB_hole,reduceLeDiff,reduceLT,mkb], by simp only [hb0,hb1,hb3,hb4,hb5,hb6,hbk,reduceLeDiff,maskFr,belowV,belowL,bB_box,bB_map,bB_rows,bB_frz,bB_dead,bB_hole,reduceLeDiff,reduceLT,mkb], by simp only [hb0,hb1,hb3,hb4,hb5,hb6,hbk,reduceLeDiff,maskFr,belowV,belowL,bB_box,bB_map,bB_rows,bB_frz,bB_dead,bB_hole,reduceLeDiff,reduceLT,mkb,putAll,List.set_cons_zero,List.set_cons_succ]; rfl⟩
          exact ⟨_, rfl⟩
        ·intro vs hJ
         obtain ⟨b63, rfl⟩ := hJ
         simp only [hb0,hb1,hb3,hb4,hb5,hb6,hbk,reduceLeDiff,maskFr,belowV,belowL,bB_box,bB_map,bB_rows,bB_frz,bB_dead,bB_hole,reduceLeDiff,reduceLT,mkb,putAll,List.set_cons_zero,List.set_cons_succ]
         refine ex_if rfl (fun hc63 => ?_) (fun hc63 => ?_)
         ·skip
          refine ex_region_w tt_ok 77 [0,0,0,0,2] [] (by kernel_rfl) (by kernel_rfl) fun K hK => ?_
          try simp only [ltb]
          try simp only [ltb]
          simp only [length_encTys,length_encExs,List.length_map,tt134,hlook,sl,go_sem,reduceIte,reduceAdd,reduceLT,reduceLeDiff,reduceMul,reduceEqDiff,reduceSub,reduceCtorEq,List.take_length]
          refine hK _ _ (by kernel_rfl) ?_
          simp only [mkW,lkF,reduceAdd,reduceEqDiff,if_true,if_false,reduceIte]
          refine ex_ret ?_
          exact ⟨.inl rfl, _, ⟨_, rfl⟩, rfl, rfl, rfl⟩
         ·skip
          refine ex_skip ?_
          show Go.Eng.Ex _ _ _ _ _ _
          refine ex_seq ?_
          refine ex_region_w tt_ok 77 [0,0,0,0,0,0,0,0,0,0,0,0,0,0,0,0,0,0,0,0,0,0,0,0,0,0,0,0,0,0,0,0,0,0,0,0,0,0,0,0,0,0,0,0,0,0,0,0,0,0,0,0,0,0,0,0,0,0,0,0,0,0,0,0,1,2,2,2] [] (by kernel_rfl) (by kernel_rfl) fun K hK => ?_
          try simp only [ltb]
          refine runX_cut 2 fun K1 hK1 => ?_
          simp only [ltb]
          simp only [length_encTys,length_encExs,List.length_map,tt134,hlook,sl,go_sem,reduceIte,reduceAdd,reduceLT,reduceLeDiff,reduceMul,reduceEqDiff,reduceSub,reduceCtorEq,List.take_length]
          refine callF_ex (by have h := sown_ok x (by have := x.own_len; omega); rw [encEx_eq] at h; simp only [exCells] at h; exact ⟨_, rfl, h⟩) ?_
          rintro _ rfl
          try simp only [length_encTys,length_encExs,List.length_map,tt134,hlook,sl,go_sem,reduceIte,reduceAdd,reduceLT,reduceLeDiff,reduceMul,reduceEqDiff,reduceSub,reduceCtorEq,List.take_length]
          have hnl := length_le_sum Ty.size Ty.size_pos x.own
          have hlen : (encTys x.own).length = x.own.length := length_encTys _
          have hown : ∀ u ∈ x.own, u.wt < x.wt := fun u hu => Ex.wt_own hu
          obtain ⟨ps, hps⟩ : ∃ ps, ps = x.own := ⟨_, rfl⟩
          rw [← hps] at hnl hown hol ⊢
          refine hK1 _ ?_
          try simp only [ltb]
          simp only [length_encTys,length_encExs,List.length_map,tt134,hlook,sl,go_sem,reduceIte,reduceAdd,reduceLT,reduceLeDiff,reduceMul,reduceEqDiff,reduceSub,reduceCtorEq,List.take_length]
          refine hK _ _ (by kernel_rfl) ?_
          simp only [mkW,lkF,reduceAdd,reduceEqDiff,if_true,if_false,reduceIte]
          refine ex_block ?_
          refine ex_range 67 (ps.length) 9 [false,false,false,false,true,false,false,false,false,false,false,false,false,false,false,false,false,false,true,false,false,false,false,false,false,false,false,true,false,false,false,false,false,false,false,false,false,false,false,false,false,false,false,false,true,false,false,false,false,false,false,false,true,false,false,false,false,false,false,false,false,false,false,true,false,true,true,true] (by omega) (by simp only [hb0,hb1,hb3,hb4,hb5,hb6,hbk,reduceLeDiff,maskFr,belowV,belowL,bB_box,bB_map,bB_rows,bB_frz,bB_dead,bB_hole,reduceLeDiff,reduceLT,mkb]) (by simp only [hb0,hb1,hb3,hb4,hb5,hb6,hbk,reduceLeDiff,maskFr,belowV,belowL,bB_box,bB_map,bB_rows,bB_frz,bB_dead,bB_hole,reduceLeDiff,reduceLT,mkb]) (by rfl) fun i hii => ?_
          simp only [hb0,hb1,hb3,hb4,hb5,hb6,hbk,reduceLeDiff,maskFr,belowV,belowL,bB_box,bB_map,bB_rows,bB_frz,bB_dead,bB_hole,reduceLeDiff,reduceLT,mkb,List.set_cons_zero,List.set_cons_succ]
          refine ex_region_w tt_ok 77 [0,0,0,0,0,0,0,0,0,0,0,0,0,0,0,0,0,0,0,0,0,0,0,0,0,0,0,0,0,0,0,0,0,0,0,0,0,0,0,0,0,0,0,0,0,0,0,0,0,0,0,0,0,0,0,0,0,0,0,0,0,0,0,0,0,0,0,0,2] [] (by kernel_rfl) (by kernel_rfl) fun K hK => ?_
          try simp only [ltb]
          try simp only [ltb]
          simp only [length_encTys,length_encExs,List.length_map,tt134,hlook,sl,go_sem,reduceIte,reduceAdd,reduceLT,reduceLeDiff,reduceMul,reduceEqDiff,reduceSub,reduceCtorEq,List.take_length]
          refine hK _ _ (by kernel_rfl) ?_
          simp only [mkW,lkF,reduceAdd,reduceEqDiff,if_true,if_false,reduceIte]
          refine ex_seq ?_
          refine ex_if rfl (fun hc68 => ?_) (fun hc68 => ?_)
          ·skip
           have hlti : i < (ps.length) := by simpa using hc68
           obtain ⟨u, hu⟩ : ∃ u, ps[i]? = some u := ⟨_, List.getElem?_eq_getElem hlti⟩
           refine ex_skip ?_
           show Go.Eng.Ex _ _ _ _ _ _
           refine ex_seq ?_
           refine ex_block ?_
           refine ex_region_w tt_ok 77 [0,0,0,0,0,0,0,0,0,2,0,0,0,0,0,0,0,0,0,0,0,0,0,0,0,0,0,0,0,0,0,0,0,0,0,0,0,0,0,0,0,0,0,0,0,0,0,0,0,0,0,0,0,0,0,0,0,0,0,0,0,0,0,0,0,0,0,0,0,1,1] [] (by kernel_rfl) (by kernel_rfl) fun K hK => ?_
           try simp only [ltb]
           try simp only [ltb]
           simp only [hlti,get_encTys,hu,encTy_eq,tyCells,length_encTys,length_encExs,List.length_map,tt134,hlook,sl,go_sem,reduceIte,reduceAdd,reduceLT,reduceLeDiff,reduceMul,reduceEqDiff,reduceSub,reduceCtorEq,List.take_length]
           refine hK _ _ (by kernel_rfl) ?_
           simp only [mkW,lkF,reduceAdd,reduceEqDiff,if_true,if_false,reduceIte]
           refine ex_region_w tt_ok 77 [0,0,0,0,0,0,0,0,0,0,2,0,0,0,0,0,0,0,0,0,0,0,0,0,0,0,0,0,0,0,0,0,0,0,0,0,0,0,0,0,0,0,0,0,0,0,0,0,0,0,0,0,0,0,0,0,0,0,0,0,0,0,0,0,0,0,0,0,0,0,0,1,1] [] (by kernel_rfl) (by kernel_rfl) fun K hK => ?_
           try simp only [ltb]
           refine runX_cut 2 fun K1 hK1 => ?_
           simp only [ltb]
           simp only [hlti,get_encTys,hu,encTy_eq,tyCells,length_encTys,length_encExs,List.length_map,tt134,hlook,sl,go_sem,reduceIte,reduceAdd,reduceLT,reduceLeDiff,reduceMul,reduceEqDiff,reduceSub,reduceCtorEq,List.take_length]
           refine callF_ex (by have h := checkType_ok hG u (by have := u.size_le_wt; have := hown u (List.mem_of_getElem? hu); omega) (Ty.mods (by have := hown u (List.mem_of_getElem? hu); omega)); rw [encTy_eq] at h; simp only [tyCells] at h; exact isN_of h) ?_
           rintro _ ⟨r5, rfl⟩
           try simp only [hlti,get_encTys,hu,encTy_eq,tyCells,length_encTys,length_encExs,List.length_map,tt134,hlook,sl,go_sem,reduceIte,reduceAdd,reduceLT,reduceLeDiff,reduceMul,reduceEqDiff,reduceSub,reduceCtorEq,List.take_length]
           refine hK1 _ ?_
           try simp only [ltb]
           simp only [hlti,get_encTys,hu,encTy_eq,tyCells,length_encTys,length_encExs,List.length_map,tt134,hlook,sl,go_sem,reduceIte,reduceAdd,reduceLT,reduceLeDiff,reduceMul,reduceEqDiff,reduceSub,reduceCtorEq,List.take_length]
           refine hK _ _ (by kernel_rfl) ?_
           simp only [mkW,lkF,reduceAdd,reduceEqDiff,if_true,if_false,reduceIte]
           refine ex_region_w tt_ok 77 [0,0,0,0,0,0,0,0,0,0,0,0,0,0,0,0,0,0,0,0,0,0,0,0,0,0,0,0,0,0,0,0,0,0,0,0,0,0,0,0,0,0,0,0,0,0,0,0,0,0,0,0,0,0,0,0,0,0,0,0,0,0,0,0,0,0,0,0,0,0,0,0,0,1,2] [] (by kernel_rfl) (by kernel_rfl) fun K hK => ?_
           try simp only [ltb]
           try simp only [ltb]
           simp only [hlti,get_encTys,hu,encTy_eq,tyCells,length_encTys,length_encExs,List.length_map,tt134,hlook,sl,go_sem,reduceIte,reduceAdd,reduceLT,reduceLeDiff,reduceMul,reduceEqDiff,reduceSub,reduceCtorEq,List.take_length]
           refine hK _ _ (by kernel_rfl) ?_
           simp only [mkW,lkF,reduceAdd,reduceEqDiff,if_true,if_false,reduceIte]
           refine ex_if rfl (fun hc74 => ?_) (fun hc74 => ?_)
           ·skip
            refine ex_region_w tt_ok 77 [0,0,0,0,2,0,0,0,0,0,0,0,0,0,0,0,0,0,0,0,0,0,0,0,0,0,0,0,0,0,0,0,0,0,0,0,0,0,0,0,0,0,0,0,0,0,0,0,0,0,0,0,0,0,0,0,0,0,0,0,0,0,0,0,0,0,0,0,0,0,0,0,0,0,0,1] [] (by kernel_rfl) (by kernel_rfl) fun K hK => ?_
            try simp only [ltb]
            try simp only [ltb]
            simp only [hlti,get_encTys,hu,encTy_eq,tyCells,length_encTys,length_encExs,List.length_map,tt134,hlook,sl,go_sem,reduceIte,reduceAdd,reduceLT,reduceLeDiff,reduceMul,reduceEqDiff,reduceSub,reduceCtorEq,List.take_length]
            refine hK _ _ (by kernel_rfl) ?_
            simp only [mkW,lkF,reduceAdd,reduceEqDiff,if_true,if_false,reduceIte]
            refine ex_ret ?_
            exact ⟨.inl rfl, _, ⟨_, rfl⟩, rfl, rfl, rfl⟩
           ·skip
            refine ex_skip ?_
            show Go.Eng.Ex _ _ _ _ _ _
            refine ex_last_region_w tt_ok 77 [0,0,0,0,0,0,0,0,0,0,0,0,0,0,0,0,0,0,0,0,0,0,0,0,0,0,0,0,0,0,0,0,0,0,0,0,0,0,0,0,0,0,0,0,0,0,0,0,0,0,0,0,0,0,0,0,0,0,0,0,0,0,0,0,0,0,0,2,0,0,0,0,0,0,0,0,2] [] (by kernel_rfl) (by kernel_rfl) (by kernel_rfl) fun K hK => ?_
            try simp only [ltb]
            try simp only [ltb]
            simp only [hlti,get_encTys,hu,encTy_eq,tyCells,length_encTys,length_encExs,List.length_map,tt134,hlook,sl,go_sem,reduceIte,reduceAdd,reduceLT,reduceLeDiff,reduceMul,reduceEqDiff,reduceSub,reduceCtorEq,List.take_length]
            refine hK _ _ (by kernel_rfl) ?_
            simp only [mkW,lkF,reduceAdd,reduceEqDiff,if_true,if_false,reduceIte]
            have hwi := i64_succ i (by omega)
            refine ⟨hlti, 9, [false,false,false,false,true,false,false,false,false,false,false,false,false,false,false,false,false,false,true,false,false,false,false,false,false,false,false,true,false,false,false,false,false,false,false,false,false,false,false,false,false,false,false,false,true,false,false,false,false,false,false,false,true,false,false,false,false,false,false,false,false,false,false,true,false,true,true,true], by omega, by simp only [hb0,hb1,hb3,hb4,hb5,hb6,hbk,reduceLeDiff,maskFr,belowV,belowL,bB_box,bB_map,bB_rows,bB_frz,bB_dead,bB_hole,reduceLeDiff,reduceLT,mkb], by simp only [hb0,hb1,hb3,hb4,hb5,hb6,hbk,reduceLeDiff,maskFr,belowV,belowL,bB_box,bB_map,bB_rows,bB_frz,bB_dead,bB_hole,reduceLeDiff,reduceLT,mkb], ?_⟩
            simp only [hwi,hb0,hb1,hb3,hb4,hb5,hb6,hbk,reduceLeDiff,maskFr,belowV,belowL,bB_box,bB_map,bB_rows,bB_frz,bB_dead,bB_hole,reduceLeDiff,reduceLT,mkb,List.set_cons_zero,List.set_cons_succ]
          ·skip
           have hgei : ¬ i < (ps.length) := by simpa using hc68
           refine ex_exit ?_
           show Go.Eng.Ex _ _ _ _ _ _
           refine ex_region_w tt_ok 77 [0,0,0,0,2] [] (by kernel_rfl) (by kernel_rfl) fun K hK => ?_
           try simp only [ltb]
           try simp only [ltb]
           simp only [length_encTys,length_encExs,List.length_map,tt134,hlook,sl,go_sem,reduceIte,reduceAdd,reduceLT,reduceLeDiff,reduceMul,reduceEqDiff,reduceSub,reduceCtorEq,List.take_length]
           refine hK _ _ (by kernel_rfl) ?_
           simp only [mkW,lkF,reduceAdd,reduceEqDiff,if_true,if_false,reduceIte]
           refine ex_ret ?_
           exact ⟨.inl rfl, _, ⟨_, rfl⟩, rfl, rfl, rfl⟩
    ·skip
     try simp only [ltb]
     simp only [length_encTys,length_encExs,List.length_map,tt134,hlook,sl,go_sem,reduceIte,reduceAdd,reduceLT,reduceLeDiff,reduceMul,reduceEqDiff,reduceSub,reduceCtorEq,List.take_length]
     refine hK _ _ (by kernel_rfl) ?_
     simp only [mkW,lkF,reduceAdd,reduceEqDiff,if_true,if_false,reduceIte]
     refine ex_cond rfl ?_
     refine ex_region_w tt_ok 77 [0,0,0,0,2] [] (by kernel_rfl) (by kernel_rfl) fun K hK => ?_
     try simp only [ltb]
     try simp only [ltb]
     simp only [length_encTys,length_encExs,List.length_map,tt134,hlook,sl,go_sem,reduceIte,reduceAdd,reduceLT,reduceLeDiff,reduceMul,reduceEqDiff,reduceSub,reduceCtorEq,List.take_length]
     refine hK _ _ (by kernel_rfl) ?_
     simp only [mkW,lkF,reduceAdd,reduceEqDiff,if_true,if_false,reduceIte]
     refine ex_ret ?_
     exact ⟨.inl rfl, _, ⟨_, rfl⟩, rfl, rfl, rfl⟩
   ·skip
    refine runX_cut 8 fun K1 hK1 => ?_
    simp only [ltb]
    simp only [length_encTys,length_encExs,List.length_map,tt134,hlook,sl,go_sem,reduceIte,reduceAdd,reduceLT,reduceLeDiff,reduceMul,reduceEqDiff,reduceSub,reduceCtorEq,List.take_length]
    refine hK1 _ ?_
    try simp only [ltb]
    simp only [length_encTys,length_encExs,List.length_map,tt134,hlook,sl,go_sem,reduceIte,reduceAdd,reduceLT,reduceLeDiff,reduceMul,reduceEqDiff,reduceSub,reduceCtorEq,List.take_length]
    refine hK _ _ (by kernel_rfl) ?_
    simp only [mkW,lkF,reduceAdd,reduceEqDiff,if_true,if_false,reduceIte]
    refine ex_cond rfl ?_
    refine ex_region_w tt_ok 77 [0,0,0,0,2] [] (by kernel_rfl) (by kernel_rfl) fun K hK => ?_
    try simp only [ltb]
    try simp only [ltb]
    simp only [length_encTys,length_encExs,List.length_map,tt134,hlook,sl,go_sem,reduceIte,reduceAdd,reduceLT,reduceLeDiff,reduceMul,reduceEqDiff,reduceSub,reduceCtorEq,List.take_length]
    refine hK _ _ (by kernel_rfl) ?_
    simp only [mkW,lkF,reduceAdd,reduceEqDiff,if_true,if_false,reduceIte]
    refine ex_ret ?_
    exact ⟨.inl rfl, _, ⟨_, rfl⟩, rfl, rfl, rfl⟩
 ·skip
  try simp only [ltb]
  simp only [length_encTys,length_encExs,List.length_map,tt134,hlook,sl,go_sem,reduceIte,reduceAdd,reduceLT,reduceLeDiff,reduceMul,reduceEqDiff,reduceSub,reduceCtorEq,List.take_length]
  refine hK _ _ (by kernel_rfl) ?_
  simp only [mkW,lkF,reduceAdd,reduceEqDiff,if_true,if_false,reduceIte]
  refine ex_cond rfl ?_
  refine ex_region_w tt_ok 77 [0,0,0,0,2] [] (by kernel_rfl) (by kernel_rfl) fun K hK => ?_
  try simp only [ltb]
  try simp only [ltb]
  simp only [length_encTys,length_encExs,List.length_map,tt134,hlook,sl,go_sem,reduceIte,reduceAdd,reduceLT,reduceLeDiff,reduceMul,reduceEqDiff,reduceSub,reduceCtorEq,List.take_length]
  refine hK _ _ (by kernel_rfl) ?_
  simp only [mkW,lkF,reduceAdd,reduceEqDiff,if_true,if_false,reduceIte]
  refine ex_ret ?_
  exact ⟨.inl rfl, _, ⟨_, rfl⟩, rfl, rfl, rfl⟩
end Go.Proofs.YtpjdfcigadnhcaaGreatDoor
end

section
namespace Go.Proofs.YtpjdfcigadnhcaaGreatDoor
open Go.Eng
open Nat (reduceAdd reduceLT reduceLeDiff reduceMul reduceEqDiff reduceSub)
variable [Glob]
set_option maxHeartbeats 4000000
set_option maxRecDepth 100000
def fm0 : Value × Nat × V := (.int .i64 0, 0, .agg [str ⟨#[98]⟩, num 0, bl false, num 0])
def fm1 : Value × Nat × V := (.int .i64 1, 1, .agg [str ⟨#[120]⟩, num 0, bl false, num 0])
def fm2 : Value × Nat × V := (.int .i64 2, 2, .agg [str ⟨#[98]⟩, num 0, bl false, num 0])
def fm3 : Value × Nat × V := (.int .i64 3, 3, .agg [str ⟨#[110]⟩, num 0, bl false, num 0])
def fm4 : Value × Nat × V := (.int .i64 4, 4, .agg [str ⟨#[109,110]⟩, num (-1), bl false, num 0])
def fm5 : Value × Nat × V := (.int .i64 5, 5, .agg [str ⟨#[]⟩, num 0, bl true, num 0])
def fm6 : Value × Nat × V := (.int .i64 6, 6, .agg [str ⟨#[110]⟩, num 0, bl false, num 1])
def fm7 : Value × Nat × V := (.int .i64 7, 7, .agg [str ⟨#[110]⟩, num 0, bl false, num 1])
def fm8 : Value × Nat × V := (.int .i64 8, 8, .agg [str ⟨#[116,111]⟩, num 0, bl true, num 1])
def fm9 : Value × Nat × V := (.int .i64 9, 9, .agg [str ⟨#[]⟩, num 0, bl true, num 1])
def fm10 : Value × Nat × V := (.int .i64 10, 10, .agg [str ⟨#[110]⟩, num 0, bl false, num 2])
def fm11 : Value × Nat × V := (.int .i64 11, 11, .agg [str ⟨#[]⟩, num 1, bl false, num 1])
def fm12 : Value × Nat × V := (.int .i64 12, 12, .agg [str ⟨#[]⟩, num 1, bl false, num 3])
def fm13 : Value × Nat × V := (.int .i64 13, 13, .agg [str ⟨#[118]⟩, num 1, bl true, num 1])
def fm14 : Value × Nat × V := (.int .i64 14, 14, .agg [str ⟨#[]⟩, num 1, bl false, num (-1)])
def fm15 : Value × Nat × V := (.int .i64 15, 15, .agg [str ⟨#[110,120]⟩, num 1, bl false, num 3])
def fm16 : Value × Nat × V := (.int .i64 16, 16, .agg [str ⟨#[110]⟩, num 0, bl false, num (-1)])
def fmAll : List (Value × Nat × V) := [fm0, fm1, fm2, fm3, fm4, fm5, fm6, fm7, fm8, fm9, fm10, fm11, fm12, fm13, fm14, fm15, fm16]
theorem fmAll_ok : FormMap fmAll := fun e he => by
 simp only [fmAll,List.mem_cons,List.not_mem_nil,or_false] at he
 rcases he with rfl | rfl | rfl | rfl | rfl | rfl | rfl | rfl | rfl | rfl | rfl | rfl | rfl | rfl | rfl | rfl | rfl <;> exact ⟨⟨_, rfl⟩, _, _, _, _, rfl, by decide⟩
theorem ins0 (B0 B1 : Blk) : insertV Tryz.prog [B0, B1, .map [] 0] 87 (.mp 2) (num 0) (.agg [str ⟨#[98]⟩, num 0, bl false, num 0]) = some [B0, B1, .map [fm0] 1] := by kernel_rfl
theorem ins1 (B0 B1 : Blk) : insertV Tryz.prog [B0, B1, .map [fm0] 1] 87 (.mp 2) (num 1) (.agg [str ⟨#[120]⟩, num 0, bl false, num 0]) = some [B0, B1, .map [fm0, fm1] 2] := by kernel_rfl
theorem ins2 (B0 B1 : Blk) : insertV Tryz.prog [B0, B1, .map [fm0, fm1] 2] 87 (.mp 2) (num 2) (.agg [str ⟨#[98]⟩, num 0, bl false, num 0]) = some [B0, B1, .map [fm0, fm1, fm2] 3] := by kernel_rfl
theorem ins3 (B0 B1 : Blk) : insertV Tryz.prog [B0, B1, .map [fm0, fm1, fm2] 3] 87 (.mp 2) (num 3) (.agg [str ⟨#[110]⟩, num 0, bl false, num 0]) = some [B0, B1, .map [fm0, fm1, fm2, fm3] 4] := by kernel_rfl
theorem ins4 (B0 B1 : Blk) : insertV Tryz.prog [B0, B1, .map [fm0, fm1, fm2, fm3] 4] 87 (.mp 2) (num 4) (.agg [str ⟨#[109,110]⟩, num (-1), bl false, num 0]) = some [B0, B1, .map [fm0, fm1, fm2, fm3, fm4] 5] := by kernel_rfl
theorem ins5 (B0 B1 : Blk) : insertV Tryz.prog [B0, B1, .map [fm0, fm1, fm2, fm3, fm4] 5] 87 (.mp 2) (num 5) (.agg [str ⟨#[]⟩, num 0, bl true, num 0]) = some [B0, B1, .map [fm0, fm1, fm2, fm3, fm4, fm5] 6] := by kernel_rfl
theorem ins6 (B0 B1 : Blk) : insertV Tryz.prog [B0, B1, .map [fm0, fm1, fm2, fm3, fm4, fm5] 6] 87 (.mp 2) (num 6) (.agg [str ⟨#[110]⟩, num 0, bl false, num 1]) = some [B0, B1, .map [fm0, fm1, fm2, fm3, fm4, fm5, fm6] 7] := by kernel_rfl
theorem ins7 (B0 B1 : Blk) : insertV Tryz.prog [B0, B1, .map [fm0, fm1, fm2, fm3, fm4, fm5, fm6] 7] 87 (.mp 2) (num 7) (.agg [str ⟨#[110]⟩, num 0, bl false, num 1]) = some [B0, B1, .map [fm0, fm1, fm2, fm3, fm4, fm5, fm6, fm7] 8] := by kernel_rfl
theorem ins8 (B0 B1 : Blk) : insertV Tryz.prog [B0, B1, .map [fm0, fm1, fm2, fm3, fm4, fm5, fm6, fm7] 8] 87 (.mp 2) (num 8) (.agg [str ⟨#[116,111]⟩, num 0, bl true, num 1]) = some [B0, B1, .map [fm0, fm1, fm2, fm3, fm4, fm5, fm6, fm7, fm8] 9] := by kernel_rfl
theorem ins9 (B0 B1 : Blk) : insertV Tryz.prog [B0, B1, .map [fm0, fm1, fm2, fm3, fm4, fm5, fm6, fm7, fm8] 9] 87 (.mp 2) (num 9) (.agg [str ⟨#[]⟩, num 0, bl true, num 1]) = some [B0, B1, .map [fm0, fm1, fm2, fm3, fm4, fm5, fm6, fm7, fm8, fm9] 10] := by kernel_rfl
theorem ins10 (B0 B1 : Blk) : insertV Tryz.prog [B0, B1, .map [fm0, fm1, fm2, fm3, fm4, fm5, fm6, fm7, fm8, fm9] 10] 87 (.mp 2) (num 10) (.agg [str ⟨#[110]⟩, num 0, bl false, num 2]) = some [B0, B1, .map [fm0, fm1, fm2, fm3, fm4, fm5, fm6, fm7, fm8, fm9, fm10] 11] := by kernel_rfl
theorem ins11 (B0 B1 : Blk) : insertV Tryz.prog [B0, B1, .map [fm0, fm1, fm2, fm3, fm4, fm5, fm6, fm7, fm8, fm9, fm10] 11] 87 (.mp 2) (num 11) (.agg [str ⟨#[]⟩, num 1, bl false, num 1]) = some [B0, B1, .map [fm0, fm1, fm2, fm3, fm4, fm5, fm6, fm7, fm8, fm9, fm10, fm11] 12] := by kernel_rfl
theorem ins12 (B0 B1 : Blk) : insertV Tryz.prog [B0, B1, .map [fm0, fm1, fm2, fm3, fm4, fm5, fm6, fm7, fm8, fm9, fm10, fm11] 12] 87 (.mp 2) (num 12) (.agg [str ⟨#[]⟩, num 1, bl false, num 3]) = some [B0, B1, .map [fm0, fm1, fm2, fm3, fm4, fm5, fm6, fm7, fm8, fm9, fm10, fm11, fm12] 13] := by kernel_rfl
theorem ins13 (B0 B1 : Blk) : insertV Tryz.prog [B0, B1, .map [fm0, fm1, fm2, fm3, fm4, fm5, fm6, fm7, fm8, fm9, fm10, fm11, fm12] 13] 87 (.mp 2) (num 13) (.agg [str ⟨#[118]⟩, num 1, bl true, num 1]) = some [B0, B1, .map [fm0, fm1, fm2, fm3, fm4, fm5, fm6, fm7, fm8, fm9, fm10, fm11, fm12, fm13] 14] := by kernel_rfl
theorem ins14 (B0 B1 : Blk) : insertV Tryz.prog [B0, B1, .map [fm0, fm1, fm2, fm3, fm4, fm5, fm6, fm7, fm8, fm9, fm10, fm11, fm12, fm13] 14] 87 (.mp 2) (num 14) (.agg [str ⟨#[]⟩, num 1, bl false, num (-1)]) = some [B0, B1, .map [fm0, fm1, fm2, fm3, fm4, fm5, fm6, fm7, fm8, fm9, fm10, fm11, fm12, fm13, fm14] 15] := by kernel_rfl
theorem ins15 (B0 B1 : Blk) : insertV Tryz.prog [B0, B1, .map [fm0, fm1, fm2, fm3, fm4, fm5, fm6, fm7, fm8, fm9, fm10, fm11, fm12, fm13, fm14] 15] 87 (.mp 2) (num 15) (.agg [str ⟨#[110,120]⟩, num 1, bl false, num 3]) = some [B0, B1, .map [fm0, fm1, fm2, fm3, fm4, fm5, fm6, fm7, fm8, fm9, fm10, fm11, fm12, fm13, fm14, fm15] 16] := by kernel_rfl
theorem ins16 (B0 B1 : Blk) : insertV Tryz.prog [B0, B1, .map [fm0, fm1, fm2, fm3, fm4, fm5, fm6, fm7, fm8, fm9, fm10, fm11, fm12, fm13, fm14, fm15] 16] 87 (.mp 2) (num 16) (.agg [str ⟨#[110]⟩, num 0, bl false, num (-1)]) = some [B0, B1, .map [fm0, fm1, fm2, fm3, fm4, fm5, fm6, fm7, fm8, fm9, fm10, fm11, fm12, fm13, fm14, fm15, fm16] 17] := by kernel_rfl
theorem forms_ok (B0 B1 : Blk) (hb : ∀ n, 2 ≤ n → belowB n B0 = true ∧ belowB n B1 = true) : FnOkS Tryz.prog 58 [] [B0, B1] (.mp 2) [B0, B1, .map fmAll 17] := by
 refine fns_ok tt_ok (fn := Tryz.f58) 3 (by simp only [List.length_cons,List.length_nil]; decide) Tryz.func58 rfl Tryz.call58 ?_
 simp only [startSt,Tryz.ntmps58,List.length_cons,List.length_nil,reduceAdd,reduceSub,List.replicate_succ,List.replicate_zero,List.cons_append,List.nil_append]
 refine tri_seq_region_w tt_ok 20 [2] [] (by kernel_rfl) (by kernel_rfl) fun K hK => ?_
 try simp only [List.toList_toArray,List.append_eq,List.cons_append,List.nil_append]
 simp only [go_sem,reduceIte,reduceAdd,reduceLT,reduceLeDiff,reduceMul,reduceEqDiff,reduceSub,reduceCtorEq]
 refine hK _ _ (by kernel_rfl) ?_
 simp only [mkW,lkF,reduceAdd,reduceEqDiff,if_true,if_false,reduceIte]
 refine tri_seq_region_w tt_ok 20 [2,1,1,1,1,1,1,1,1,1,1,1,1,1,1,1,1,1,1,1] [] (by kernel_rfl) (by kernel_rfl) fun K hK => ?_
 refine runOpsW_cut 7 fun K1 hK1 => ?_
 simp only [ltb]
 simp only [tt134,ins0,ins1,ins2,go_sem,reduceIte,reduceAdd,reduceLT,reduceLeDiff,reduceMul,reduceEqDiff,reduceSub,reduceCtorEq]
 refine hK1 _ ?_
 refine runOpsW_cut 7 fun K1 hK1 => ?_
 simp only [ltb]
 simp only [tt134,ins3,ins4,ins5,go_sem,reduceIte,reduceAdd,reduceLT,reduceLeDiff,reduceMul,reduceEqDiff,reduceSub,reduceCtorEq]
 refine hK1 _ ?_
 refine runOpsW_cut 7 fun K1 hK1 => ?_
 simp only [ltb]
 simp only [tt134,ins6,ins7,ins8,ins9,go_sem,reduceIte,reduceAdd,reduceLT,reduceLeDiff,reduceMul,reduceEqDiff,reduceSub,reduceCtorEq]
 refine hK1 _ ?_
 refine runOpsW_cut 7 fun K1 hK1 => ?_
 simp only [ltb]
 simp only [tt134,ins10,ins11,ins12,go_sem,reduceIte,reduceAdd,reduceLT,reduceLeDiff,reduceMul,reduceEqDiff,reduceSub,reduceCtorEq]
 refine hK1 _ ?_
 refine runOpsW_cut 7 fun K1 hK1 => ?_
 simp only [ltb]
 simp only [tt134,ins13,ins14,ins15,ins16,go_sem,reduceIte,reduceAdd,reduceLT,reduceLeDiff,reduceMul,reduceEqDiff,reduceSub,reduceCtorEq]
 refine hK1 _ ?_
 try simp only [List.toList_toArray,List.append_eq,List.cons_append,List.nil_append,List.drop_succ_cons,List.drop_zero]
 simp only [tt134,ins16,go_sem,reduceIte,reduceAdd,reduceLT,reduceLeDiff,reduceMul,reduceEqDiff,reduceSub,reduceCtorEq]
 refine hK _ _ (by kernel_rfl) ?_
 simp only [mkW,lkF,reduceAdd,reduceEqDiff,if_true,if_false,reduceIte]
 refine tri_ret ⟨.inl rfl, rfl, rfl, ?_, rfl⟩
 have h1 := hb 3 (by omega)
 have h2 := fmAll_ok.below 3
 show (belowB 3 B0 && (belowB 3 B1 && ((fmAll.all fun e => belowV 3 e.2.2) && true))) = true
 rw [h1.1, h1.2, h2]; rfl
end Go.Proofs.YtpjdfcigadnhcaaGreatDoor
end

section
namespace Go.Proofs.YtpjdfcigadnhcaaGreatDoor
open Go.Eng
variable [Glob]
theorem firstE_zero {f : Ty → Int} : ∀ {l : List Ty}, firstE f l = 0 ↔ ∀ u ∈ l, f u = 0
 | [] => by simp [firstE]
 | u :: r => by
  have ih := firstE_zero (f := f) (l := r)
  by_cases h : f u = 0
  ·simp [firstE, h, ih]
  ·simp [firstE, h]
theorem ctRes_zero {hG : Glob.g = some 0} {t : Ty} : ctRes hG t = 0 ↔ t.size ≤ 4096 ∧ t.depth ≤ 32 ∧ ∀ u ∈ t.nodes, tnOf hG u = 0 := by
 unfold ctRes
 by_cases h1 : t.size ≤ 4096
 ·by_cases h2 : t.depth ≤ 32
  ·have e1 : decide (4096 < (t.size : Int)) = false := decide_eq_false (by omega)
   have e2 : decide (32 < (t.depth : Int)) = false := decide_eq_false (by omega)
   rw [e1, e2]
   simp only [Bool.or_self,Bool.false_eq_true,if_false]
   rw [firstE_zero]
   exact ⟨fun h => ⟨h1, h2, h⟩, fun h => h.2.2⟩
  ·have e2 : decide (32 < (t.depth : Int)) = true := decide_eq_true (by omega)
   rw [e2]
   simp only [Bool.or_true,if_true]
   exact ⟨fun h => absurd h (by decide), fun h => absurd h.2.1 h2⟩
 ·have e1 : decide (4096 < (t.size : Int)) = true := decide_eq_true (by omega)
  rw [e1]
  simp only [Bool.true_or,if_true]
  exact ⟨fun h => absurd h (by decide), fun h => absurd h.1 h1⟩
theorem maxBy_ge {α : Type} (g : α → Nat) : ∀ {l : List α} {a : α}, a ∈ l → g a ≤ maxBy g l
 | b :: r, a, h => by
  simp only [maxBy]
  rcases List.mem_cons.1 h with rfl | h
  ·omega
  ·have := maxBy_ge g h; omega
theorem ctRes_part {hG : Glob.g = some 0} {t p : Ty} (h : ctRes hG t = 0) (hp : p ∈ t.parts) : ctRes hG p = 0 ∧ p.depth < t.depth := by
 rw [ctRes_zero] at h ⊢
 obtain ⟨h1, h2, h3⟩ := h
 obtain ⟨i, hi⟩ := List.mem_iff_getElem?.1 hp
 have e1 := sumBy_mem Ty.size hi
 have e2 := t.size_parts
 have e3 := maxBy_ge Ty.depth hp
 have e4 := t.depth_parts
 refine ⟨⟨by omega, by omega, fun u hu => h3 u ?_⟩, by omega⟩
 rw [t.nodes_eq]
 exact List.mem_cons_of_mem _ (List.mem_flatMap.2 ⟨p, hp, hu⟩)
end Go.Proofs.YtpjdfcigadnhcaaGreatDoor
end

section
namespace Go.Proofs.YtpjdfcigadnhcaaGreatDoor
open Go.Eng
open Nat (reduceAdd reduceLT reduceLeDiff reduceMul reduceEqDiff reduceSub)
variable [Glob]
set_option maxHeartbeats 4000000
set_option maxRecDepth 100000
attribute [local irreducible] runM stepM valD stepOp stepD callF callS
mutual
def Ex.depth : Ex → Nat
 | .mk _ _ _ _ _ _ _ ks => 1 + depthExs ks
def depthExs : List Ex → Nat
 | [] => 0
 | e :: r => max e.depth (depthExs r)
end
theorem depthExs_max (ts : List Ex) : depthExs ts = maxBy Ex.depth ts := by induction ts with | nil => rfl | cons t r ih => simp [depthExs, maxBy, ih]
theorem Ex.depth_eq (t : Ex) : t.depth = 1 + maxBy Ex.depth t.kids := by
 obtain ⟨k, m, n, x, i, ts, ls, ks⟩ := t
 rw [Ex.depth, depthExs_max]; rfl
theorem Ex.depth_le_bulk : ∀ (N : Nat) (t : Ex), t.bulk ≤ N → t.depth ≤ t.bulk := by
 intro N
 induction N with
 | zero => intro t h; have := t.bulk_pos; omega
 | succ N ih =>
  intro t hN
  rw [Ex.depth_eq]
  have h1 := t.bulk_kids
  have := maxBy_lt Ex.depth (l := t.kids) (B := sumBy Ex.bulk t.kids) fun i a ha => by
   have := sumBy_mem Ex.bulk ha
   have := ih a (by omega)
   omega
  omega
theorem exDepth1_ok (x : Ex) (hl : x.kids.length ≤ 1048576) (hd : x.depth ≤ 1048576) (hrec : ∀ (i : Nat) (k : Ex), x.kids[i]? = some k → FnOk Tryz.prog 57 [encEx k] (num k.depth)) : ∃ r, (fun v => v = num x.depth) r ∧ FnOk Tryz.prog 57 [encEx x] r := by
 refine fn_ex tt_ok (fn := Tryz.f57) Tryz.func57 rfl Tryz.call57 ?_
 simp only [startSt,Tryz.ntmps57,List.length_cons,List.length_nil,reduceAdd,reduceSub,List.replicate_succ,List.replicate_zero,List.cons_append,List.nil_append]
 have hde := x.depth_eq
 simp only [encEx_eq,exCells]
 refine ex_region_w tt_ok 20 [0,2,2] [] (by kernel_rfl) (by kernel_rfl) fun K hK => ?_
 try simp only [ltb]
 try simp only [ltb]
 simp only [length_encExs,go_sem,reduceIte,reduceAdd,reduceLT,reduceLeDiff,reduceMul,reduceEqDiff,reduceSub,reduceCtorEq,List.take_length]
 refine hK _ _ (by kernel_rfl) ?_
 simp only [mkW,lkF,reduceAdd,reduceEqDiff,if_true,if_false,reduceIte]
 refine ex_region_w tt_ok 20 [0,0,0,2] [] (by kernel_rfl) (by kernel_rfl) fun K hK => ?_
 try simp only [ltb]
 try simp only [ltb]
 simp only [length_encExs,go_sem,reduceIte,reduceAdd,reduceLT,reduceLeDiff,reduceMul,reduceEqDiff,reduceSub,reduceCtorEq,List.take_length]
 refine hK _ _ (by kernel_rfl) ?_
 simp only [mkW,lkF,reduceAdd,reduceEqDiff,if_true,if_false,reduceIte]
 refine ex_seq ?_
 refine ex_region_w tt_ok 20 [0,0,0,0,0,0,1,2,2,2] [] (by kernel_rfl) (by kernel_rfl) fun K hK => ?_
 try simp only [ltb]
 try simp only [ltb]
 simp only [length_encExs,go_sem,reduceIte,reduceAdd,reduceLT,reduceLeDiff,reduceMul,reduceEqDiff,reduceSub,reduceCtorEq,List.take_length]
 refine hK _ _ (by kernel_rfl) ?_
 simp only [mkW,lkF,reduceAdd,reduceEqDiff,if_true,if_false,reduceIte]
 refine ex_block ?_
 refine ex_loopK [9,3] [num 0, num 0] 1 [false,false,true,true,false,false,false,true,true,true] (fun vs => ((x.kids.length : Int) - intOf (vs.headD .undef)).toNat) (fun vs => ∃ (i : Nat), vs = [num i, num (maxBy Ex.depth (x.kids.take i) : Nat)] ∧ i ≤ x.kids.length) (by omega) (by simp only [maskFr,belowV,belowL,belowB,reduceLT,mkb]) (by simp only [maskFr,belowV,belowL,belowB,reduceLT,mkb]) (by rfl) (⟨0, rfl, by omega⟩) fun vs hI => ?_
 obtain ⟨i, rfl, hi⟩ := hI
 simp only [maskFr,belowV,belowL,belowB,reduceLT,mkb,putAll,List.set_cons_zero,List.set_cons_succ]
 refine ex_region_w tt_ok 20 [0,0,0,0,0,0,0,0,0,0,2] [] (by kernel_rfl) (by kernel_rfl) fun K hK => ?_
 try simp only [ltb]
 try simp only [ltb]
 simp only [length_encExs,go_sem,reduceIte,reduceAdd,reduceLT,reduceLeDiff,reduceMul,reduceEqDiff,reduceSub,reduceCtorEq,List.take_length]
 refine hK _ _ (by kernel_rfl) ?_
 simp only [mkW,lkF,reduceAdd,reduceEqDiff,if_true,if_false,reduceIte]
 refine ex_seq ?_
 refine ex_if rfl (fun hc10 => ?_) (fun hc10 => ?_)
 ·skip
  have hlt : i < x.kids.length := by simpa using hc10
  obtain ⟨k, hx⟩ : ∃ k, x.kids[i]? = some k := ⟨_, List.getElem?_eq_getElem hlt⟩
  have hk := hrec i k hx
  rw [encEx_eq] at hk
  simp only [exCells] at hk
  have hw := i64_succ i (by omega)
  refine ex_skip ?_
  show Go.Eng.Ex _ _ _ _ _ _
  refine ex_seq ?_
  refine ex_block ?_
  refine ex_region_w tt_ok 20 [0,0,0,0,0,2,0,0,0,0,0,1,1] [] (by kernel_rfl) (by kernel_rfl) fun K hK => ?_
  try simp only [ltb]
  try simp only [ltb]
  simp only [hw,get_encExs,hx,encEx_eq,exCells,length_encExs,go_sem,reduceIte,reduceAdd,reduceLT,reduceLeDiff,reduceMul,reduceEqDiff,reduceSub,reduceCtorEq,List.take_length]
  refine hK _ _ (by kernel_rfl) ?_
  simp only [mkW,lkF,reduceAdd,reduceEqDiff,if_true,if_false,reduceIte]
  refine ex_last_region_w tt_ok 20 [0,0,0,2,0,0,0,0,0,0,0,0,0,2,2,2,2] [] (by kernel_rfl) (by kernel_rfl) (by kernel_rfl) fun K hK => ?_
  try simp only [ltb]
  refine runX_cut 3 fun K1 hK1 => ?_
  simp only [ltb]
  simp only [hw,get_encExs,hx,encEx_eq,exCells,length_encExs,go_sem,reduceIte,reduceAdd,reduceLT,reduceLeDiff,reduceMul,reduceEqDiff,reduceSub,reduceCtorEq,List.take_length]
  refine callF_ex (⟨_, rfl, hk⟩) ?_
  rintro _ rfl
  try simp only [hw,get_encExs,hx,encEx_eq,exCells,length_encExs,go_sem,reduceIte,reduceAdd,reduceLT,reduceLeDiff,reduceMul,reduceEqDiff,reduceSub,reduceCtorEq,List.take_length]
  refine hK1 _ ?_
  try simp only [ltb]
  simp only [hw,get_encExs,hx,encEx_eq,exCells,length_encExs,go_sem,reduceIte,reduceAdd,reduceLT,reduceLeDiff,reduceMul,reduceEqDiff,reduceSub,reduceCtorEq,List.take_length]
  refine hK _ _ (by kernel_rfl) ?_
  simp only [mkW,lkF,reduceAdd,reduceEqDiff,if_true,if_false,reduceIte]
  show Go.Eng.Ex _ _ _ _ _ _
  refine ex_last_region_w tt_ok 20 [0,0,0,0,0,0,0,0,0,2,0,0,0,0,0,0,0,2] [] (by kernel_rfl) (by kernel_rfl) (by kernel_rfl) fun K hK => ?_
  try simp only [ltb]
  try simp only [ltb]
  simp only [hw,get_encExs,hx,encEx_eq,exCells,length_encExs,go_sem,reduceIte,reduceAdd,reduceLT,reduceLeDiff,reduceMul,reduceEqDiff,reduceSub,reduceCtorEq,List.take_length]
  refine hK _ _ (by kernel_rfl) ?_
  simp only [mkW,lkF,reduceAdd,reduceEqDiff,if_true,if_false,reduceIte]
  refine ⟨[_, _], ?_, ?_, 1, [false,false,true,true,false,false,false,true,true,true], by omega, by simp only [maskFr,belowV,belowL,belowB,reduceLT,mkb], by simp only [maskFr,belowV,belowL,belowB,reduceLT,mkb], by simp only [maskFr,belowV,belowL,belowB,reduceLT,mkb,putAll,List.set_cons_zero,List.set_cons_succ]; rfl⟩
  ·refine ⟨i + 1, ?_, hlt⟩
   rw [maxBy_take_succ Ex.depth hx, ← i64_max]
  ·simp only [intOf,List.headD_cons]; omega
 ·skip
  have hnl : ¬ i < x.kids.length := by simpa using hc10
  have hge : i = x.kids.length := by omega
  subst hge
  rw [List.take_length]
  have hw := i64_succ (maxBy Ex.depth x.kids) (by omega)
  have hz : ((maxBy Ex.depth x.kids + 1 : Nat) : Int) = (x.depth : Int) := by omega
  refine ex_exit ?_
  show Go.Eng.Ex _ _ _ _ _ _
  refine ex_region_w tt_ok 20 [0,0,2,0,0,0,0,0,0,0,0,0,0,0,0,0,0,0,1,1] [] (by kernel_rfl) (by kernel_rfl) fun K hK => ?_
  try simp only [ltb]
  try simp only [ltb]
  simp only [hw,hz,length_encExs,go_sem,reduceIte,reduceAdd,reduceLT,reduceLeDiff,reduceMul,reduceEqDiff,reduceSub,reduceCtorEq,List.take_length]
  refine hK _ _ (by kernel_rfl) ?_
  simp only [mkW,lkF,reduceAdd,reduceEqDiff,if_true,if_false,reduceIte]
  refine ex_ret ?_
  exact ⟨.inl rfl, _, rfl, rfl⟩
theorem exDepth_ok : ∀ (N : Nat) (x : Ex), x.bulk ≤ N → N ≤ 1048576 → FnOk Tryz.prog 57 [encEx x] (num x.depth) := by
 intro N
 induction N with
 | zero => intro x h; have := x.bulk_pos; omega
 | succ N ih =>
  intro x hN hb
  have h2 := x.kids_length
  have h4 := Ex.depth_le_bulk _ x (Nat.le_refl _)
  obtain ⟨_, rfl, h⟩ := exDepth1_ok x (by omega) (by omega) fun i k hk => ih k (by
   have h1 := sumBy_mem Ex.bulk hk
   have h3 := x.bulk_kids
   omega) (by omega)
  exact h
end Go.Proofs.YtpjdfcigadnhcaaGreatDoor
end

section
namespace Go.Proofs.YtpjdfcigadnhcaaGreatDoor
open Go.Eng
open Nat (reduceAdd reduceLT reduceLeDiff reduceMul reduceEqDiff reduceSub)
variable [Glob]
set_option maxHeartbeats 4000000
set_option maxRecDepth 100000
def holes7 : List Blk := [.hole, .hole, .map fmAll 17, .hole, .hole, .hole, .hole]
theorem exprNode_n (hG : Glob.g = some 0) (x : Ex) (hw : x.wt ≤ 1048576) : ∃ n : Int, FnOkS Tryz.prog 59 [encEx x, .mp 2] holes7 (num n) holes7 := by
 obtain ⟨_, ⟨n, rfl⟩, h⟩ := exprNode_tot hG .hole .hole .hole .hole .hole .hole fmAll 17 (fun n _ => ⟨rfl, rfl, rfl, rfl, rfl, rfl⟩) fmAll_ok x hw
 exact ⟨n, h⟩
open Classical in
noncomputable def enOf (hG : Glob.g = some 0) (x : Ex) : Int := if h : x.wt ≤ 1048576 then Classical.choose (exprNode_n hG x h) else 0
theorem enOf_ok (hG : Glob.g = some 0) (x : Ex) (hw : x.wt ≤ 1048576) : FnOkS Tryz.prog 59 [encEx x, .mp 2] holes7 (num (enOf hG x)) holes7 := by
 unfold enOf
 rw [dif_pos hw]
 exact Classical.choose_spec (exprNode_n hG x hw)
theorem exprNode_ok (hG : Glob.g = some 0) (b0 b1 b3 b4 b5 b6 : Blk) (hb : ∀ n, 7 ≤ n → belowB n b0 = true ∧ belowB n b1 = true ∧ belowB n b3 = true ∧ belowB n b4 = true ∧ belowB n b5 = true ∧ belowB n b6 = true) (x : Ex) (hw : x.wt ≤ 1048576) :
  FnOkS Tryz.prog 59 [encEx x, .mp 2] [b0, b1, .map fmAll 17, b3, b4, b5, b6] (num (enOf hG x)) [b0, b1, .map fmAll 17, b3, b4, b5, b6] := by
 obtain ⟨_, ⟨n, rfl⟩, h⟩ := exprNode_tot hG b0 b1 b3 b4 b5 b6 fmAll 17 hb fmAll_ok x hw
 refine FnOkS.agree (by kernel_rfl) h (enOf_ok hG x hw) fun E w xs hs hx => ⟨E.only 2, hs.only (k := 2) (kvs := fmAll) (cl := 17) rfl (fun e he => List.all_eq_true.1 (fmAll_ok.below 0) e he) rfl (fun j B hj hB => ?_), hx.only fun v hv => ?_⟩
 ·rcases j with _ | _ | _ | _ | _ | _ | _ | j
  ·cases hB; rfl
  ·cases hB; rfl
  ·exact absurd rfl hj
  ·cases hB; rfl
  ·cases hB; rfl
  ·cases hB; rfl
  ·cases hB; rfl
  ·simp [holes7] at hB
 ·simp only [List.mem_cons,List.not_mem_nil,or_false] at hv
  rcases hv with rfl | rfl
  ·left; rw [encEx_eq]; rfl
  ·right; rfl
noncomputable def firstX {α : Type} (f : α → Int) : List α → Int
 | [] => 0
 | u :: r => if decide (f u = 0) = true then firstX f r else f u
theorem firstX_zero {α : Type} {f : α → Int} : ∀ {l : List α}, firstX f l = 0 ↔ ∀ u ∈ l, f u = 0
 | [] => by simp [firstX]
 | u :: r => by
  have ih := firstX_zero (f := f) (l := r)
  by_cases h : f u = 0
  ·simp [firstX, h, ih]
  ·simp [firstX, h]
theorem stepJ_firstX {α : Type} (f : α → Int) (c : Code) : ∀ (l : List α) (s : Int), stepJ (fun (s : Int) u => if decide (f u = 0) = true then (s, none) else (f u, some c)) s l = if decide (firstX f l = 0) = true then (s, none) else (firstX f l, some c)
 | [], s => by simp [stepJ, firstX]
 | u :: r, s => by
  by_cases h : f u = 0
  ·simp only [stepJ,firstX,h,decide_true,if_true]
   exact stepJ_firstX f c r s
  ·have hd : decide (f u = 0) = false := decide_eq_false h
   simp [stepJ, firstX, hd, h]
noncomputable def ceRes (hG : Glob.g = some 0) (e : Ex) : Int := if decide (4096 < (e.size : Int)) || decide (32 < (e.depth : Int)) then 7 else firstX (enOf hG) e.nodes
theorem checkExpr_ok (hG : Glob.g = some 0) (e : Ex) (he : e.wt ≤ 1048576) : FnOk Tryz.prog 22 [encEx e] (num (ceRes hG e)) := by
 have hbw := e.bulk_le_wt
 have h18 := sesize_ok e (by omega)
 have h57 := exDepth_ok e.bulk e (Nat.le_refl _) (by omega)
 have h53 := fun B0 B1 B2 B3 h => exprs_ok e [B0, B1, B2, B3] h
 have hP : ∀ v ∈ e.nodes, v.wt ≤ 1048576 := fun v hv => by have := Ex.wt_nodes hv; omega
 refine fn_ok tt_ok (fn := Tryz.f22) Tryz.func22 rfl Tryz.call22 ?_
 simp only [startSt,Tryz.ntmps22,List.length_cons,List.length_nil,reduceAdd,reduceSub,List.replicate_succ,List.replicate_zero,List.cons_append,List.nil_append]
 rw [encEx_eq] at h18 h57 h53 ⊢
 simp only [exCells] at h18 h57 h53 ⊢
 refine tri_seq_region tt_ok fun K hK => ?_
 simp only [go_sem,reduceIte,reduceAdd,reduceLT,reduceLeDiff,reduceMul,reduceEqDiff,reduceSub,reduceCtorEq]
 refine hK _ ?_
 clear hK K
 refine tri_seq ?_
 have res : ceRes hG e = if decide (4096 < (e.size : Int)) || decide (32 < (e.depth : Int)) then 7 else firstX (enOf hG) e.nodes := rfl
 cases c1 : decide (4096 < (e.size : Int)) with
 | true =>
  rw [c1] at res
  refine tri_seq_region tt_ok fun K hK => ?_
  simp only [c1,go_sem,reduceIte,reduceAdd,reduceLT,reduceLeDiff,reduceMul,reduceEqDiff,reduceSub,reduceCtorEq]
  refine .inl ⟨_, _, by simp only [c1,go_sem,reduceIte,reduceAdd,reduceLT,reduceLeDiff,reduceMul,reduceEqDiff,reduceSub,reduceCtorEq,List.take_length], h18, ?_⟩
  try simp only [c1,go_sem,reduceIte,reduceAdd,reduceLT,reduceLeDiff,reduceMul,reduceEqDiff,reduceSub,reduceCtorEq]
  refine hK _ ?_
  clear hK K
  refine tri_cond rfl ?_
  refine tri_seq_region tt_ok fun K hK => ?_
  simp only [go_sem,reduceIte,reduceAdd,reduceLT,reduceLeDiff,reduceMul,reduceEqDiff,reduceSub,reduceCtorEq]
  refine hK _ ?_
  clear hK K
  refine tri_ret ⟨.inl rfl, ?_⟩
  rw [res]; rfl
 | false =>
  rw [c1] at res
  cases c2 : decide (32 < (e.depth : Int)) with
  | true =>
   rw [c2] at res
   refine tri_seq_region tt_ok fun K hK => ?_
   simp only [c1,go_sem,reduceIte,reduceAdd,reduceLT,reduceLeDiff,reduceMul,reduceEqDiff,reduceSub,reduceCtorEq]
   refine .inl ⟨_, _, by simp only [c1,go_sem,reduceIte,reduceAdd,reduceLT,reduceLeDiff,reduceMul,reduceEqDiff,reduceSub,reduceCtorEq,List.take_length], h18, ?_⟩
   try simp only [c1,go_sem,reduceIte,reduceAdd,reduceLT,reduceLeDiff,reduceMul,reduceEqDiff,reduceSub,reduceCtorEq]
   refine .inl ⟨_, _, by simp only [c2,go_sem,reduceIte,reduceAdd,reduceLT,reduceLeDiff,reduceMul,reduceEqDiff,reduceSub,reduceCtorEq,List.take_length], h57, ?_⟩
   try simp only [c2,go_sem,reduceIte,reduceAdd,reduceLT,reduceLeDiff,reduceMul,reduceEqDiff,reduceSub,reduceCtorEq]
   refine hK _ ?_
   clear hK K
   refine tri_cond rfl ?_
   refine tri_seq_region tt_ok fun K hK => ?_
   simp only [go_sem,reduceIte,reduceAdd,reduceLT,reduceLeDiff,reduceMul,reduceEqDiff,reduceSub,reduceCtorEq]
   refine hK _ ?_
   clear hK K
   refine tri_ret ⟨.inl rfl, ?_⟩
   rw [res]; rfl
  | false =>
   rw [c2] at res
   refine tri_seq_region tt_ok fun K hK => ?_
   simp only [c1,go_sem,reduceIte,reduceAdd,reduceLT,reduceLeDiff,reduceMul,reduceEqDiff,reduceSub,reduceCtorEq]
   refine .inl ⟨_, _, by simp only [c1,go_sem,reduceIte,reduceAdd,reduceLT,reduceLeDiff,reduceMul,reduceEqDiff,reduceSub,reduceCtorEq,List.take_length], h18, ?_⟩
   try simp only [c1,go_sem,reduceIte,reduceAdd,reduceLT,reduceLeDiff,reduceMul,reduceEqDiff,reduceSub,reduceCtorEq]
   refine .inl ⟨_, _, by simp only [c2,go_sem,reduceIte,reduceAdd,reduceLT,reduceLeDiff,reduceMul,reduceEqDiff,reduceSub,reduceCtorEq,List.take_length], h57, ?_⟩
   try simp only [c2,go_sem,reduceIte,reduceAdd,reduceLT,reduceLeDiff,reduceMul,reduceEqDiff,reduceSub,reduceCtorEq]
   refine hK _ ?_
   clear hK K
   refine tri_cond rfl (tri_skip ?_)
   show Tri _ _ _ _ _ _
   refine tri_seq_region tt_ok fun K hK => ?_
   simp only [go_sem,reduceIte,reduceAdd,reduceLT,reduceLeDiff,reduceMul,reduceEqDiff,reduceSub,reduceCtorEq]
   refine .inr <| .inl ⟨_, _, forms_ok _ _ (fun n hn => ⟨rfl, rfl⟩), ?_⟩
   try simp only [go_sem,reduceIte,reduceAdd,reduceLT,reduceLeDiff,reduceMul,reduceEqDiff,reduceSub,reduceCtorEq]
   refine hK _ ?_
   clear hK K
   refine tri_seq ?_
   refine tri_seq_region tt_ok fun K hK => ?_
   simp only [go_sem,reduceIte,reduceAdd,reduceLT,reduceLeDiff,reduceMul,reduceEqDiff,reduceSub,reduceCtorEq]
   refine .inr <| .inl ⟨_, _, h53 _ _ _ _ rfl, ?_⟩
   try simp only [go_sem,reduceIte,reduceAdd,reduceLT,reduceLeDiff,reduceMul,reduceEqDiff,reduceSub,reduceCtorEq]
   refine hK _ ?_
   clear hK K
   refine tri_block (triP_exprs (t := e) (B := 1048576) (fun s : Int => [.box (exCells e), .box [num s], .map fmAll 17, .box [.mp 2], .box (exCells e)]) 0 5 4 rfl (fun _ => rfl) (by omega) (fun _ => rfl) (fun _ => rfl) rfl rfl rfl (fun s u => if decide (enOf hG u = 0) = true then (s, none) else (enOf hG u, some .ret)) (by omega) (by omega) (fun v => v.wt ≤ 1048576) hP ?_ ?_)
   ·intro s u hu hm l LR LB hLR hLB
    have hn := exprNode_ok hG (.box (exCells e)) (.box [num s]) (.box [.mp 2]) (.box (exCells e)) LB (.box (exCells u)) (fun n hn => ⟨rfl, rfl, by simp only [belowB,List.all_cons,List.all_nil,belowV,Bool.and_true,decide_eq_true_eq]; omega, rfl, belowB_mono (by omega) hLB, rfl⟩) u hm
    rw [encEx_eq] at hn ⊢
    simp only [exCells] at hn
    simp only [setPs,exCells,List.set_cons_succ,List.set_cons_zero,List.cons_append,List.nil_append]
    refine tri_last_region tt_ok fun K hK => ?_
    simp only [go_sem,reduceIte,reduceAdd,reduceLT,reduceLeDiff,reduceMul,reduceEqDiff,reduceSub,reduceCtorEq]
    refine hK _ ?_
    clear hK K
    refine ⟨rfl, rfl, tri_block ?_⟩
    simp only [List.set_cons_succ,List.set_cons_zero]
    refine tri_seq_region tt_ok fun K hK => ?_
    simp only [go_sem,reduceIte,reduceAdd,reduceLT,reduceLeDiff,reduceMul,reduceEqDiff,reduceSub,reduceCtorEq]
    refine .inr <| .inl ⟨_, _, hn, ?_⟩
    try simp only [go_sem,reduceIte,reduceAdd,reduceLT,reduceLeDiff,reduceMul,reduceEqDiff,reduceSub,reduceCtorEq]
    refine hK _ ?_
    clear hK K
    refine tri_seq ?_
    cases c3 : decide (enOf hG u = 0) with
    | true =>
     refine tri_last_region tt_ok fun K hK => ?_
     simp only [c3,go_sem,reduceIte,reduceAdd,reduceLT,reduceLeDiff,reduceMul,reduceEqDiff,reduceSub,reduceCtorEq]
     refine hK _ ?_
     clear hK K
     refine tri_cond rfl (tri_skip ?_)
     exact ⟨rfl, rfl, rfl⟩
    | false =>
     refine tri_last_region tt_ok fun K hK => ?_
     simp only [c3,go_sem,reduceIte,reduceAdd,reduceLT,reduceLeDiff,reduceMul,reduceEqDiff,reduceSub,reduceCtorEq]
     refine hK _ ?_
     clear hK K
     refine tri_cond rfl ?_
     refine tri_seq_region tt_ok fun K hK => ?_
     simp only [go_sem,reduceIte,reduceAdd,reduceLT,reduceLeDiff,reduceMul,reduceEqDiff,reduceSub,reduceCtorEq]
     refine hK _ ?_
     clear hK K
     exact tri_ret ⟨rfl, rfl, rfl⟩
   ·rw [stepJ_firstX]
    simp only [Bool.or_self,Bool.false_eq_true,if_false] at res
    rw [res]
    cases c4 : decide (firstX (enOf hG) e.nodes = 0) with
    | true =>
     have e0 : firstX (enOf hG) e.nodes = 0 := of_decide_eq_true c4
     simp only [if_true]
     show Tri _ _ _ _ _ _
     refine tri_seq_region tt_ok fun K hK => ?_
     simp only [go_sem,reduceIte,reduceAdd,reduceLT,reduceLeDiff,reduceMul,reduceEqDiff,reduceSub,reduceCtorEq]
     refine hK _ ?_
     clear hK K
     refine tri_ret ⟨.inl rfl, ?_⟩
     rw [e0]; rfl
    | false =>
     simp only [Bool.false_eq_true,if_false]
     exact tri_ret ⟨.inl rfl, rfl⟩
theorem ceRes_zero {hG : Glob.g = some 0} {e : Ex} : ceRes hG e = 0 ↔ e.size ≤ 4096 ∧ e.depth ≤ 32 ∧ ∀ u ∈ e.nodes, enOf hG u = 0 := by
 unfold ceRes
 by_cases h1 : e.size ≤ 4096
 ·by_cases h2 : e.depth ≤ 32
  ·have e1 : decide (4096 < (e.size : Int)) = false := decide_eq_false (by omega)
   have e2 : decide (32 < (e.depth : Int)) = false := decide_eq_false (by omega)
   rw [e1, e2]
   simp only [Bool.or_self,Bool.false_eq_true,if_false]
   rw [firstX_zero]
   exact ⟨fun h => ⟨h1, h2, h⟩, fun h => h.2.2⟩
  ·have e2 : decide (32 < (e.depth : Int)) = true := decide_eq_true (by omega)
   rw [e2]
   simp only [Bool.or_true,if_true]
   exact ⟨fun h => absurd h (by decide), fun h => absurd h.2.1 h2⟩
 ·have e1 : decide (4096 < (e.size : Int)) = true := decide_eq_true (by omega)
  rw [e1]
  simp only [Bool.true_or,if_true]
  exact ⟨fun h => absurd h (by decide), fun h => absurd h.1 h1⟩
theorem ceRes_kid {hG : Glob.g = some 0} {e k : Ex} (h : ceRes hG e = 0) (hk : k ∈ e.kids) : ceRes hG k = 0 := by
 rw [ceRes_zero] at h ⊢
 obtain ⟨h1, h2, h3⟩ := h
 obtain ⟨i, hi⟩ := List.mem_iff_getElem?.1 hk
 have e1 := sumBy_mem Ex.size hi
 have e2 := e.size_kids
 have e3 := maxBy_ge Ex.depth hk
 have e4 := e.depth_eq
 refine ⟨by omega, by omega, fun u hu => h3 u ?_⟩
 rw [e.nodes_eq]
 exact List.mem_cons_of_mem _ (List.mem_flatMap.2 ⟨k, hk, hu⟩)
theorem size_kid {e k : Ex} (hk : k ∈ e.kids) : k.size < e.size := by
 obtain ⟨i, hi⟩ := List.mem_iff_getElem?.1 hk
 have e1 := sumBy_mem Ex.size hi
 have e2 := e.size_kids
 omega
end Go.Proofs.YtpjdfcigadnhcaaGreatDoor
end
