/-
  CONTRACTS: splitting at a slash.
  CONTRACTS: paths.
  CONTRACTS: what belongs to a declaration.
  CONTRACTS: closures over a form.
  CONTRACTS: labels against a form.
  CONTRACTS: nodes of types.
  CONTRACTS: expressions against a form.
  CONTRACTS: the range over the nodes of a type, with what is known of each node.
  CONTRACTS: CheckType of the program.
  CONTRACTS: the node of an expression.
  CONTRACTS: the forms of all kinds; CheckExpr.
  THE PLAIN LAW of CheckType: what has its form has parts that have theirs.
  CONTRACTS: the depth of an expression.
-/
import Derived.Test.YtpjdfcigadnhcaaGreatDoorQ4
set_option linter.all false
section
namespace Go.Proofs.YtpjdfcigadnhcaaGreatDoor
open Go.Eng
open Nat (reduceAdd reduceLT reduceLeDiff reduceMul reduceEqDiff reduceSub)
variable [Glob]
set_option maxHeartbeats 4000000
set_option maxRecDepth 100000
attribute [local irreducible] runM stepM valD stepOp stepD callF
theorem makeV46 (k : Nat) (hk : k ≤ 1048576) : makeV tt 46 (num ((k + 1 : Nat) : Int)) (num ((k + 1 : Nat) : Int)) = some (1, List.replicate (k + 1) (str ⟨#[]⟩), k + 1) := by
 unfold makeV
 simp only [tElem,tt46,tt9]
 rw [if_pos (by refine ⟨by omega, by omega, by omega, by omega, by decide, ?_⟩; simp [Value.oneCell'])]
 simp only [Int.toNat_natCast]
 rfl
theorem genSplit_tot (hG : Glob.g = some 0) (s : ByteArray) (hs : s.size ≤ 1048575) : ∃ r, (fun v => ∃ xs : List ByteArray, v = .slice (xs.map str) ∧ xs ≠ [] ∧ (∀ x ∈ xs, x.size ≤ s.size) ∧ xs.length ≤ s.size + 1) r ∧ FnOk Tryz.prog 200 [str s, str ⟨#[47]⟩, num 0, num (-1)] r := by
 refine fn_ex tt_ok (fn := Tryz.f200) Tryz.func200 rfl Tryz.call200 ?_
 simp only [ltb,startSt,Tryz.ntmps200,List.length_cons,List.length_nil,reduceAdd,reduceSub,List.replicate_succ,List.replicate_zero]
 have hT9 : Tryz.prog.underlying 9 = some .string := by kernel_rfl
 have sl : ∀ (a : ByteArray) (ty : TypeId), liftL Tryz.prog (Builtin.len_ #[9] ty) [.sc (.string a)] = some (num a.size) := fun a ty => ev_slen (P := Tryz.prog) (tt := tt) (T := 9) a hT9 ty
 have hz : (⟨#[47]⟩ : ByteArray).size = 1 := rfl
 refine ex_region_w tt_ok 66 (rp 8 0 [2]) [] rfl rfl fun K hK => ?_
 simp only [ltb,go_sem]
 refine hK _ _ rfl ?_
 simp only [mwb,reduceAdd]
 refine ex_seq ?_
 refine ex_region_w tt_ok 66 (rp 12 0 [1,2]) [] rfl rfl fun K hK => ?_
 simp only [ltb,go_sem,reduceLT,reduceCtorEq]
 refine hK _ _ rfl ?_
 simp only [mwb,reduceAdd,reduceEqDiff]
 refine ex_if rfl (fun hc13 => ?_) (fun hc13 => ?_)
 ·exact absurd hc13 (by decide)
 ·refine ex_skip ?_
  show Go.Eng.Ex _ _ _ _ _ _
  refine ex_seq ?_
  refine ex_region_w tt_ok 66 (rp 14 0 [1,2]) [] rfl rfl fun K hK => ?_
  simp only [ltb,go_sem,reduceLT]
  refine hK _ _ rfl ?_
  simp only [mwb,reduceAdd,reduceEqDiff]
  refine ex_if rfl (fun hc15 => ?_) (fun hc15 => ?_)
  ·exact absurd (size_of_beq hc15) (by decide)
  ·refine ex_skip ?_
   show Go.Eng.Ex _ _ _ _ _ _
   refine ex_seq ?_
   refine ex_region_w tt_ok 66 (rp 19 0 [1,2]) [] rfl rfl fun K hK => ?_
   simp only [ltb,go_sem,reduceLT]
   refine hK _ _ rfl ?_
   simp only [mwb,reduceAdd,reduceEqDiff]
   refine ex_if rfl (fun hc20 => ?_) (fun hc20 => ?_)
   ·refine ex_last_region_w tt_ok 66 (0::0::0::2::(rp 17 0 [2,2,2,2])) [] (by kernel_rfl) rfl rfl fun K hK => ?_
    refine runX_cut 3 fun K1 hK1 => ?_
    simp only [ltb,go_sem,reduceLT,reduceEqDiff]
    refine callF_ex (count1_tot _) ?_
    rintro _ ⟨k, rfl, hk⟩
    try simp only [go_sem]
    have hwk := i64_succ k (by omega)
    refine hK1 _ ?_
    try simp only [ltb]
    simp only [hwk,go_sem,reduceLT,reduceEqDiff]
    refine hK _ _ rfl ?_
    simp only [mwb,reduceAdd,reduceEqDiff]
    show Go.Eng.Ex _ _ _ _ _ _
    have hwk := i64_succ k (by omega)
    have hws := i64_succ s.size (by omega)
    have hmin : (if ((s.size + 1 : Nat) : Int) < ((k + 1 : Nat) : Int) then ((s.size + 1 : Nat) : Int) else ((k + 1 : Nat) : Int)) = ((k + 1 : Nat) : Int) := if_neg (by omega)
    refine ex_region_w tt_ok 66 (0::0::0::2::(rp 21 0 [1,1,1,1,1])) [] rfl rfl fun K hK => ?_
    try simp only [ltb]
    simp only [hws,hmin,sl,go_sem,reduceLT,reduceEqDiff,reduceCtorEq]
    refine hK _ _ rfl ?_
    simp only [mwb,reduceAdd,reduceEqDiff]
    have hmk := makeV46 k (by omega)
    refine ex_region_k (ws := ?ws) (mem' := ?mm) tt_ok 66 [0,0,0,0,0,0,0,0,0,2,0,0,0,0,0,0,0,0,0,0,0,0,0,0,0,0,0,0,0,0,1,1] [] (by kernel_rfl) (by kernel_rfl) (fun K hK => ?h1) ?h2 ?h3
    case h1 =>
     simp only [hmk,List.length_replicate,go_sem,reduceLT,reduceEqDiff]
     exact hK
    case h2 => kernel_rfl
    simp only [mwb,reduceAdd,reduceEqDiff]
    have hwm : IntKind.i64.wrap (((k + 1 : Nat) : Int) - 1) = (k : Int) := by rw [IntWalk.i64_in _ (by omega)]; omega
    refine ex_region_w tt_ok 66 (0::0::0::2::(rp 28 0 [1,1])) [] rfl rfl fun K hK => ?_
    try simp only [ltb]
    simp only [hwm,go_sem,reduceLT,reduceEqDiff]
    refine hK _ _ rfl ?_
    simp only [mwb,reduceAdd,reduceEqDiff]
    refine ex_region_w tt_ok 66 (rp 10 0 [2]) [] rfl rfl fun K hK => ?_
    simp only [ltb,go_sem]
    refine hK _ _ rfl ?_
    simp only [mwb,reduceAdd]
    refine ex_seq ?_
    refine ex_block ?_
    refine ex_loopF (fun a : ByteArray × Nat × List ByteArray => { fr := [str a.1, str ⟨#[47]⟩, num 0, num k, .undef, .undef, .undef, .undef, .undef, .ms 0 0 0 (k + 1), num a.2.1, .undef, .undef, .undef, .undef, .undef, .undef, .undef, .undef, .undef, .undef, .undef, .undef, .undef, .undef, .undef, .undef, .undef, .undef, .undef, .undef, .undef, .undef, .undef, .undef, .undef, .undef, .undef, .undef, .undef, .undef, .undef, .undef, .undef, .undef, .undef, .undef, .undef, .undef, .undef, .undef, .undef, .undef, .undef, .undef, .undef, .undef, .undef, .undef, .undef, .undef, .undef, .undef, .undef, .undef, .undef], mem := [.rows 0 1 (a.2.2.map str)] }) (fun a => k - a.2.1) (fun a => a.1.size ≤ s.size ∧ a.2.1 ≤ k ∧ a.2.2.length = k + 1 ∧ ∀ x ∈ a.2.2, x.size ≤ s.size) ((s, 0, List.replicate (k + 1) ⟨#[]⟩)) 1 [true,true,true,true,false,false,false,false,false,true,true] (by omega) (by simp only [maskFr,belowV,reduceLT,mkb]) (by simp only [List.all_cons,List.all_nil,belowB,Bool.and_self,List.take_succ_cons,List.take_nil]) (by simp only [maskFr,List.map_replicate,mkb]; rfl) (⟨Nat.le_refl _, by simp, by simp, by intro x hx; rw [List.eq_of_mem_replicate hx]; exact Nat.zero_le _⟩) ?_
    rintro ⟨q, i, xs⟩ ⟨hq, hik, hlen, hall⟩
    dsimp only at hq hik hlen hall
    dsimp only
    refine ex_seq ?_
    refine ex_region_w tt_ok 66 (rp 34 0 [1,1,2]) [] rfl rfl fun K hK => ?_
    simp only [ltb,go_sem,reduceLT,reduceEqDiff]
    refine hK _ _ rfl ?_
    simp only [mwb,reduceAdd,reduceEqDiff]
    refine ex_if rfl (fun hc36 => ?_) (fun hc36 => ?_)
    ·have hlt : i < k := by simpa using hc36
     refine ex_skip ?_
     show Go.Eng.Ex _ _ _ _ _ _
     refine ex_block ?_
     refine ex_region_w tt_ok 66 (rp 11 0 (2::(rp 25 0 [1,1,1]))) [] rfl rfl fun K hK => ?_
     refine runX_cut 3 fun K1 hK1 => ?_
     simp only [ltb,go_sem,reduceLT,reduceEqDiff]
     refine callF_ex (sindex1_tot hG q (by omega)) ?_
     rintro _ ⟨o, rfl, hol, hou⟩
     try simp only [go_sem]
     refine hK1 _ ?_
     simp only [ltb,go_sem,reduceLT,reduceEqDiff]
     refine hK _ _ rfl ?_
     simp only [mwb,reduceAdd,reduceEqDiff]
     refine ex_seq ?_
     refine ex_region_w tt_ok 66 (rp 40 0 [1,2]) [] rfl rfl fun K hK => ?_
     simp only [ltb,go_sem,reduceLT]
     refine hK _ _ rfl ?_
     simp only [mwb,reduceAdd,reduceEqDiff]
     refine ex_if rfl (fun hc41 => ?_) (fun hc41 => ?_)
     ·refine ex_exit ?_
      show Go.Eng.Ex _ _ _ _ _ _
      have hin : ((i : Nat) : Int) < ((k + 1 : Nat) : Int) := by omega
      obtain ⟨x0, hx0⟩ : ∃ x, xs[i]? = some x := ⟨_, List.getElem?_eq_getElem (by omega)⟩
      have hwi := i64_succ i (by omega)
      have hi0 : (0 : Int) ≤ ((i + 1 : Nat) : Int) := by omega
      have hi1 : ((i + 1 : Nat) : Int) ≤ ((k + 1 : Nat) : Int) := by omega
      refine ex_region_w tt_ok 66 (rp 58 0 [1,1,1,1]) [] rfl rfl fun K hK => ?_
      try simp only [ltb]
      simp only [hin,hx0,List.getElem?_map,setRow,go_sem,reduceLT,reduceEqDiff,reduceCtorEq]
      refine hK _ _ rfl ?_
      simp only [mwb]
      refine ex_region_w tt_ok 66 (rp 8 0 (2::(rp 53 0 [1,1,1,1]))) [] rfl rfl fun K hK => ?_
      try simp only [ltb]
      simp only [hwi,hi0,hi1,cutAt,Option.getD_some,Int.sub_zero,go_sem,reduceLT,reduceEqDiff]
      refine hK _ _ rfl ?_
      simp only [mwb,reduceAdd,reduceEqDiff]
      refine ex_ret ?_
      refine ⟨.inl rfl, .slice (((xs.set i q).take (i + 1)).map str), ⟨_, rfl, ?_, ?_, ?_⟩, ?_⟩
      ·intro e; have h0 := congrArg List.length e; rw [List.length_take, List.length_set] at h0; simp only [List.length_nil] at h0; omega
      ·intro x hx
       rcases List.mem_or_eq_of_mem_set (List.mem_of_mem_take hx) with h | rfl
       ·exact hall x h
       ·exact hq
      ·rw [List.length_take]; omega
      ·simp [retV, resL, resV, pur, List.map_set, List.map_take]
       simp only [pur1,purCell,List.getElem?_cons_zero]
       rw [if_pos ⟨trivial, by rw [List.length_set, List.length_map]; omega⟩]
       simp
     ·have ho0 : 0 ≤ o := by have := of_decide_eq_false hc41; omega
      have hwo : IntKind.i64.wrap (o + 0) = o := by rw [Int.add_zero]; exact IntWalk.i64_in _ (by omega)
      have hwo1 : IntKind.i64.wrap (o + ((1 : Nat) : Int)) = o + 1 := by rw [IntWalk.i64_in _ (by omega)]; rfl
      have hwi := i64_succ i (by omega)
      have hin : ((i : Nat) : Int) < ((k + 1 : Nat) : Int) := by omega
      obtain ⟨x0, hx0⟩ : ∃ x, xs[i]? = some x := ⟨_, List.getElem?_eq_getElem (by omega)⟩
      have hct : lift2 Tryz.prog (fun a h => Instr.sliceAt 9 a none (some h) none) (.sc (.string q)) (.sc (.int .i64 (o))) = some (.sc (.string (q.extract 0 (o : Int).toNat))) := ev_cutto (P := Tryz.prog) (tt := tt) (mem := []) (T := 9) q hT9 .i64 (o) (by omega) (by omega)
      have hcf : lift2 Tryz.prog (fun a l => Instr.sliceAt 9 a (some l) none none) (.sc (.string q)) (.sc (.int .i64 (o + 1))) = some (.sc (.string (q.extract (o + 1 : Int).toNat q.size))) := ev_cutfrom (P := Tryz.prog) (tt := tt) (mem := []) (T := 9) q hT9 .i64 (o + 1) (by omega) (by omega)
      refine ex_skip ?_
      show Go.Eng.Ex _ _ _ _ _ _
      refine ex_region_w tt_ok 66 (rp 42 0 (rp 8 1 [])) [] rfl rfl fun K hK => ?_
      refine runX_cut 8 fun K1 hK1 => ?_
      simp only [ltb]
      simp only [hwo,hin,hct,go_sem,reduceLT,reduceEqDiff,reduceCtorEq]
      refine hK1 _ ?_
      try simp only [ltb]
      simp only [hx0,List.getElem?_map,setRow,go_sem,reduceLT,reduceEqDiff,reduceCtorEq]
      refine hK _ _ rfl ?_
      simp only [mwb]
      refine ex_region_w tt_ok 66 (2::(rp 49 0 [1,1,1,1,1,1])) [] rfl rfl fun K hK => ?_
      try simp only [ltb]
      simp only [hwo1,hcf,sl,hz,go_sem,reduceLT,reduceEqDiff]
      refine hK _ _ rfl ?_
      simp only [mwb,reduceEqDiff]
      refine ex_last_region_w tt_ok 66 (rp 10 0 (2::(rp 45 0 [2,2]))) [] (by kernel_rfl) rfl rfl fun K hK => ?_
      try simp only [ltb]
      simp only [hwi,go_sem,reduceLT,reduceEqDiff]
      refine hK _ _ rfl ?_
      simp only [mwb,reduceAdd,reduceEqDiff]
      refine ⟨(q.extract (o + 1).toNat q.size, i + 1, xs.set i (q.extract 0 o.toNat)), ?_, ?_, 1, [true,true,true,true,false,false,false,false,false,true,true], by omega, by simp only [maskFr,belowV,reduceLT,mkb], by simp only [List.all_cons,List.all_nil,belowB,Bool.and_self,List.take_succ_cons,List.take_nil], by simp only [maskFr,List.map_set,mkb]⟩
      ·refine ⟨by have := size_ext (s := q) (a := (o + 1).toNat) (b := q.size); dsimp only; omega, by dsimp only; omega, by simpa using hlen, fun x hx => ?_⟩
       rcases List.mem_or_eq_of_mem_set hx with h | rfl
       ·exact hall x h
       ·have := size_ext (s := q) (a := 0) (b := o.toNat); omega
      ·dsimp only; omega
    ·refine ex_exit ?_
     show Go.Eng.Ex _ _ _ _ _ _
     have hin : ((i : Nat) : Int) < ((k + 1 : Nat) : Int) := by omega
     obtain ⟨x0, hx0⟩ : ∃ x, xs[i]? = some x := ⟨_, List.getElem?_eq_getElem (by omega)⟩
     have hwi := i64_succ i (by omega)
     have hi0 : (0 : Int) ≤ ((i + 1 : Nat) : Int) := by omega
     have hi1 : ((i + 1 : Nat) : Int) ≤ ((k + 1 : Nat) : Int) := by omega
     refine ex_region_w tt_ok 66 (rp 58 0 [1,1,1,1]) [] rfl rfl fun K hK => ?_
     try simp only [ltb]
     simp only [hin,hx0,List.getElem?_map,setRow,go_sem,reduceLT,reduceEqDiff,reduceCtorEq]
     refine hK _ _ rfl ?_
     simp only [mwb]
     refine ex_region_w tt_ok 66 (rp 8 0 (2::(rp 53 0 [1,1,1,1]))) [] rfl rfl fun K hK => ?_
     try simp only [ltb]
     simp only [hwi,hi0,hi1,cutAt,Option.getD_some,Int.sub_zero,go_sem,reduceLT,reduceEqDiff]
     refine hK _ _ rfl ?_
     simp only [mwb,reduceAdd,reduceEqDiff]
     refine ex_ret ?_
     refine ⟨.inl rfl, .slice (((xs.set i q).take (i + 1)).map str), ⟨_, rfl, ?_, ?_, ?_⟩, ?_⟩
     ·intro e; have h0 := congrArg List.length e; rw [List.length_take, List.length_set] at h0; simp only [List.length_nil] at h0; omega
     ·intro x hx
      rcases List.mem_or_eq_of_mem_set (List.mem_of_mem_take hx) with h | rfl
      ·exact hall x h
      ·exact hq
     ·rw [List.length_take]; omega
     ·simp [retV, resL, resV, pur, List.map_set, List.map_take]
      simp only [pur1,purCell,List.getElem?_cons_zero]
      rw [if_pos ⟨trivial, by rw [List.length_set, List.length_map]; omega⟩]
      simp
   ·exact absurd hc20 (by decide)
end Go.Proofs.YtpjdfcigadnhcaaGreatDoor
end

section
namespace Go.Proofs.YtpjdfcigadnhcaaGreatDoor
open Go.Eng
open Nat (reduceAdd reduceLT reduceLeDiff reduceMul reduceEqDiff reduceSub)
variable [Glob]
set_option maxHeartbeats 4000000
set_option maxRecDepth 100000
attribute [local irreducible] runM stepM valD stepOp stepD callF
theorem split_tot (hG : Glob.g = some 0) (s : ByteArray) (hs : s.size ≤ 1048575) : ∃ r, (fun v => ∃ xs : List ByteArray, v = .slice (xs.map str) ∧ xs ≠ [] ∧ (∀ x ∈ xs, x.size ≤ s.size) ∧ xs.length ≤ s.size + 1) r ∧ FnOk Tryz.prog 187 [str s, str ⟨#[47]⟩] r := by
 refine fn_ex tt_ok (fn := Tryz.f187) Tryz.func187 rfl Tryz.call187 ?_
 simp only [ltb,startSt,Tryz.ntmps187,List.length_cons,List.length_nil,reduceAdd,reduceSub,List.replicate_succ,List.replicate_zero]
 refine ex_region_w tt_ok 8 [0,0,0,0,2] [] rfl rfl fun K hK => ?_
 simp only [ltb,go_sem]
 refine hK _ _ rfl ?_
 simp only [mwb,reduceAdd]
 refine ex_region_w tt_ok 8 [0,0,0,0,2,1,1,1] [] rfl rfl fun K hK => ?_
 refine runX_cut 3 fun K1 hK1 => ?_
 simp only [ltb,go_sem,reduceLT,reduceEqDiff]
 refine callF_ex (genSplit_tot hG s hs) ?_
 rintro _ ⟨xs, rfl, hne, hall, hln⟩
 try simp only [go_sem]
 refine hK1 _ ?_
 simp only [ltb,go_sem,reduceLT,reduceEqDiff]
 refine hK _ _ rfl ?_
 simp only [mwb,reduceAdd,reduceEqDiff]
 exact ex_ret ⟨.inl rfl, _, ⟨xs, rfl, hne, hall, hln⟩, rfl⟩
theorem maj1_tot (c : Int) : ∃ r, isB r ∧ FnOk Tryz.prog 189 [.sc (.int .u8 c)] r := by
 refine fn_ex tt_ok (fn := Tryz.f189) Tryz.func189 rfl Tryz.call189 ?_
 simp only [ltb,startSt,Tryz.ntmps189,List.length_cons,List.length_nil,reduceAdd,reduceSub,List.replicate_succ,List.replicate_zero]
 refine ex_region_w tt_ok 9 [0,0,2] [] rfl rfl fun K hK => ?_
 simp only [ltb,go_sem]
 refine hK _ _ rfl ?_
 simp only [mwb,reduceAdd]
 refine ex_region_w tt_ok 9 [0,0,2,1,1,1,1,1,1] [(2, 5)] rfl rfl fun K hK => ?_
 refine runX_cut 2 fun K1 hK1 => ?_
 simp only [ltb,go_sem,reduceLT]
 refine callF_ex (small_tot _) ?_
 rintro _ ⟨r1, rfl⟩
 try simp only [go_sem]
 refine hK1 _ ?_
 refine runX_cut 1 fun K1 hK1 => ?_
 simp only [ltb,go_sem,reduceLT,reduceEqDiff]
 refine hK1 _ ?_
 refine runX_case 5 (by rfl) fun b hb1_2 => ?_
 cases b
 ·refine runX_cut 2 fun K1 hK1 => ?_
  simp only [ltb,go_sem,reduceLT,reduceEqDiff,reduceCtorEq]
  refine callF_ex (digit_tot _) ?_
  rintro _ ⟨r2, rfl⟩
  try simp only [go_sem]
  refine hK1 _ ?_
  simp only [ltb,go_sem,reduceLT,reduceEqDiff]
  refine hK _ _ rfl ?_
  simp only [mwb,reduceAdd,reduceEqDiff]
  exact ex_ret ⟨.inl rfl, _, ⟨_, rfl⟩, rfl⟩
 ·simp only [ltb,go_sem,reduceLT,reduceEqDiff]
  refine hK _ _ rfl ?_
  simp only [mwb,reduceAdd,reduceEqDiff]
  exact ex_ret ⟨.inl rfl, _, ⟨_, rfl⟩, rfl⟩
theorem major_tot (hG : Glob.g = some 0) (s : ByteArray) (hs : s.size ≤ 1048575) : ∃ r, (fun v => ∃ a b : Int, v = .tup [num a, num b]) r ∧ FnOk Tryz.prog 160 [str s] r := by
 refine fn_ex tt_ok (fn := Tryz.f160) Tryz.func160 rfl Tryz.call160 ?_
 simp only [ltb,startSt,Tryz.ntmps160,List.length_cons,List.length_nil,reduceAdd,reduceSub,List.replicate_succ,List.replicate_zero]
 have hT9 : Tryz.prog.underlying 9 = some .string := by kernel_rfl
 have sl : ∀ (a : ByteArray) (ty : TypeId), liftL Tryz.prog (Builtin.len_ #[9] ty) [.sc (.string a)] = some (num a.size) := fun a ty => ev_slen (P := Tryz.prog) (tt := tt) (T := 9) a hT9 ty
 refine ex_region_w tt_ok 49 [0,0,2,2] [] rfl rfl fun K hK => ?_
 simp only [ltb,go_sem]
 refine hK _ _ rfl ?_
 simp only [mwb,reduceAdd,reduceEqDiff]
 refine ex_region_w tt_ok 49 [0,0,0,0,2,0,0,0,0,1,1] [] rfl rfl fun K hK => ?_
 refine runX_cut 2 fun K1 hK1 => ?_
 simp only [ltb,go_sem,reduceLT]
 refine callF_ex (split_tot hG s hs) ?_
 rintro _ ⟨xs, rfl, hne, hall, hln⟩
 try simp only [go_sem]
 have hl0 : 0 < xs.length := List.length_pos_iff.2 hne
 obtain ⟨z, hz⟩ : ∃ z, xs[xs.length - 1]? = some z := ⟨_, List.getElem?_eq_getElem (by omega)⟩
 have hzs := hall z (List.mem_of_getElem? hz)
 have hwm : IntKind.i64.wrap ((xs.length : Int) - 1) = ((xs.length - 1 : Nat) : Int) := by rw [IntWalk.i64_in _ (by omega)]; omega
 refine hK1 _ ?_
 simp only [ltb,go_sem,reduceLT,reduceEqDiff]
 refine hK _ _ rfl ?_
 simp only [mwb,reduceAdd,reduceEqDiff]
 refine ex_region_w tt_ok 49 [0,0,0,0,0,2,2,0,0,0,0,1,1,1,1,1,1,1,1,1,1] [] rfl rfl fun K hK => ?_
 refine runX_cut 7 fun K1 hK1 => ?_
 simp only [ltb]
 simp only [hz,hwm,List.length_map,List.getElem?_map,go_sem,reduceLT,reduceEqDiff]
 refine callF_ex (version_tot z (by omega)) ?_
 rintro _ ⟨n0, b0, rfl⟩
 try simp only [go_sem]
 refine hK1 _ ?_
 simp only [ltb,go_sem,reduceLT,reduceEqDiff]
 refine hK _ _ rfl ?_
 simp only [mwb,reduceAdd,reduceEqDiff]
 refine ex_seq ?_
 refine ex_region_w tt_ok 49 (rp 21 0 (rp 11 1 [2])) [(2, 23), (7, 28)] rfl rfl fun K hK => ?_
 refine runX_cut 3 fun K1 hK1 => ?_
 simp only [ltb,go_sem,reduceLT,reduceEqDiff]
 refine hK1 _ ?_
 refine runX_case 23 (by rfl) fun b hb3_2 => ?_
 cases b
 ·refine runX_cut 5 fun K1 hK1 => ?_
  simp only [ltb]
  simp only [sl,go_sem,reduceLT,reduceEqDiff,reduceCtorEq]
  refine hK1 _ ?_
  refine runX_case 28 (by rfl) fun b hb3_7 => ?_
  cases b
  ·try simp only [ltb]
   simp only [List.length_map,go_sem,reduceLT,reduceEqDiff]
   refine hK _ _ rfl ?_
   simp only [mwb,reduceAdd,reduceEqDiff]
   refine ex_if rfl (fun hc32 => ?_) (fun hc32 => ?_)
   ·refine ex_region_w tt_ok 49 [0,0,2,2] [] rfl rfl fun K hK => ?_
    simp only [ltb,go_sem]
    refine hK _ _ rfl ?_
    simp only [mwb,reduceAdd,reduceEqDiff]
    exact ex_ret ⟨.inl rfl, _, ⟨_, _, rfl⟩, rfl⟩
   ·refine ex_skip ?_
    show Go.Eng.Ex _ _ _ _ _ _
    refine ex_seq ?_
    refine ex_region_w tt_ok 49 (rp 33 0 [2,2,2]) [] rfl rfl fun K hK => ?_
    try simp only [ltb]
    simp only [List.length_map,go_sem,reduceLT]
    refine hK _ _ rfl ?_
    simp only [mwb,reduceAdd,reduceEqDiff]
    refine ex_block ?_
    refine ex_range 35 (xs.length) 0 (false::false::true::true::false::true::(rp 26 false [true,true,true,true])) (by omega) (by simp only [maskFr,belowV,mkb]) (by simp only [List.all_nil,List.take_nil]) (by rfl) fun i hii => ?_
    simp only [maskFr,List.set_cons_zero,List.set_cons_succ,mkb]
    refine ex_region_w tt_ok 49 (rp 36 0 [2]) [] rfl rfl fun K hK => ?_
    simp only [ltb,go_sem,reduceLT]
    refine hK _ _ rfl ?_
    simp only [mwb,reduceAdd]
    refine ex_seq ?_
    refine ex_if rfl (fun hc36 => ?_) (fun hc36 => ?_)
    ·have hlti : i < (xs.length) := by simpa using hc36
     obtain ⟨x, hx⟩ : ∃ x, xs[i]? = some x := ⟨_, List.getElem?_eq_getElem hlti⟩
     have hxs := hall x (List.mem_of_getElem? hx)
     refine ex_skip ?_
     show Go.Eng.Ex _ _ _ _ _ _
     refine ex_seq ?_
     refine ex_block ?_
     refine ex_region_w tt_ok 49 (rp 8 0 (2::(rp 28 0 [1,1]))) [] rfl rfl fun K hK => ?_
     try simp only [ltb]
     simp only [hx,List.getElem?_map,go_sem,reduceLT,reduceEqDiff]
     refine hK _ _ rfl ?_
     simp only [mwb,reduceAdd,reduceEqDiff]
     refine ex_region_w tt_ok 49 (rp 39 0 [1,1,1,1,1,1,1,2]) [(3, 42)] rfl rfl fun K hK => ?_
     refine runX_cut 2 fun K1 hK1 => ?_
     simp only [ltb,go_sem,reduceLT]
     refine callF_ex (isName_tot hG x) ?_
     rintro _ ⟨r3, rfl⟩
     try simp only [go_sem]
     refine hK1 _ ?_
     refine runX_cut 2 fun K1 hK1 => ?_
     simp only [ltb,go_sem,reduceLT,reduceEqDiff]
     refine hK1 _ ?_
     refine runX_case 42 (by rfl) fun b hb8_3 => ?_
     cases b
     ·refine runX_cut 2 fun K1 hK1 => ?_
      simp only [ltb,go_sem,reduceLT,reduceEqDiff]
      refine callF_ex (all_tot 189 maj1_tot x (by omega)) ?_
      rintro _ ⟨r4, rfl⟩
      try simp only [go_sem]
      refine hK1 _ ?_
      simp only [ltb,go_sem,reduceLT,reduceEqDiff]
      refine hK _ _ rfl ?_
      simp only [mwb,reduceAdd,reduceEqDiff]
      refine ex_if rfl (fun hc46 => ?_) (fun hc46 => ?_)
      ·refine ex_region_w tt_ok 49 [0,0,2,2] [] rfl rfl fun K hK => ?_
       simp only [ltb,go_sem]
       refine hK _ _ rfl ?_
       simp only [mwb,reduceAdd,reduceEqDiff]
       exact ex_ret ⟨.inl rfl, _, ⟨_, _, rfl⟩, rfl⟩
      ·refine ex_skip ?_
       show Go.Eng.Ex _ _ _ _ _ _
       refine ex_last_region_w tt_ok 49 (rp 35 0 (2::(rp 11 0 [2]))) [] (by kernel_rfl) rfl rfl fun K hK => ?_
       simp only [ltb,go_sem,reduceLT]
       refine hK _ _ rfl ?_
       simp only [mwb,reduceAdd,reduceEqDiff]
       have hwi := i64_succ i (by omega)
       refine ⟨hlti, 0, (false::false::true::true::false::true::(rp 26 false [true,true,true,true])), by omega, by simp only [maskFr,belowV,mkb], by simp only [List.all_nil,List.take_nil], ?_⟩
       simp only [hwi,maskFr,mkb]
     ·simp only [ltb,go_sem,reduceLT,reduceEqDiff]
      refine hK _ _ rfl ?_
      simp only [mwb,reduceAdd,reduceEqDiff]
      refine ex_cond rfl ?_
      refine ex_region_w tt_ok 49 [0,0,2,2] [] rfl rfl fun K hK => ?_
      simp only [ltb,go_sem]
      refine hK _ _ rfl ?_
      simp only [mwb,reduceAdd,reduceEqDiff]
      exact ex_ret ⟨.inl rfl, _, ⟨_, _, rfl⟩, rfl⟩
    ·have hgei : ¬ i < (xs.length) := by simpa using hc36
     refine ex_exit ?_
     show Go.Eng.Ex _ _ _ _ _ _
     refine ex_region_w tt_ok 49 (0::0::2::2::(rp 44 0 [1])) [] rfl rfl fun K hK => ?_
     simp only [ltb,go_sem,reduceLT]
     refine hK _ _ rfl ?_
     simp only [mwb,reduceAdd,reduceEqDiff]
     exact ex_ret ⟨.inl rfl, _, ⟨_, _, rfl⟩, rfl⟩
  ·simp only [ltb,go_sem,reduceLT,reduceEqDiff]
   refine hK _ _ rfl ?_
   simp only [mwb,reduceAdd,reduceEqDiff]
   refine ex_cond rfl ?_
   refine ex_region_w tt_ok 49 [0,0,2,2] [] rfl rfl fun K hK => ?_
   simp only [ltb,go_sem]
   refine hK _ _ rfl ?_
   simp only [mwb,reduceAdd,reduceEqDiff]
   exact ex_ret ⟨.inl rfl, _, ⟨_, _, rfl⟩, rfl⟩
 ·refine runX_cut 8 fun K1 hK1 => ?_
  simp only [ltb,go_sem,reduceLT,reduceEqDiff]
  refine hK1 _ ?_
  simp only [ltb,go_sem,reduceLT,reduceEqDiff]
  refine hK _ _ rfl ?_
  simp only [mwb,reduceAdd,reduceEqDiff]
  refine ex_cond rfl ?_
  refine ex_region_w tt_ok 49 [0,0,2,2] [] rfl rfl fun K hK => ?_
  simp only [ltb,go_sem]
  refine hK _ _ rfl ?_
  simp only [mwb,reduceAdd,reduceEqDiff]
  exact ex_ret ⟨.inl rfl, _, ⟨_, _, rfl⟩, rfl⟩
theorem isPath_tot (hG : Glob.g = some 0) (s : ByteArray) (hs : s.size ≤ 1048575) : ∃ r, isB r ∧ FnOk Tryz.prog 111 [str s] r := by
 refine fn_ex tt_ok (fn := Tryz.f111) Tryz.func111 rfl Tryz.call111 ?_
 simp only [ltb,startSt,Tryz.ntmps111,List.length_cons,List.length_nil,reduceAdd,reduceSub,List.replicate_succ,List.replicate_zero]
 refine ex_region_w tt_ok 12 [0,0,2] [] rfl rfl fun K hK => ?_
 simp only [ltb,go_sem]
 refine hK _ _ rfl ?_
 simp only [mwb,reduceAdd]
 refine ex_region_w tt_ok 12 [0,0,0,1,2,1,1,1,1,1] [] rfl rfl fun K hK => ?_
 refine runX_cut 2 fun K1 hK1 => ?_
 simp only [ltb,go_sem,reduceLT]
 refine callF_ex (major_tot hG s hs) ?_
 rintro _ ⟨a, b0, rfl⟩
 try simp only [go_sem]
 refine hK1 _ ?_
 simp only [ltb,go_sem,reduceLT,reduceEqDiff]
 refine hK _ _ rfl ?_
 simp only [mwb,reduceAdd,reduceEqDiff]
 refine ex_region_w tt_ok 12 [0,0,2,0,0,0,0,0,0,0,1,1] [] rfl rfl fun K hK => ?_
 simp only [ltb,go_sem,reduceLT,reduceEqDiff]
 refine hK _ _ rfl ?_
 simp only [mwb,reduceAdd,reduceEqDiff]
 exact ex_ret ⟨.inl rfl, _, ⟨_, rfl⟩, rfl⟩
theorem module_tot (hG : Glob.g = some 0) (s : ByteArray) (hs : s.size ≤ 1048575) : ∃ r, isB r ∧ FnOk Tryz.prog 96 [str s] r := by
 refine fn_ex tt_ok (fn := Tryz.f96) Tryz.func96 rfl Tryz.call96 ?_
 simp only [ltb,startSt,Tryz.ntmps96,List.length_cons,List.length_nil,reduceAdd,reduceSub,List.replicate_succ,List.replicate_zero]
 refine ex_region_w tt_ok 13 [0,0,2] [] rfl rfl fun K hK => ?_
 simp only [ltb,go_sem]
 refine hK _ _ rfl ?_
 simp only [mwb,reduceAdd]
 refine ex_region_w tt_ok 13 [0,0,2,1,1,1,1,1,1,1,1,1,1] [(2, 5), (6, 9)] rfl rfl fun K hK => ?_
 refine runX_cut 3 fun K1 hK1 => ?_
 simp only [ltb,go_sem,reduceLT,reduceEqDiff]
 refine hK1 _ ?_
 refine runX_case 5 (by rfl) fun b hb1_2 => ?_
 cases b
 ·refine runX_cut 2 fun K1 hK1 => ?_
  simp only [ltb,go_sem,reduceLT,reduceEqDiff,reduceCtorEq]
  refine callF_ex (isName_tot hG s) ?_
  rintro _ ⟨r1, rfl⟩
  try simp only [go_sem]
  refine hK1 _ ?_
  refine runX_cut 2 fun K1 hK1 => ?_
  simp only [ltb,go_sem,reduceLT,reduceEqDiff]
  refine hK1 _ ?_
  refine runX_case 9 (by rfl) fun b hb1_6 => ?_
  cases b
  ·refine runX_cut 2 fun K1 hK1 => ?_
   simp only [ltb,go_sem,reduceLT,reduceEqDiff,reduceCtorEq]
   refine callF_ex (isPath_tot hG s hs) ?_
   rintro _ ⟨r2, rfl⟩
   try simp only [go_sem]
   refine hK1 _ ?_
   simp only [ltb,go_sem,reduceLT,reduceEqDiff]
   refine hK _ _ rfl ?_
   simp only [mwb,reduceAdd,reduceEqDiff]
   exact ex_ret ⟨.inl rfl, _, ⟨_, rfl⟩, rfl⟩
  ·simp only [ltb,go_sem,reduceLT,reduceEqDiff]
   refine hK _ _ rfl ?_
   simp only [mwb,reduceAdd,reduceEqDiff]
   exact ex_ret ⟨.inl rfl, _, ⟨_, rfl⟩, rfl⟩
 ·simp only [ltb,go_sem,reduceLT,reduceEqDiff]
  refine hK _ _ rfl ?_
  simp only [mwb,reduceAdd,reduceEqDiff]
  exact ex_ret ⟨.inl rfl, _, ⟨_, rfl⟩, rfl⟩
end Go.Proofs.YtpjdfcigadnhcaaGreatDoor
end

section
namespace Go.Proofs.YtpjdfcigadnhcaaGreatDoor
open Go.Eng
open Nat (reduceAdd reduceLT reduceLeDiff reduceMul reduceEqDiff reduceSub)
variable [Glob]
set_option maxHeartbeats 4000000
set_option maxRecDepth 100000
attribute [local irreducible] runM stepM valD stepOp stepD callF callS
theorem zeroExpr_tot (x : Ex) (h1 : x.types.length ≤ 1048576) (h2 : x.labels.length ≤ 1048576) (h3 : x.kids.length ≤ 1048576) : ∃ r, isB r ∧ FnOk Tryz.prog 165 [encEx x] r := by
 refine fn_ex tt_ok (fn := Tryz.f165) Tryz.func165 rfl Tryz.call165 ?_
 simp only [ltb,startSt,Tryz.ntmps165,List.length_cons,List.length_nil,reduceAdd,reduceSub,List.replicate_succ,List.replicate_zero]
 simp only [encEx_eq,exCells]
 refine ex_region_w tt_ok 40 [0,2,2] [] rfl rfl fun K hK => ?_
 simp only [ltb,go_sem,reduceLT]
 refine hK _ _ rfl ?_
 simp only [mwb,reduceAdd,reduceEqDiff]
 refine ex_region_w tt_ok 40 (0::0::2::(rp 37 1 [])) [(3, 6), (8, 11), (13, 16), (18, 21), (23, 26)] rfl rfl fun K hK => ?_
 refine runX_cut 4 fun K1 hK1 => ?_
 simp only [ltb,go_sem,reduceAdd,reduceLT,reduceLeDiff,reduceEqDiff]
 refine hK1 _ ?_
 refine runX_case 6 (by rfl) fun b hb1_3 => ?_
 cases b
 ·refine runX_cut 8 fun K1 hK1 => ?_
  simp only [ltb,go_sem,reduceLT,reduceEqDiff]
  refine hK1 _ ?_
  refine runX_cut 8 fun K1 hK1 => ?_
  simp only [ltb,go_sem,reduceLT,reduceEqDiff]
  refine hK1 _ ?_
  refine runX_cut 8 fun K1 hK1 => ?_
  simp only [ltb,go_sem,reduceLT,reduceEqDiff]
  refine hK1 _ ?_
  refine runX_cut 8 fun K1 hK1 => ?_
  simp only [ltb,go_sem,reduceLT,reduceEqDiff]
  refine hK1 _ ?_
  simp only [ltb,go_sem,reduceLT,reduceEqDiff]
  refine hK _ _ rfl ?_
  simp only [mwb,reduceAdd,reduceEqDiff]
  exact ex_ret ⟨.inl rfl, _, ⟨_, rfl⟩, rfl⟩
 ·refine runX_cut 5 fun K1 hK1 => ?_
  simp only [ltb,go_sem,reduceAdd,reduceLT,reduceLeDiff,reduceEqDiff]
  refine hK1 _ ?_
  refine runX_case 11 (by rfl) fun b hb1_8 => ?_
  cases b
  ·refine runX_cut 8 fun K1 hK1 => ?_
   simp only [ltb,go_sem,reduceLT,reduceEqDiff]
   refine hK1 _ ?_
   refine runX_cut 8 fun K1 hK1 => ?_
   simp only [ltb,go_sem,reduceLT,reduceEqDiff]
   refine hK1 _ ?_
   refine runX_cut 8 fun K1 hK1 => ?_
   simp only [ltb,go_sem,reduceLT,reduceEqDiff]
   refine hK1 _ ?_
   simp only [ltb,go_sem,reduceLT,reduceEqDiff]
   refine hK _ _ rfl ?_
   simp only [mwb,reduceAdd,reduceEqDiff]
   exact ex_ret ⟨.inl rfl, _, ⟨_, rfl⟩, rfl⟩
  ·refine runX_cut 5 fun K1 hK1 => ?_
   simp only [ltb,go_sem,reduceAdd,reduceLT,reduceLeDiff,reduceEqDiff]
   refine hK1 _ ?_
   refine runX_case 16 (by rfl) fun b hb1_13 => ?_
   cases b
   ·refine runX_cut 8 fun K1 hK1 => ?_
    simp only [ltb,go_sem,reduceLT,reduceEqDiff]
    refine hK1 _ ?_
    refine runX_cut 8 fun K1 hK1 => ?_
    simp only [ltb,go_sem,reduceLT,reduceEqDiff]
    refine hK1 _ ?_
    simp only [ltb,go_sem,reduceLT,reduceEqDiff]
    refine hK _ _ rfl ?_
    simp only [mwb,reduceAdd,reduceEqDiff]
    exact ex_ret ⟨.inl rfl, _, ⟨_, rfl⟩, rfl⟩
   ·refine runX_cut 5 fun K1 hK1 => ?_
    simp only [ltb,go_sem,reduceAdd,reduceLT,reduceLeDiff,reduceEqDiff]
    refine hK1 _ ?_
    refine runX_case 21 (by rfl) fun b hb1_18 => ?_
    cases b
    ·refine runX_cut 8 fun K1 hK1 => ?_
     simp only [ltb,go_sem,reduceLT,reduceEqDiff]
     refine hK1 _ ?_
     refine runX_cut 8 fun K1 hK1 => ?_
     simp only [ltb,go_sem,reduceLT,reduceEqDiff]
     refine hK1 _ ?_
     simp only [ltb,go_sem,reduceLT,reduceEqDiff]
     refine hK _ _ rfl ?_
     simp only [mwb,reduceAdd,reduceEqDiff]
     exact ex_ret ⟨.inl rfl, _, ⟨_, rfl⟩, rfl⟩
    ·refine runX_cut 5 fun K1 hK1 => ?_
     simp only [ltb,go_sem,reduceAdd,reduceLT,reduceLeDiff,reduceEqDiff]
     refine hK1 _ ?_
     refine runX_case 26 (by rfl) fun b hb1_23 => ?_
     cases b
     ·refine runX_cut 8 fun K1 hK1 => ?_
      simp only [ltb,go_sem,reduceLT,reduceEqDiff]
      refine hK1 _ ?_
      simp only [ltb,go_sem,reduceLT,reduceEqDiff]
      refine hK _ _ rfl ?_
      simp only [mwb,reduceAdd,reduceEqDiff]
      exact ex_ret ⟨.inl rfl, _, ⟨_, rfl⟩, rfl⟩
     ·refine runX_cut 8 fun K1 hK1 => ?_
      simp only [ltb]
      simp only [length_encTys,List.length_map,go_sem,reduceAdd,reduceLT,reduceLeDiff,reduceEqDiff]
      refine hK1 _ ?_
      try simp only [ltb]
      simp only [length_encExs,go_sem,reduceLT,reduceEqDiff]
      refine hK _ _ rfl ?_
      simp only [mwb,reduceAdd,reduceEqDiff]
      exact ex_ret ⟨.inl rfl, _, ⟨_, rfl⟩, rfl⟩
theorem declared_tot (d : Dc) (hp : d.params.length ≤ 1048576) (h1 : d.expr.types.length ≤ 1048576) (h2 : d.expr.labels.length ≤ 1048576) (h3 : d.expr.kids.length ≤ 1048576)  : ∃ r, isB r ∧ FnOk Tryz.prog 114 [encDc d] r := by
 refine fn_ex tt_ok (fn := Tryz.f114) Tryz.func114 rfl Tryz.call114 ?_
 simp only [ltb,startSt,Tryz.ntmps114,List.length_cons,List.length_nil,reduceAdd,reduceSub,List.replicate_succ,List.replicate_zero]
 simp only [ltb,encDc,tyCells,exCells]
 refine ex_region_w tt_ok 107 [0,2,2] [] rfl rfl fun K hK => ?_
 simp only [ltb,go_sem,reduceLT]
 refine hK _ _ rfl ?_
 simp only [mwb,reduceAdd,reduceEqDiff]
 refine ex_seq ?_
 refine ex_region_w tt_ok 107 (0::0::0::0::0::0::(rp 16 1 [2])) [(2, 8), (7, 13), (11, 17)] rfl rfl fun K hK => ?_
 refine runX_cut 3 fun K1 hK1 => ?_
 simp only [ltb,go_sem,reduceAdd,reduceLT,reduceLeDiff,reduceEqDiff]
 refine hK1 _ ?_
 refine runX_case 8 (by rfl) fun b hb1_2 => ?_
 cases b
 ·refine runX_cut 8 fun K1 hK1 => ?_
  simp only [ltb,go_sem,reduceAdd,reduceLT,reduceLeDiff,reduceEqDiff]
  refine hK1 _ ?_
  refine runX_cut 1 fun K1 hK1 => ?_
  simp only [ltb,go_sem,reduceLT,reduceEqDiff]
  refine hK1 _ ?_
  refine runX_case 17 (by rfl) fun b hb1_11 => ?_
  cases b
  ·simp only [ltb,go_sem,reduceLT,reduceEqDiff]
   refine hK _ _ rfl ?_
   simp only [mwb,reduceAdd,reduceEqDiff]
   refine ex_cond rfl ?_
   refine ex_skip ?_
   show Go.Eng.Ex _ _ _ _ _ _
   refine ex_region_w tt_ok 107 (0::0::0::2::(rp 19 0 [1,1,1])) [] rfl rfl fun K hK => ?_
   refine runX_cut 3 fun K1 hK1 => ?_
   simp only [ltb,go_sem,reduceAdd,reduceLT,reduceLeDiff,reduceEqDiff]
   refine callF_ex (containsPm_tot 163 d.params pm1_tot hp) ?_
   rintro _ ⟨r1, rfl⟩
   try simp only [go_sem]
   refine hK1 _ ?_
   simp only [ltb,go_sem,reduceLT,reduceEqDiff]
   refine hK _ _ rfl ?_
   simp only [mwb,reduceAdd,reduceEqDiff]
   refine ex_seq ?_
   refine ex_region_w tt_ok 107 (rp 26 0 [1,2]) [] rfl rfl fun K hK => ?_
   simp only [ltb,go_sem,reduceAdd,reduceLT,reduceLeDiff]
   refine hK _ _ rfl ?_
   simp only [mwb,reduceAdd,reduceEqDiff]
   refine ex_block ?_
   refine ex_region_w tt_ok 107 (rp 28 0 [2,1]) [] rfl rfl fun K hK => ?_
   simp only [ltb,go_sem,reduceLT]
   refine hK _ _ rfl ?_
   simp only [mwb,reduceAdd,reduceEqDiff]
   refine ex_if rfl (fun hc28 => ?_) (fun hc28 => ?_)
   ·refine ex_region_w tt_ok 107 (0::0::0::0::2::(rp 25 0 [1,1,1])) [] rfl rfl fun K hK => ?_
    refine runX_cut 3 fun K1 hK1 => ?_
    simp only [ltb,go_sem,reduceAdd,reduceLT,reduceLeDiff,reduceEqDiff]
    refine callF_ex (containsPm_tot 164 d.params pm2_tot hp) ?_
    rintro _ ⟨r2, rfl⟩
    try simp only [go_sem]
    refine hK1 _ ?_
    simp only [ltb,go_sem,reduceLT,reduceEqDiff]
    refine hK _ _ rfl ?_
    simp only [mwb,reduceAdd,reduceEqDiff]
    refine ex_region_w tt_ok 107 (0::0::2::(rp 30 0 (rp 21 1 []))) [(2, 35), (6, 39), (11, 44), (16, 49)] rfl rfl fun K hK => ?_
    refine runX_cut 3 fun K1 hK1 => ?_
    simp only [ltb,go_sem,reduceLT,reduceEqDiff]
    refine hK1 _ ?_
    refine runX_case 35 (by rfl) fun b hb7_2 => ?_
    cases b
    ·refine runX_cut 8 fun K1 hK1 => ?_
     simp only [ltb,go_sem,reduceLT,reduceEqDiff]
     refine hK1 _ ?_
     refine runX_cut 8 fun K1 hK1 => ?_
     simp only [ltb,go_sem,reduceLT,reduceEqDiff]
     refine hK1 _ ?_
     simp only [ltb,go_sem,reduceLT,reduceEqDiff]
     refine hK _ _ rfl ?_
     simp only [mwb,reduceAdd,reduceEqDiff]
     exact ex_ret ⟨.inl rfl, _, ⟨_, rfl⟩, rfl⟩
    ·refine runX_cut 4 fun K1 hK1 => ?_
     simp only [ltb,go_sem,reduceLT,reduceEqDiff]
     refine hK1 _ ?_
     refine runX_case 39 (by rfl) fun b hb7_6 => ?_
     cases b
     ·refine runX_cut 8 fun K1 hK1 => ?_
      simp only [ltb,go_sem,reduceLT,reduceEqDiff]
      refine hK1 _ ?_
      simp only [ltb,go_sem,reduceLT,reduceEqDiff]
      refine hK _ _ rfl ?_
      simp only [mwb,reduceAdd,reduceEqDiff]
      exact ex_ret ⟨.inl rfl, _, ⟨_, rfl⟩, rfl⟩
     ·refine runX_cut 3 fun K1 hK1 => ?_
      simp only [ltb,go_sem,reduceAdd,reduceLT,reduceLeDiff,reduceEqDiff]
      refine callF_ex (by have h := zeroExpr_tot d.expr (by omega) (by omega) (by omega); rw [encEx_eq] at h; simp only [exCells] at h; exact h) ?_
      rintro _ ⟨r3, rfl⟩
      try simp only [go_sem]
      refine hK1 _ ?_
      refine runX_cut 2 fun K1 hK1 => ?_
      simp only [ltb,go_sem,reduceLT,reduceEqDiff]
      refine hK1 _ ?_
      refine runX_case 44 (by rfl) fun b hb7_11 => ?_
      cases b
      ·refine runX_cut 8 fun K1 hK1 => ?_
       simp only [ltb,go_sem,reduceLT,reduceEqDiff]
       refine hK1 _ ?_
       simp only [ltb,go_sem,reduceLT,reduceEqDiff]
       refine hK _ _ rfl ?_
       simp only [mwb,reduceAdd,reduceEqDiff]
       exact ex_ret ⟨.inl rfl, _, ⟨_, rfl⟩, rfl⟩
      ·refine runX_cut 5 fun K1 hK1 => ?_
       simp only [ltb,go_sem,reduceAdd,reduceLT,reduceLeDiff,reduceEqDiff]
       refine hK1 _ ?_
       refine runX_case 49 (by rfl) fun b hb7_16 => ?_
       cases b
       ·simp only [ltb,go_sem,reduceLT,reduceEqDiff]
        refine hK _ _ rfl ?_
        simp only [mwb,reduceAdd,reduceEqDiff]
        exact ex_ret ⟨.inl rfl, _, ⟨_, rfl⟩, rfl⟩
       ·simp only [ltb,go_sem,reduceLT,reduceEqDiff]
        refine hK _ _ rfl ?_
        simp only [mwb,reduceAdd,reduceEqDiff]
        exact ex_ret ⟨.inl rfl, _, ⟨_, rfl⟩, rfl⟩
   ·refine ex_region_w tt_ok 107 (rp 54 0 [2,1]) [] rfl rfl fun K hK => ?_
    simp only [ltb,go_sem,reduceLT]
    refine hK _ _ rfl ?_
    simp only [mwb,reduceAdd,reduceEqDiff]
    refine ex_if rfl (fun hc54 => ?_) (fun hc54 => ?_)
    ·refine ex_region_w tt_ok 107 (0::0::0::0::0::2::(rp 50 0 [1,1,1])) [] rfl rfl fun K hK => ?_
     refine runX_cut 3 fun K1 hK1 => ?_
     simp only [ltb,go_sem,reduceAdd,reduceLT,reduceLeDiff,reduceEqDiff]
     refine callF_ex (containsPm_tot 166 d.params pm3_tot hp) ?_
     rintro _ ⟨r4, rfl⟩
     try simp only [go_sem]
     refine hK1 _ ?_
     simp only [ltb,go_sem,reduceLT,reduceEqDiff]
     refine hK _ _ rfl ?_
     simp only [mwb,reduceAdd,reduceEqDiff]
     refine ex_region_w tt_ok 107 (0::0::2::(rp 56 0 (rp 22 1 []))) [(2, 61), (7, 66), (12, 71), (17, 76)] rfl rfl fun K hK => ?_
     refine runX_cut 3 fun K1 hK1 => ?_
     simp only [ltb,go_sem,reduceLT,reduceEqDiff]
     refine hK1 _ ?_
     refine runX_case 61 (by rfl) fun b hb10_2 => ?_
     cases b
     ·refine runX_cut 8 fun K1 hK1 => ?_
      simp only [ltb,go_sem,reduceLT,reduceEqDiff]
      refine hK1 _ ?_
      refine runX_cut 8 fun K1 hK1 => ?_
      simp only [ltb,go_sem,reduceLT,reduceEqDiff]
      refine hK1 _ ?_
      simp only [ltb,go_sem,reduceLT,reduceEqDiff]
      refine hK _ _ rfl ?_
      simp only [mwb,reduceAdd,reduceEqDiff]
      exact ex_ret ⟨.inl rfl, _, ⟨_, rfl⟩, rfl⟩
     ·refine runX_cut 3 fun K1 hK1 => ?_
      simp only [ltb,go_sem,reduceAdd,reduceLT,reduceLeDiff,reduceEqDiff]
      refine callF_ex (by have h := zeroType_tot d.lower; rw [encTy_eq] at h; exact h) ?_
      rintro _ ⟨r5, rfl⟩
      try simp only [go_sem]
      refine hK1 _ ?_
      refine runX_cut 2 fun K1 hK1 => ?_
      simp only [ltb,go_sem,reduceLT,reduceEqDiff]
      refine hK1 _ ?_
      refine runX_case 66 (by rfl) fun b hb10_7 => ?_
      cases b
      ·refine runX_cut 8 fun K1 hK1 => ?_
       simp only [ltb,go_sem,reduceLT,reduceEqDiff]
       refine hK1 _ ?_
       simp only [ltb,go_sem,reduceLT,reduceEqDiff]
       refine hK _ _ rfl ?_
       simp only [mwb,reduceAdd,reduceEqDiff]
       exact ex_ret ⟨.inl rfl, _, ⟨_, rfl⟩, rfl⟩
      ·refine runX_cut 3 fun K1 hK1 => ?_
       simp only [ltb,go_sem,reduceAdd,reduceLT,reduceLeDiff,reduceEqDiff]
       refine callF_ex (by have h := zeroType_tot d.upper; rw [encTy_eq] at h; exact h) ?_
       rintro _ ⟨r6, rfl⟩
       try simp only [go_sem]
       refine hK1 _ ?_
       refine runX_cut 2 fun K1 hK1 => ?_
       simp only [ltb,go_sem,reduceLT,reduceEqDiff]
       refine hK1 _ ?_
       refine runX_case 71 (by rfl) fun b hb10_12 => ?_
       cases b
       ·refine runX_cut 8 fun K1 hK1 => ?_
        simp only [ltb,go_sem,reduceLT,reduceEqDiff]
        refine hK1 _ ?_
        simp only [ltb,go_sem,reduceLT,reduceEqDiff]
        refine hK _ _ rfl ?_
        simp only [mwb,reduceAdd,reduceEqDiff]
        exact ex_ret ⟨.inl rfl, _, ⟨_, rfl⟩, rfl⟩
       ·refine runX_cut 5 fun K1 hK1 => ?_
        simp only [ltb,go_sem,reduceAdd,reduceLT,reduceLeDiff,reduceEqDiff]
        refine hK1 _ ?_
        refine runX_case 76 (by rfl) fun b hb10_17 => ?_
        cases b
        ·simp only [ltb,go_sem,reduceLT,reduceEqDiff]
         refine hK _ _ rfl ?_
         simp only [mwb,reduceAdd,reduceEqDiff]
         exact ex_ret ⟨.inl rfl, _, ⟨_, rfl⟩, rfl⟩
        ·simp only [ltb,go_sem,reduceLT,reduceEqDiff]
         refine hK _ _ rfl ?_
         simp only [mwb,reduceAdd,reduceEqDiff]
         exact ex_ret ⟨.inl rfl, _, ⟨_, rfl⟩, rfl⟩
    ·refine ex_region_w tt_ok 107 (rp 81 0 [2,1]) [] rfl rfl fun K hK => ?_
     simp only [ltb,go_sem,reduceLT]
     refine hK _ _ rfl ?_
     simp only [mwb,reduceAdd,reduceEqDiff]
     refine ex_if rfl (fun hc81 => ?_) (fun hc81 => ?_)
     ·refine ex_region_w tt_ok 107 (0::0::2::(rp 80 0 (rp 24 1 []))) [(4, 87), (9, 92), (14, 97), (19, 102)] rfl rfl fun K hK => ?_
      refine runX_cut 5 fun K1 hK1 => ?_
      simp only [ltb]
      simp only [List.length_map,go_sem,reduceAdd,reduceLT,reduceLeDiff,reduceEqDiff]
      refine hK1 _ ?_
      refine runX_case 87 (by rfl) fun b hb12_4 => ?_
      cases b
      ·refine runX_cut 8 fun K1 hK1 => ?_
       simp only [ltb,go_sem,reduceLT,reduceEqDiff]
       refine hK1 _ ?_
       refine runX_cut 8 fun K1 hK1 => ?_
       simp only [ltb,go_sem,reduceLT,reduceEqDiff]
       refine hK1 _ ?_
       simp only [ltb,go_sem,reduceLT,reduceEqDiff]
       refine hK _ _ rfl ?_
       simp only [mwb,reduceAdd,reduceEqDiff]
       exact ex_ret ⟨.inl rfl, _, ⟨_, rfl⟩, rfl⟩
      ·refine runX_cut 3 fun K1 hK1 => ?_
       simp only [ltb,go_sem,reduceAdd,reduceLT,reduceLeDiff,reduceEqDiff]
       refine callF_ex (by have h := zeroType_tot d.lower; rw [encTy_eq] at h; exact h) ?_
       rintro _ ⟨r7, rfl⟩
       try simp only [go_sem]
       refine hK1 _ ?_
       refine runX_cut 2 fun K1 hK1 => ?_
       simp only [ltb,go_sem,reduceLT,reduceEqDiff]
       refine hK1 _ ?_
       refine runX_case 92 (by rfl) fun b hb12_9 => ?_
       cases b
       ·refine runX_cut 8 fun K1 hK1 => ?_
        simp only [ltb,go_sem,reduceLT,reduceEqDiff]
        refine hK1 _ ?_
        simp only [ltb,go_sem,reduceLT,reduceEqDiff]
        refine hK _ _ rfl ?_
        simp only [mwb,reduceAdd,reduceEqDiff]
        exact ex_ret ⟨.inl rfl, _, ⟨_, rfl⟩, rfl⟩
       ·refine runX_cut 3 fun K1 hK1 => ?_
        simp only [ltb,go_sem,reduceAdd,reduceLT,reduceLeDiff,reduceEqDiff]
        refine callF_ex (by have h := zeroType_tot d.upper; rw [encTy_eq] at h; exact h) ?_
        rintro _ ⟨r8, rfl⟩
        try simp only [go_sem]
        refine hK1 _ ?_
        refine runX_cut 2 fun K1 hK1 => ?_
        simp only [ltb,go_sem,reduceLT,reduceEqDiff]
        refine hK1 _ ?_
        refine runX_case 97 (by rfl) fun b hb12_14 => ?_
        cases b
        ·refine runX_cut 8 fun K1 hK1 => ?_
         simp only [ltb,go_sem,reduceLT,reduceEqDiff]
         refine hK1 _ ?_
         simp only [ltb,go_sem,reduceLT,reduceEqDiff]
         refine hK _ _ rfl ?_
         simp only [mwb,reduceAdd,reduceEqDiff]
         exact ex_ret ⟨.inl rfl, _, ⟨_, rfl⟩, rfl⟩
        ·refine runX_cut 3 fun K1 hK1 => ?_
         simp only [ltb,go_sem,reduceAdd,reduceLT,reduceLeDiff,reduceEqDiff]
         refine callF_ex (by have h := zeroType_tot d.type; rw [encTy_eq] at h; exact h) ?_
         rintro _ ⟨r9, rfl⟩
         try simp only [go_sem]
         refine hK1 _ ?_
         refine runX_cut 2 fun K1 hK1 => ?_
         simp only [ltb,go_sem,reduceLT,reduceEqDiff]
         refine hK1 _ ?_
         refine runX_case 102 (by rfl) fun b hb12_19 => ?_
         cases b
         ·simp only [ltb,go_sem,reduceLT,reduceEqDiff]
          refine hK _ _ rfl ?_
          simp only [mwb,reduceAdd,reduceEqDiff]
          exact ex_ret ⟨.inl rfl, _, ⟨_, rfl⟩, rfl⟩
         ·refine runX_cut 3 fun K1 hK1 => ?_
          simp only [ltb,go_sem,reduceAdd,reduceLT,reduceLeDiff,reduceEqDiff]
          refine callF_ex (by have h := zeroExpr_tot d.expr (by omega) (by omega) (by omega); rw [encEx_eq] at h; simp only [exCells] at h; exact h) ?_
          rintro _ ⟨r10, rfl⟩
          try simp only [go_sem]
          refine hK1 _ ?_
          simp only [ltb,go_sem,reduceLT,reduceEqDiff]
          refine hK _ _ rfl ?_
          simp only [mwb,reduceAdd,reduceEqDiff]
          exact ex_ret ⟨.inl rfl, _, ⟨_, rfl⟩, rfl⟩
     ·refine ex_skip ?_
      show Go.Eng.Ex _ _ _ _ _ _
      refine ex_region_w tt_ok 107 [0,0,2] [] rfl rfl fun K hK => ?_
      simp only [ltb,go_sem]
      refine hK _ _ rfl ?_
      simp only [mwb,reduceAdd]
      exact ex_ret ⟨.inl rfl, _, ⟨_, rfl⟩, rfl⟩
  ·simp only [ltb,go_sem,reduceAdd,reduceLT,reduceLeDiff,reduceEqDiff]
   refine hK _ _ rfl ?_
   simp only [mwb,reduceAdd,reduceEqDiff]
   refine ex_if rfl (fun hc22 => ?_) (fun hc22 => ?_)
   ·refine ex_region_w tt_ok 107 [0,0,2] [] rfl rfl fun K hK => ?_
    simp only [ltb,go_sem]
    refine hK _ _ rfl ?_
    simp only [mwb,reduceAdd]
    exact ex_ret ⟨.inl rfl, _, ⟨_, rfl⟩, rfl⟩
   ·refine ex_skip ?_
    show Go.Eng.Ex _ _ _ _ _ _
    refine ex_region_w tt_ok 107 (0::0::0::2::(rp 19 0 [1,1,1])) [] rfl rfl fun K hK => ?_
    refine runX_cut 3 fun K1 hK1 => ?_
    simp only [ltb,go_sem,reduceAdd,reduceLT,reduceLeDiff,reduceEqDiff]
    refine callF_ex (containsPm_tot 163 d.params pm1_tot hp) ?_
    rintro _ ⟨r11, rfl⟩
    try simp only [go_sem]
    refine hK1 _ ?_
    simp only [ltb,go_sem,reduceLT,reduceEqDiff]
    refine hK _ _ rfl ?_
    simp only [mwb,reduceAdd,reduceEqDiff]
    refine ex_seq ?_
    refine ex_region_w tt_ok 107 (rp 26 0 [1,2]) [] rfl rfl fun K hK => ?_
    simp only [ltb,go_sem,reduceAdd,reduceLT,reduceLeDiff]
    refine hK _ _ rfl ?_
    simp only [mwb,reduceAdd,reduceEqDiff]
    refine ex_block ?_
    refine ex_region_w tt_ok 107 (rp 28 0 [2,1]) [] rfl rfl fun K hK => ?_
    simp only [ltb,go_sem,reduceLT]
    refine hK _ _ rfl ?_
    simp only [mwb,reduceAdd,reduceEqDiff]
    refine ex_if rfl (fun hc28 => ?_) (fun hc28 => ?_)
    ·refine ex_region_w tt_ok 107 (0::0::0::0::2::(rp 25 0 [1,1,1])) [] rfl rfl fun K hK => ?_
     refine runX_cut 3 fun K1 hK1 => ?_
     simp only [ltb,go_sem,reduceAdd,reduceLT,reduceLeDiff,reduceEqDiff]
     refine callF_ex (containsPm_tot 164 d.params pm2_tot hp) ?_
     rintro _ ⟨r12, rfl⟩
     try simp only [go_sem]
     refine hK1 _ ?_
     simp only [ltb,go_sem,reduceLT,reduceEqDiff]
     refine hK _ _ rfl ?_
     simp only [mwb,reduceAdd,reduceEqDiff]
     refine ex_region_w tt_ok 107 (0::0::2::(rp 30 0 (rp 21 1 []))) [(2, 35), (6, 39), (11, 44), (16, 49)] rfl rfl fun K hK => ?_
     refine runX_cut 3 fun K1 hK1 => ?_
     simp only [ltb,go_sem,reduceLT,reduceEqDiff]
     refine hK1 _ ?_
     refine runX_case 35 (by rfl) fun b hb7_2 => ?_
     cases b
     ·refine runX_cut 8 fun K1 hK1 => ?_
      simp only [ltb,go_sem,reduceLT,reduceEqDiff]
      refine hK1 _ ?_
      refine runX_cut 8 fun K1 hK1 => ?_
      simp only [ltb,go_sem,reduceLT,reduceEqDiff]
      refine hK1 _ ?_
      simp only [ltb,go_sem,reduceLT,reduceEqDiff]
      refine hK _ _ rfl ?_
      simp only [mwb,reduceAdd,reduceEqDiff]
      exact ex_ret ⟨.inl rfl, _, ⟨_, rfl⟩, rfl⟩
     ·refine runX_cut 4 fun K1 hK1 => ?_
      simp only [ltb,go_sem,reduceLT,reduceEqDiff]
      refine hK1 _ ?_
      refine runX_case 39 (by rfl) fun b hb7_6 => ?_
      cases b
      ·refine runX_cut 8 fun K1 hK1 => ?_
       simp only [ltb,go_sem,reduceLT,reduceEqDiff]
       refine hK1 _ ?_
       simp only [ltb,go_sem,reduceLT,reduceEqDiff]
       refine hK _ _ rfl ?_
       simp only [mwb,reduceAdd,reduceEqDiff]
       exact ex_ret ⟨.inl rfl, _, ⟨_, rfl⟩, rfl⟩
      ·refine runX_cut 3 fun K1 hK1 => ?_
       simp only [ltb,go_sem,reduceAdd,reduceLT,reduceLeDiff,reduceEqDiff]
       refine callF_ex (by have h := zeroExpr_tot d.expr (by omega) (by omega) (by omega); rw [encEx_eq] at h; simp only [exCells] at h; exact h) ?_
       rintro _ ⟨r13, rfl⟩
       try simp only [go_sem]
       refine hK1 _ ?_
       refine runX_cut 2 fun K1 hK1 => ?_
       simp only [ltb,go_sem,reduceLT,reduceEqDiff]
       refine hK1 _ ?_
       refine runX_case 44 (by rfl) fun b hb7_11 => ?_
       cases b
       ·refine runX_cut 8 fun K1 hK1 => ?_
        simp only [ltb,go_sem,reduceLT,reduceEqDiff]
        refine hK1 _ ?_
        simp only [ltb,go_sem,reduceLT,reduceEqDiff]
        refine hK _ _ rfl ?_
        simp only [mwb,reduceAdd,reduceEqDiff]
        exact ex_ret ⟨.inl rfl, _, ⟨_, rfl⟩, rfl⟩
       ·refine runX_cut 5 fun K1 hK1 => ?_
        simp only [ltb,go_sem,reduceAdd,reduceLT,reduceLeDiff,reduceEqDiff]
        refine hK1 _ ?_
        refine runX_case 49 (by rfl) fun b hb7_16 => ?_
        cases b
        ·simp only [ltb,go_sem,reduceLT,reduceEqDiff]
         refine hK _ _ rfl ?_
         simp only [mwb,reduceAdd,reduceEqDiff]
         exact ex_ret ⟨.inl rfl, _, ⟨_, rfl⟩, rfl⟩
        ·simp only [ltb,go_sem,reduceLT,reduceEqDiff]
         refine hK _ _ rfl ?_
         simp only [mwb,reduceAdd,reduceEqDiff]
         exact ex_ret ⟨.inl rfl, _, ⟨_, rfl⟩, rfl⟩
    ·refine ex_region_w tt_ok 107 (rp 54 0 [2,1]) [] rfl rfl fun K hK => ?_
     simp only [ltb,go_sem,reduceLT]
     refine hK _ _ rfl ?_
     simp only [mwb,reduceAdd,reduceEqDiff]
     refine ex_if rfl (fun hc54 => ?_) (fun hc54 => ?_)
     ·refine ex_region_w tt_ok 107 (0::0::0::0::0::2::(rp 50 0 [1,1,1])) [] rfl rfl fun K hK => ?_
      refine runX_cut 3 fun K1 hK1 => ?_
      simp only [ltb,go_sem,reduceAdd,reduceLT,reduceLeDiff,reduceEqDiff]
      refine callF_ex (containsPm_tot 166 d.params pm3_tot hp) ?_
      rintro _ ⟨r14, rfl⟩
      try simp only [go_sem]
      refine hK1 _ ?_
      simp only [ltb,go_sem,reduceLT,reduceEqDiff]
      refine hK _ _ rfl ?_
      simp only [mwb,reduceAdd,reduceEqDiff]
      refine ex_region_w tt_ok 107 (0::0::2::(rp 56 0 (rp 22 1 []))) [(2, 61), (7, 66), (12, 71), (17, 76)] rfl rfl fun K hK => ?_
      refine runX_cut 3 fun K1 hK1 => ?_
      simp only [ltb,go_sem,reduceLT,reduceEqDiff]
      refine hK1 _ ?_
      refine runX_case 61 (by rfl) fun b hb10_2 => ?_
      cases b
      ·refine runX_cut 8 fun K1 hK1 => ?_
       simp only [ltb,go_sem,reduceLT,reduceEqDiff]
       refine hK1 _ ?_
       refine runX_cut 8 fun K1 hK1 => ?_
       simp only [ltb,go_sem,reduceLT,reduceEqDiff]
       refine hK1 _ ?_
       simp only [ltb,go_sem,reduceLT,reduceEqDiff]
       refine hK _ _ rfl ?_
       simp only [mwb,reduceAdd,reduceEqDiff]
       exact ex_ret ⟨.inl rfl, _, ⟨_, rfl⟩, rfl⟩
      ·refine runX_cut 3 fun K1 hK1 => ?_
       simp only [ltb,go_sem,reduceAdd,reduceLT,reduceLeDiff,reduceEqDiff]
       refine callF_ex (by have h := zeroType_tot d.lower; rw [encTy_eq] at h; exact h) ?_
       rintro _ ⟨r15, rfl⟩
       try simp only [go_sem]
       refine hK1 _ ?_
       refine runX_cut 2 fun K1 hK1 => ?_
       simp only [ltb,go_sem,reduceLT,reduceEqDiff]
       refine hK1 _ ?_
       refine runX_case 66 (by rfl) fun b hb10_7 => ?_
       cases b
       ·refine runX_cut 8 fun K1 hK1 => ?_
        simp only [ltb,go_sem,reduceLT,reduceEqDiff]
        refine hK1 _ ?_
        simp only [ltb,go_sem,reduceLT,reduceEqDiff]
        refine hK _ _ rfl ?_
        simp only [mwb,reduceAdd,reduceEqDiff]
        exact ex_ret ⟨.inl rfl, _, ⟨_, rfl⟩, rfl⟩
       ·refine runX_cut 3 fun K1 hK1 => ?_
        simp only [ltb,go_sem,reduceAdd,reduceLT,reduceLeDiff,reduceEqDiff]
        refine callF_ex (by have h := zeroType_tot d.upper; rw [encTy_eq] at h; exact h) ?_
        rintro _ ⟨r16, rfl⟩
        try simp only [go_sem]
        refine hK1 _ ?_
        refine runX_cut 2 fun K1 hK1 => ?_
        simp only [ltb,go_sem,reduceLT,reduceEqDiff]
        refine hK1 _ ?_
        refine runX_case 71 (by rfl) fun b hb10_12 => ?_
        cases b
        ·refine runX_cut 8 fun K1 hK1 => ?_
         simp only [ltb,go_sem,reduceLT,reduceEqDiff]
         refine hK1 _ ?_
         simp only [ltb,go_sem,reduceLT,reduceEqDiff]
         refine hK _ _ rfl ?_
         simp only [mwb,reduceAdd,reduceEqDiff]
         exact ex_ret ⟨.inl rfl, _, ⟨_, rfl⟩, rfl⟩
        ·refine runX_cut 5 fun K1 hK1 => ?_
         simp only [ltb,go_sem,reduceAdd,reduceLT,reduceLeDiff,reduceEqDiff]
         refine hK1 _ ?_
         refine runX_case 76 (by rfl) fun b hb10_17 => ?_
         cases b
         ·simp only [ltb,go_sem,reduceLT,reduceEqDiff]
          refine hK _ _ rfl ?_
          simp only [mwb,reduceAdd,reduceEqDiff]
          exact ex_ret ⟨.inl rfl, _, ⟨_, rfl⟩, rfl⟩
         ·simp only [ltb,go_sem,reduceLT,reduceEqDiff]
          refine hK _ _ rfl ?_
          simp only [mwb,reduceAdd,reduceEqDiff]
          exact ex_ret ⟨.inl rfl, _, ⟨_, rfl⟩, rfl⟩
     ·refine ex_region_w tt_ok 107 (rp 81 0 [2,1]) [] rfl rfl fun K hK => ?_
      simp only [ltb,go_sem,reduceLT]
      refine hK _ _ rfl ?_
      simp only [mwb,reduceAdd,reduceEqDiff]
      refine ex_if rfl (fun hc81 => ?_) (fun hc81 => ?_)
      ·refine ex_region_w tt_ok 107 (0::0::2::(rp 80 0 (rp 24 1 []))) [(4, 87), (9, 92), (14, 97), (19, 102)] rfl rfl fun K hK => ?_
       refine runX_cut 5 fun K1 hK1 => ?_
       simp only [ltb]
       simp only [List.length_map,go_sem,reduceAdd,reduceLT,reduceLeDiff,reduceEqDiff]
       refine hK1 _ ?_
       refine runX_case 87 (by rfl) fun b hb12_4 => ?_
       cases b
       ·refine runX_cut 8 fun K1 hK1 => ?_
        simp only [ltb,go_sem,reduceLT,reduceEqDiff]
        refine hK1 _ ?_
        refine runX_cut 8 fun K1 hK1 => ?_
        simp only [ltb,go_sem,reduceLT,reduceEqDiff]
        refine hK1 _ ?_
        simp only [ltb,go_sem,reduceLT,reduceEqDiff]
        refine hK _ _ rfl ?_
        simp only [mwb,reduceAdd,reduceEqDiff]
        exact ex_ret ⟨.inl rfl, _, ⟨_, rfl⟩, rfl⟩
       ·refine runX_cut 3 fun K1 hK1 => ?_
        simp only [ltb,go_sem,reduceAdd,reduceLT,reduceLeDiff,reduceEqDiff]
        refine callF_ex (by have h := zeroType_tot d.lower; rw [encTy_eq] at h; exact h) ?_
        rintro _ ⟨r17, rfl⟩
        try simp only [go_sem]
        refine hK1 _ ?_
        refine runX_cut 2 fun K1 hK1 => ?_
        simp only [ltb,go_sem,reduceLT,reduceEqDiff]
        refine hK1 _ ?_
        refine runX_case 92 (by rfl) fun b hb12_9 => ?_
        cases b
        ·refine runX_cut 8 fun K1 hK1 => ?_
         simp only [ltb,go_sem,reduceLT,reduceEqDiff]
         refine hK1 _ ?_
         simp only [ltb,go_sem,reduceLT,reduceEqDiff]
         refine hK _ _ rfl ?_
         simp only [mwb,reduceAdd,reduceEqDiff]
         exact ex_ret ⟨.inl rfl, _, ⟨_, rfl⟩, rfl⟩
        ·refine runX_cut 3 fun K1 hK1 => ?_
         simp only [ltb,go_sem,reduceAdd,reduceLT,reduceLeDiff,reduceEqDiff]
         refine callF_ex (by have h := zeroType_tot d.upper; rw [encTy_eq] at h; exact h) ?_
         rintro _ ⟨r18, rfl⟩
         try simp only [go_sem]
         refine hK1 _ ?_
         refine runX_cut 2 fun K1 hK1 => ?_
         simp only [ltb,go_sem,reduceLT,reduceEqDiff]
         refine hK1 _ ?_
         refine runX_case 97 (by rfl) fun b hb12_14 => ?_
         cases b
         ·refine runX_cut 8 fun K1 hK1 => ?_
          simp only [ltb,go_sem,reduceLT,reduceEqDiff]
          refine hK1 _ ?_
          simp only [ltb,go_sem,reduceLT,reduceEqDiff]
          refine hK _ _ rfl ?_
          simp only [mwb,reduceAdd,reduceEqDiff]
          exact ex_ret ⟨.inl rfl, _, ⟨_, rfl⟩, rfl⟩
         ·refine runX_cut 3 fun K1 hK1 => ?_
          simp only [ltb,go_sem,reduceAdd,reduceLT,reduceLeDiff,reduceEqDiff]
          refine callF_ex (by have h := zeroType_tot d.type; rw [encTy_eq] at h; exact h) ?_
          rintro _ ⟨r19, rfl⟩
          try simp only [go_sem]
          refine hK1 _ ?_
          refine runX_cut 2 fun K1 hK1 => ?_
          simp only [ltb,go_sem,reduceLT,reduceEqDiff]
          refine hK1 _ ?_
          refine runX_case 102 (by rfl) fun b hb12_19 => ?_
          cases b
          ·simp only [ltb,go_sem,reduceLT,reduceEqDiff]
           refine hK _ _ rfl ?_
           simp only [mwb,reduceAdd,reduceEqDiff]
           exact ex_ret ⟨.inl rfl, _, ⟨_, rfl⟩, rfl⟩
          ·refine runX_cut 3 fun K1 hK1 => ?_
           simp only [ltb,go_sem,reduceAdd,reduceLT,reduceLeDiff,reduceEqDiff]
           refine callF_ex (by have h := zeroExpr_tot d.expr (by omega) (by omega) (by omega); rw [encEx_eq] at h; simp only [exCells] at h; exact h) ?_
           rintro _ ⟨r20, rfl⟩
           try simp only [go_sem]
           refine hK1 _ ?_
           simp only [ltb,go_sem,reduceLT,reduceEqDiff]
           refine hK _ _ rfl ?_
           simp only [mwb,reduceAdd,reduceEqDiff]
           exact ex_ret ⟨.inl rfl, _, ⟨_, rfl⟩, rfl⟩
      ·refine ex_skip ?_
       show Go.Eng.Ex _ _ _ _ _ _
       refine ex_region_w tt_ok 107 [0,0,2] [] rfl rfl fun K hK => ?_
       simp only [ltb,go_sem]
       refine hK _ _ rfl ?_
       simp only [mwb,reduceAdd]
       exact ex_ret ⟨.inl rfl, _, ⟨_, rfl⟩, rfl⟩
 ·refine runX_cut 5 fun K1 hK1 => ?_
  simp only [ltb,go_sem,reduceAdd,reduceLT,reduceLeDiff,reduceEqDiff]
  refine hK1 _ ?_
  refine runX_case 13 (by rfl) fun b hb1_7 => ?_
  cases b
  ·refine runX_cut 4 fun K1 hK1 => ?_
   simp only [ltb,go_sem,reduceAdd,reduceLT,reduceLeDiff,reduceEqDiff]
   refine hK1 _ ?_
   refine runX_case 17 (by rfl) fun b hb1_11 => ?_
   cases b
   ·simp only [ltb,go_sem,reduceLT,reduceEqDiff]
    refine hK _ _ rfl ?_
    simp only [mwb,reduceAdd,reduceEqDiff]
    refine ex_cond rfl ?_
    refine ex_skip ?_
    show Go.Eng.Ex _ _ _ _ _ _
    refine ex_region_w tt_ok 107 (0::0::0::2::(rp 19 0 [1,1,1])) [] rfl rfl fun K hK => ?_
    refine runX_cut 3 fun K1 hK1 => ?_
    simp only [ltb,go_sem,reduceAdd,reduceLT,reduceLeDiff,reduceEqDiff]
    refine callF_ex (containsPm_tot 163 d.params pm1_tot hp) ?_
    rintro _ ⟨r21, rfl⟩
    try simp only [go_sem]
    refine hK1 _ ?_
    simp only [ltb,go_sem,reduceLT,reduceEqDiff]
    refine hK _ _ rfl ?_
    simp only [mwb,reduceAdd,reduceEqDiff]
    refine ex_seq ?_
    refine ex_region_w tt_ok 107 (rp 26 0 [1,2]) [] rfl rfl fun K hK => ?_
    simp only [ltb,go_sem,reduceAdd,reduceLT,reduceLeDiff]
    refine hK _ _ rfl ?_
    simp only [mwb,reduceAdd,reduceEqDiff]
    refine ex_block ?_
    refine ex_region_w tt_ok 107 (rp 28 0 [2,1]) [] rfl rfl fun K hK => ?_
    simp only [ltb,go_sem,reduceLT]
    refine hK _ _ rfl ?_
    simp only [mwb,reduceAdd,reduceEqDiff]
    refine ex_if rfl (fun hc28 => ?_) (fun hc28 => ?_)
    ·refine ex_region_w tt_ok 107 (0::0::0::0::2::(rp 25 0 [1,1,1])) [] rfl rfl fun K hK => ?_
     refine runX_cut 3 fun K1 hK1 => ?_
     simp only [ltb,go_sem,reduceAdd,reduceLT,reduceLeDiff,reduceEqDiff]
     refine callF_ex (containsPm_tot 164 d.params pm2_tot hp) ?_
     rintro _ ⟨r22, rfl⟩
     try simp only [go_sem]
     refine hK1 _ ?_
     simp only [ltb,go_sem,reduceLT,reduceEqDiff]
     refine hK _ _ rfl ?_
     simp only [mwb,reduceAdd,reduceEqDiff]
     refine ex_region_w tt_ok 107 (0::0::2::(rp 30 0 (rp 21 1 []))) [(2, 35), (6, 39), (11, 44), (16, 49)] rfl rfl fun K hK => ?_
     refine runX_cut 3 fun K1 hK1 => ?_
     simp only [ltb,go_sem,reduceLT,reduceEqDiff]
     refine hK1 _ ?_
     refine runX_case 35 (by rfl) fun b hb7_2 => ?_
     cases b
     ·refine runX_cut 8 fun K1 hK1 => ?_
      simp only [ltb,go_sem,reduceLT,reduceEqDiff]
      refine hK1 _ ?_
      refine runX_cut 8 fun K1 hK1 => ?_
      simp only [ltb,go_sem,reduceLT,reduceEqDiff]
      refine hK1 _ ?_
      simp only [ltb,go_sem,reduceLT,reduceEqDiff]
      refine hK _ _ rfl ?_
      simp only [mwb,reduceAdd,reduceEqDiff]
      exact ex_ret ⟨.inl rfl, _, ⟨_, rfl⟩, rfl⟩
     ·refine runX_cut 4 fun K1 hK1 => ?_
      simp only [ltb,go_sem,reduceLT,reduceEqDiff]
      refine hK1 _ ?_
      refine runX_case 39 (by rfl) fun b hb7_6 => ?_
      cases b
      ·refine runX_cut 8 fun K1 hK1 => ?_
       simp only [ltb,go_sem,reduceLT,reduceEqDiff]
       refine hK1 _ ?_
       simp only [ltb,go_sem,reduceLT,reduceEqDiff]
       refine hK _ _ rfl ?_
       simp only [mwb,reduceAdd,reduceEqDiff]
       exact ex_ret ⟨.inl rfl, _, ⟨_, rfl⟩, rfl⟩
      ·refine runX_cut 3 fun K1 hK1 => ?_
       simp only [ltb,go_sem,reduceAdd,reduceLT,reduceLeDiff,reduceEqDiff]
       refine callF_ex (by have h := zeroExpr_tot d.expr (by omega) (by omega) (by omega); rw [encEx_eq] at h; simp only [exCells] at h; exact h) ?_
       rintro _ ⟨r23, rfl⟩
       try simp only [go_sem]
       refine hK1 _ ?_
       refine runX_cut 2 fun K1 hK1 => ?_
       simp only [ltb,go_sem,reduceLT,reduceEqDiff]
       refine hK1 _ ?_
       refine runX_case 44 (by rfl) fun b hb7_11 => ?_
       cases b
       ·refine runX_cut 8 fun K1 hK1 => ?_
        simp only [ltb,go_sem,reduceLT,reduceEqDiff]
        refine hK1 _ ?_
        simp only [ltb,go_sem,reduceLT,reduceEqDiff]
        refine hK _ _ rfl ?_
        simp only [mwb,reduceAdd,reduceEqDiff]
        exact ex_ret ⟨.inl rfl, _, ⟨_, rfl⟩, rfl⟩
       ·refine runX_cut 5 fun K1 hK1 => ?_
        simp only [ltb,go_sem,reduceAdd,reduceLT,reduceLeDiff,reduceEqDiff]
        refine hK1 _ ?_
        refine runX_case 49 (by rfl) fun b hb7_16 => ?_
        cases b
        ·simp only [ltb,go_sem,reduceLT,reduceEqDiff]
         refine hK _ _ rfl ?_
         simp only [mwb,reduceAdd,reduceEqDiff]
         exact ex_ret ⟨.inl rfl, _, ⟨_, rfl⟩, rfl⟩
        ·simp only [ltb,go_sem,reduceLT,reduceEqDiff]
         refine hK _ _ rfl ?_
         simp only [mwb,reduceAdd,reduceEqDiff]
         exact ex_ret ⟨.inl rfl, _, ⟨_, rfl⟩, rfl⟩
    ·refine ex_region_w tt_ok 107 (rp 54 0 [2,1]) [] rfl rfl fun K hK => ?_
     simp only [ltb,go_sem,reduceLT]
     refine hK _ _ rfl ?_
     simp only [mwb,reduceAdd,reduceEqDiff]
     refine ex_if rfl (fun hc54 => ?_) (fun hc54 => ?_)
     ·refine ex_region_w tt_ok 107 (0::0::0::0::0::2::(rp 50 0 [1,1,1])) [] rfl rfl fun K hK => ?_
      refine runX_cut 3 fun K1 hK1 => ?_
      simp only [ltb,go_sem,reduceAdd,reduceLT,reduceLeDiff,reduceEqDiff]
      refine callF_ex (containsPm_tot 166 d.params pm3_tot hp) ?_
      rintro _ ⟨r24, rfl⟩
      try simp only [go_sem]
      refine hK1 _ ?_
      simp only [ltb,go_sem,reduceLT,reduceEqDiff]
      refine hK _ _ rfl ?_
      simp only [mwb,reduceAdd,reduceEqDiff]
      refine ex_region_w tt_ok 107 (0::0::2::(rp 56 0 (rp 22 1 []))) [(2, 61), (7, 66), (12, 71), (17, 76)] rfl rfl fun K hK => ?_
      refine runX_cut 3 fun K1 hK1 => ?_
      simp only [ltb,go_sem,reduceLT,reduceEqDiff]
      refine hK1 _ ?_
      refine runX_case 61 (by rfl) fun b hb10_2 => ?_
      cases b
      ·refine runX_cut 8 fun K1 hK1 => ?_
       simp only [ltb,go_sem,reduceLT,reduceEqDiff]
       refine hK1 _ ?_
       refine runX_cut 8 fun K1 hK1 => ?_
       simp only [ltb,go_sem,reduceLT,reduceEqDiff]
       refine hK1 _ ?_
       simp only [ltb,go_sem,reduceLT,reduceEqDiff]
       refine hK _ _ rfl ?_
       simp only [mwb,reduceAdd,reduceEqDiff]
       exact ex_ret ⟨.inl rfl, _, ⟨_, rfl⟩, rfl⟩
      ·refine runX_cut 3 fun K1 hK1 => ?_
       simp only [ltb,go_sem,reduceAdd,reduceLT,reduceLeDiff,reduceEqDiff]
       refine callF_ex (by have h := zeroType_tot d.lower; rw [encTy_eq] at h; exact h) ?_
       rintro _ ⟨r25, rfl⟩
       try simp only [go_sem]
       refine hK1 _ ?_
       refine runX_cut 2 fun K1 hK1 => ?_
       simp only [ltb,go_sem,reduceLT,reduceEqDiff]
       refine hK1 _ ?_
       refine runX_case 66 (by rfl) fun b hb10_7 => ?_
       cases b
       ·refine runX_cut 8 fun K1 hK1 => ?_
        simp only [ltb,go_sem,reduceLT,reduceEqDiff]
        refine hK1 _ ?_
        simp only [ltb,go_sem,reduceLT,reduceEqDiff]
        refine hK _ _ rfl ?_
        simp only [mwb,reduceAdd,reduceEqDiff]
        exact ex_ret ⟨.inl rfl, _, ⟨_, rfl⟩, rfl⟩
       ·refine runX_cut 3 fun K1 hK1 => ?_
        simp only [ltb,go_sem,reduceAdd,reduceLT,reduceLeDiff,reduceEqDiff]
        refine callF_ex (by have h := zeroType_tot d.upper; rw [encTy_eq] at h; exact h) ?_
        rintro _ ⟨r26, rfl⟩
        try simp only [go_sem]
        refine hK1 _ ?_
        refine runX_cut 2 fun K1 hK1 => ?_
        simp only [ltb,go_sem,reduceLT,reduceEqDiff]
        refine hK1 _ ?_
        refine runX_case 71 (by rfl) fun b hb10_12 => ?_
        cases b
        ·refine runX_cut 8 fun K1 hK1 => ?_
         simp only [ltb,go_sem,reduceLT,reduceEqDiff]
         refine hK1 _ ?_
         simp only [ltb,go_sem,reduceLT,reduceEqDiff]
         refine hK _ _ rfl ?_
         simp only [mwb,reduceAdd,reduceEqDiff]
         exact ex_ret ⟨.inl rfl, _, ⟨_, rfl⟩, rfl⟩
        ·refine runX_cut 5 fun K1 hK1 => ?_
         simp only [ltb,go_sem,reduceAdd,reduceLT,reduceLeDiff,reduceEqDiff]
         refine hK1 _ ?_
         refine runX_case 76 (by rfl) fun b hb10_17 => ?_
         cases b
         ·simp only [ltb,go_sem,reduceLT,reduceEqDiff]
          refine hK _ _ rfl ?_
          simp only [mwb,reduceAdd,reduceEqDiff]
          exact ex_ret ⟨.inl rfl, _, ⟨_, rfl⟩, rfl⟩
         ·simp only [ltb,go_sem,reduceLT,reduceEqDiff]
          refine hK _ _ rfl ?_
          simp only [mwb,reduceAdd,reduceEqDiff]
          exact ex_ret ⟨.inl rfl, _, ⟨_, rfl⟩, rfl⟩
     ·refine ex_region_w tt_ok 107 (rp 81 0 [2,1]) [] rfl rfl fun K hK => ?_
      simp only [ltb,go_sem,reduceLT]
      refine hK _ _ rfl ?_
      simp only [mwb,reduceAdd,reduceEqDiff]
      refine ex_if rfl (fun hc81 => ?_) (fun hc81 => ?_)
      ·refine ex_region_w tt_ok 107 (0::0::2::(rp 80 0 (rp 24 1 []))) [(4, 87), (9, 92), (14, 97), (19, 102)] rfl rfl fun K hK => ?_
       refine runX_cut 5 fun K1 hK1 => ?_
       simp only [ltb]
       simp only [List.length_map,go_sem,reduceAdd,reduceLT,reduceLeDiff,reduceEqDiff]
       refine hK1 _ ?_
       refine runX_case 87 (by rfl) fun b hb12_4 => ?_
       cases b
       ·refine runX_cut 8 fun K1 hK1 => ?_
        simp only [ltb,go_sem,reduceLT,reduceEqDiff]
        refine hK1 _ ?_
        refine runX_cut 8 fun K1 hK1 => ?_
        simp only [ltb,go_sem,reduceLT,reduceEqDiff]
        refine hK1 _ ?_
        simp only [ltb,go_sem,reduceLT,reduceEqDiff]
        refine hK _ _ rfl ?_
        simp only [mwb,reduceAdd,reduceEqDiff]
        exact ex_ret ⟨.inl rfl, _, ⟨_, rfl⟩, rfl⟩
       ·refine runX_cut 3 fun K1 hK1 => ?_
        simp only [ltb,go_sem,reduceAdd,reduceLT,reduceLeDiff,reduceEqDiff]
        refine callF_ex (by have h := zeroType_tot d.lower; rw [encTy_eq] at h; exact h) ?_
        rintro _ ⟨r27, rfl⟩
        try simp only [go_sem]
        refine hK1 _ ?_
        refine runX_cut 2 fun K1 hK1 => ?_
        simp only [ltb,go_sem,reduceLT,reduceEqDiff]
        refine hK1 _ ?_
        refine runX_case 92 (by rfl) fun b hb12_9 => ?_
        cases b
        ·refine runX_cut 8 fun K1 hK1 => ?_
         simp only [ltb,go_sem,reduceLT,reduceEqDiff]
         refine hK1 _ ?_
         simp only [ltb,go_sem,reduceLT,reduceEqDiff]
         refine hK _ _ rfl ?_
         simp only [mwb,reduceAdd,reduceEqDiff]
         exact ex_ret ⟨.inl rfl, _, ⟨_, rfl⟩, rfl⟩
        ·refine runX_cut 3 fun K1 hK1 => ?_
         simp only [ltb,go_sem,reduceAdd,reduceLT,reduceLeDiff,reduceEqDiff]
         refine callF_ex (by have h := zeroType_tot d.upper; rw [encTy_eq] at h; exact h) ?_
         rintro _ ⟨r28, rfl⟩
         try simp only [go_sem]
         refine hK1 _ ?_
         refine runX_cut 2 fun K1 hK1 => ?_
         simp only [ltb,go_sem,reduceLT,reduceEqDiff]
         refine hK1 _ ?_
         refine runX_case 97 (by rfl) fun b hb12_14 => ?_
         cases b
         ·refine runX_cut 8 fun K1 hK1 => ?_
          simp only [ltb,go_sem,reduceLT,reduceEqDiff]
          refine hK1 _ ?_
          simp only [ltb,go_sem,reduceLT,reduceEqDiff]
          refine hK _ _ rfl ?_
          simp only [mwb,reduceAdd,reduceEqDiff]
          exact ex_ret ⟨.inl rfl, _, ⟨_, rfl⟩, rfl⟩
         ·refine runX_cut 3 fun K1 hK1 => ?_
          simp only [ltb,go_sem,reduceAdd,reduceLT,reduceLeDiff,reduceEqDiff]
          refine callF_ex (by have h := zeroType_tot d.type; rw [encTy_eq] at h; exact h) ?_
          rintro _ ⟨r29, rfl⟩
          try simp only [go_sem]
          refine hK1 _ ?_
          refine runX_cut 2 fun K1 hK1 => ?_
          simp only [ltb,go_sem,reduceLT,reduceEqDiff]
          refine hK1 _ ?_
          refine runX_case 102 (by rfl) fun b hb12_19 => ?_
          cases b
          ·simp only [ltb,go_sem,reduceLT,reduceEqDiff]
           refine hK _ _ rfl ?_
           simp only [mwb,reduceAdd,reduceEqDiff]
           exact ex_ret ⟨.inl rfl, _, ⟨_, rfl⟩, rfl⟩
          ·refine runX_cut 3 fun K1 hK1 => ?_
           simp only [ltb,go_sem,reduceAdd,reduceLT,reduceLeDiff,reduceEqDiff]
           refine callF_ex (by have h := zeroExpr_tot d.expr (by omega) (by omega) (by omega); rw [encEx_eq] at h; simp only [exCells] at h; exact h) ?_
           rintro _ ⟨r30, rfl⟩
           try simp only [go_sem]
           refine hK1 _ ?_
           simp only [ltb,go_sem,reduceLT,reduceEqDiff]
           refine hK _ _ rfl ?_
           simp only [mwb,reduceAdd,reduceEqDiff]
           exact ex_ret ⟨.inl rfl, _, ⟨_, rfl⟩, rfl⟩
      ·refine ex_skip ?_
       show Go.Eng.Ex _ _ _ _ _ _
       refine ex_region_w tt_ok 107 [0,0,2] [] rfl rfl fun K hK => ?_
       simp only [ltb,go_sem]
       refine hK _ _ rfl ?_
       simp only [mwb,reduceAdd]
       exact ex_ret ⟨.inl rfl, _, ⟨_, rfl⟩, rfl⟩
   ·simp only [ltb,go_sem,reduceAdd,reduceLT,reduceLeDiff,reduceEqDiff]
    refine hK _ _ rfl ?_
    simp only [mwb,reduceAdd,reduceEqDiff]
    refine ex_if rfl (fun hc22 => ?_) (fun hc22 => ?_)
    ·refine ex_region_w tt_ok 107 [0,0,2] [] rfl rfl fun K hK => ?_
     simp only [ltb,go_sem]
     refine hK _ _ rfl ?_
     simp only [mwb,reduceAdd]
     exact ex_ret ⟨.inl rfl, _, ⟨_, rfl⟩, rfl⟩
    ·refine ex_skip ?_
     show Go.Eng.Ex _ _ _ _ _ _
     refine ex_region_w tt_ok 107 (0::0::0::2::(rp 19 0 [1,1,1])) [] rfl rfl fun K hK => ?_
     refine runX_cut 3 fun K1 hK1 => ?_
     simp only [ltb,go_sem,reduceAdd,reduceLT,reduceLeDiff,reduceEqDiff]
     refine callF_ex (containsPm_tot 163 d.params pm1_tot hp) ?_
     rintro _ ⟨r31, rfl⟩
     try simp only [go_sem]
     refine hK1 _ ?_
     simp only [ltb,go_sem,reduceLT,reduceEqDiff]
     refine hK _ _ rfl ?_
     simp only [mwb,reduceAdd,reduceEqDiff]
     refine ex_seq ?_
     refine ex_region_w tt_ok 107 (rp 26 0 [1,2]) [] rfl rfl fun K hK => ?_
     simp only [ltb,go_sem,reduceAdd,reduceLT,reduceLeDiff]
     refine hK _ _ rfl ?_
     simp only [mwb,reduceAdd,reduceEqDiff]
     refine ex_block ?_
     refine ex_region_w tt_ok 107 (rp 28 0 [2,1]) [] rfl rfl fun K hK => ?_
     simp only [ltb,go_sem,reduceLT]
     refine hK _ _ rfl ?_
     simp only [mwb,reduceAdd,reduceEqDiff]
     refine ex_if rfl (fun hc28 => ?_) (fun hc28 => ?_)
     ·refine ex_region_w tt_ok 107 (0::0::0::0::2::(rp 25 0 [1,1,1])) [] rfl rfl fun K hK => ?_
      refine runX_cut 3 fun K1 hK1 => ?_
      simp only [ltb,go_sem,reduceAdd,reduceLT,reduceLeDiff,reduceEqDiff]
      refine callF_ex (containsPm_tot 164 d.params pm2_tot hp) ?_
      rintro _ ⟨r32, rfl⟩
      try simp only [go_sem]
      refine hK1 _ ?_
      simp only [ltb,go_sem,reduceLT,reduceEqDiff]
      refine hK _ _ rfl ?_
      simp only [mwb,reduceAdd,reduceEqDiff]
      refine ex_region_w tt_ok 107 (0::0::2::(rp 30 0 (rp 21 1 []))) [(2, 35), (6, 39), (11, 44), (16, 49)] rfl rfl fun K hK => ?_
      refine runX_cut 3 fun K1 hK1 => ?_
      simp only [ltb,go_sem,reduceLT,reduceEqDiff]
      refine hK1 _ ?_
      refine runX_case 35 (by rfl) fun b hb7_2 => ?_
      cases b
      ·refine runX_cut 8 fun K1 hK1 => ?_
       simp only [ltb,go_sem,reduceLT,reduceEqDiff]
       refine hK1 _ ?_
       refine runX_cut 8 fun K1 hK1 => ?_
       simp only [ltb,go_sem,reduceLT,reduceEqDiff]
       refine hK1 _ ?_
       simp only [ltb,go_sem,reduceLT,reduceEqDiff]
       refine hK _ _ rfl ?_
       simp only [mwb,reduceAdd,reduceEqDiff]
       exact ex_ret ⟨.inl rfl, _, ⟨_, rfl⟩, rfl⟩
      ·refine runX_cut 4 fun K1 hK1 => ?_
       simp only [ltb,go_sem,reduceLT,reduceEqDiff]
       refine hK1 _ ?_
       refine runX_case 39 (by rfl) fun b hb7_6 => ?_
       cases b
       ·refine runX_cut 8 fun K1 hK1 => ?_
        simp only [ltb,go_sem,reduceLT,reduceEqDiff]
        refine hK1 _ ?_
        simp only [ltb,go_sem,reduceLT,reduceEqDiff]
        refine hK _ _ rfl ?_
        simp only [mwb,reduceAdd,reduceEqDiff]
        exact ex_ret ⟨.inl rfl, _, ⟨_, rfl⟩, rfl⟩
       ·refine runX_cut 3 fun K1 hK1 => ?_
        simp only [ltb,go_sem,reduceAdd,reduceLT,reduceLeDiff,reduceEqDiff]
        refine callF_ex (by have h := zeroExpr_tot d.expr (by omega) (by omega) (by omega); rw [encEx_eq] at h; simp only [exCells] at h; exact h) ?_
        rintro _ ⟨r33, rfl⟩
        try simp only [go_sem]
        refine hK1 _ ?_
        refine runX_cut 2 fun K1 hK1 => ?_
        simp only [ltb,go_sem,reduceLT,reduceEqDiff]
        refine hK1 _ ?_
        refine runX_case 44 (by rfl) fun b hb7_11 => ?_
        cases b
        ·refine runX_cut 8 fun K1 hK1 => ?_
         simp only [ltb,go_sem,reduceLT,reduceEqDiff]
         refine hK1 _ ?_
         simp only [ltb,go_sem,reduceLT,reduceEqDiff]
         refine hK _ _ rfl ?_
         simp only [mwb,reduceAdd,reduceEqDiff]
         exact ex_ret ⟨.inl rfl, _, ⟨_, rfl⟩, rfl⟩
        ·refine runX_cut 5 fun K1 hK1 => ?_
         simp only [ltb,go_sem,reduceAdd,reduceLT,reduceLeDiff,reduceEqDiff]
         refine hK1 _ ?_
         refine runX_case 49 (by rfl) fun b hb7_16 => ?_
         cases b
         ·simp only [ltb,go_sem,reduceLT,reduceEqDiff]
          refine hK _ _ rfl ?_
          simp only [mwb,reduceAdd,reduceEqDiff]
          exact ex_ret ⟨.inl rfl, _, ⟨_, rfl⟩, rfl⟩
         ·simp only [ltb,go_sem,reduceLT,reduceEqDiff]
          refine hK _ _ rfl ?_
          simp only [mwb,reduceAdd,reduceEqDiff]
          exact ex_ret ⟨.inl rfl, _, ⟨_, rfl⟩, rfl⟩
     ·refine ex_region_w tt_ok 107 (rp 54 0 [2,1]) [] rfl rfl fun K hK => ?_
      simp only [ltb,go_sem,reduceLT]
      refine hK _ _ rfl ?_
      simp only [mwb,reduceAdd,reduceEqDiff]
      refine ex_if rfl (fun hc54 => ?_) (fun hc54 => ?_)
      ·refine ex_region_w tt_ok 107 (0::0::0::0::0::2::(rp 50 0 [1,1,1])) [] rfl rfl fun K hK => ?_
       refine runX_cut 3 fun K1 hK1 => ?_
       simp only [ltb,go_sem,reduceAdd,reduceLT,reduceLeDiff,reduceEqDiff]
       refine callF_ex (containsPm_tot 166 d.params pm3_tot hp) ?_
       rintro _ ⟨r34, rfl⟩
       try simp only [go_sem]
       refine hK1 _ ?_
       simp only [ltb,go_sem,reduceLT,reduceEqDiff]
       refine hK _ _ rfl ?_
       simp only [mwb,reduceAdd,reduceEqDiff]
       refine ex_region_w tt_ok 107 (0::0::2::(rp 56 0 (rp 22 1 []))) [(2, 61), (7, 66), (12, 71), (17, 76)] rfl rfl fun K hK => ?_
       refine runX_cut 3 fun K1 hK1 => ?_
       simp only [ltb,go_sem,reduceLT,reduceEqDiff]
       refine hK1 _ ?_
       refine runX_case 61 (by rfl) fun b hb10_2 => ?_
       cases b
       ·refine runX_cut 8 fun K1 hK1 => ?_
        simp only [ltb,go_sem,reduceLT,reduceEqDiff]
        refine hK1 _ ?_
        refine runX_cut 8 fun K1 hK1 => ?_
        simp only [ltb,go_sem,reduceLT,reduceEqDiff]
        refine hK1 _ ?_
        simp only [ltb,go_sem,reduceLT,reduceEqDiff]
        refine hK _ _ rfl ?_
        simp only [mwb,reduceAdd,reduceEqDiff]
        exact ex_ret ⟨.inl rfl, _, ⟨_, rfl⟩, rfl⟩
       ·refine runX_cut 3 fun K1 hK1 => ?_
        simp only [ltb,go_sem,reduceAdd,reduceLT,reduceLeDiff,reduceEqDiff]
        refine callF_ex (by have h := zeroType_tot d.lower; rw [encTy_eq] at h; exact h) ?_
        rintro _ ⟨r35, rfl⟩
        try simp only [go_sem]
        refine hK1 _ ?_
        refine runX_cut 2 fun K1 hK1 => ?_
        simp only [ltb,go_sem,reduceLT,reduceEqDiff]
        refine hK1 _ ?_
        refine runX_case 66 (by rfl) fun b hb10_7 => ?_
        cases b
        ·refine runX_cut 8 fun K1 hK1 => ?_
         simp only [ltb,go_sem,reduceLT,reduceEqDiff]
         refine hK1 _ ?_
         simp only [ltb,go_sem,reduceLT,reduceEqDiff]
         refine hK _ _ rfl ?_
         simp only [mwb,reduceAdd,reduceEqDiff]
         exact ex_ret ⟨.inl rfl, _, ⟨_, rfl⟩, rfl⟩
        ·refine runX_cut 3 fun K1 hK1 => ?_
         simp only [ltb,go_sem,reduceAdd,reduceLT,reduceLeDiff,reduceEqDiff]
         refine callF_ex (by have h := zeroType_tot d.upper; rw [encTy_eq] at h; exact h) ?_
         rintro _ ⟨r36, rfl⟩
         try simp only [go_sem]
         refine hK1 _ ?_
         refine runX_cut 2 fun K1 hK1 => ?_
         simp only [ltb,go_sem,reduceLT,reduceEqDiff]
         refine hK1 _ ?_
         refine runX_case 71 (by rfl) fun b hb10_12 => ?_
         cases b
         ·refine runX_cut 8 fun K1 hK1 => ?_
          simp only [ltb,go_sem,reduceLT,reduceEqDiff]
          refine hK1 _ ?_
          simp only [ltb,go_sem,reduceLT,reduceEqDiff]
          refine hK _ _ rfl ?_
          simp only [mwb,reduceAdd,reduceEqDiff]
          exact ex_ret ⟨.inl rfl, _, ⟨_, rfl⟩, rfl⟩
         ·refine runX_cut 5 fun K1 hK1 => ?_
          simp only [ltb,go_sem,reduceAdd,reduceLT,reduceLeDiff,reduceEqDiff]
          refine hK1 _ ?_
          refine runX_case 76 (by rfl) fun b hb10_17 => ?_
          cases b
          ·simp only [ltb,go_sem,reduceLT,reduceEqDiff]
           refine hK _ _ rfl ?_
           simp only [mwb,reduceAdd,reduceEqDiff]
           exact ex_ret ⟨.inl rfl, _, ⟨_, rfl⟩, rfl⟩
          ·simp only [ltb,go_sem,reduceLT,reduceEqDiff]
           refine hK _ _ rfl ?_
           simp only [mwb,reduceAdd,reduceEqDiff]
           exact ex_ret ⟨.inl rfl, _, ⟨_, rfl⟩, rfl⟩
      ·refine ex_region_w tt_ok 107 (rp 81 0 [2,1]) [] rfl rfl fun K hK => ?_
       simp only [ltb,go_sem,reduceLT]
       refine hK _ _ rfl ?_
       simp only [mwb,reduceAdd,reduceEqDiff]
       refine ex_if rfl (fun hc81 => ?_) (fun hc81 => ?_)
       ·refine ex_region_w tt_ok 107 (0::0::2::(rp 80 0 (rp 24 1 []))) [(4, 87), (9, 92), (14, 97), (19, 102)] rfl rfl fun K hK => ?_
        refine runX_cut 5 fun K1 hK1 => ?_
        simp only [ltb]
        simp only [List.length_map,go_sem,reduceAdd,reduceLT,reduceLeDiff,reduceEqDiff]
        refine hK1 _ ?_
        refine runX_case 87 (by rfl) fun b hb12_4 => ?_
        cases b
        ·refine runX_cut 8 fun K1 hK1 => ?_
         simp only [ltb,go_sem,reduceLT,reduceEqDiff]
         refine hK1 _ ?_
         refine runX_cut 8 fun K1 hK1 => ?_
         simp only [ltb,go_sem,reduceLT,reduceEqDiff]
         refine hK1 _ ?_
         simp only [ltb,go_sem,reduceLT,reduceEqDiff]
         refine hK _ _ rfl ?_
         simp only [mwb,reduceAdd,reduceEqDiff]
         exact ex_ret ⟨.inl rfl, _, ⟨_, rfl⟩, rfl⟩
        ·refine runX_cut 3 fun K1 hK1 => ?_
         simp only [ltb,go_sem,reduceAdd,reduceLT,reduceLeDiff,reduceEqDiff]
         refine callF_ex (by have h := zeroType_tot d.lower; rw [encTy_eq] at h; exact h) ?_
         rintro _ ⟨r37, rfl⟩
         try simp only [go_sem]
         refine hK1 _ ?_
         refine runX_cut 2 fun K1 hK1 => ?_
         simp only [ltb,go_sem,reduceLT,reduceEqDiff]
         refine hK1 _ ?_
         refine runX_case 92 (by rfl) fun b hb12_9 => ?_
         cases b
         ·refine runX_cut 8 fun K1 hK1 => ?_
          simp only [ltb,go_sem,reduceLT,reduceEqDiff]
          refine hK1 _ ?_
          simp only [ltb,go_sem,reduceLT,reduceEqDiff]
          refine hK _ _ rfl ?_
          simp only [mwb,reduceAdd,reduceEqDiff]
          exact ex_ret ⟨.inl rfl, _, ⟨_, rfl⟩, rfl⟩
         ·refine runX_cut 3 fun K1 hK1 => ?_
          simp only [ltb,go_sem,reduceAdd,reduceLT,reduceLeDiff,reduceEqDiff]
          refine callF_ex (by have h := zeroType_tot d.upper; rw [encTy_eq] at h; exact h) ?_
          rintro _ ⟨r38, rfl⟩
          try simp only [go_sem]
          refine hK1 _ ?_
          refine runX_cut 2 fun K1 hK1 => ?_
          simp only [ltb,go_sem,reduceLT,reduceEqDiff]
          refine hK1 _ ?_
          refine runX_case 97 (by rfl) fun b hb12_14 => ?_
          cases b
          ·refine runX_cut 8 fun K1 hK1 => ?_
           simp only [ltb,go_sem,reduceLT,reduceEqDiff]
           refine hK1 _ ?_
           simp only [ltb,go_sem,reduceLT,reduceEqDiff]
           refine hK _ _ rfl ?_
           simp only [mwb,reduceAdd,reduceEqDiff]
           exact ex_ret ⟨.inl rfl, _, ⟨_, rfl⟩, rfl⟩
          ·refine runX_cut 3 fun K1 hK1 => ?_
           simp only [ltb,go_sem,reduceAdd,reduceLT,reduceLeDiff,reduceEqDiff]
           refine callF_ex (by have h := zeroType_tot d.type; rw [encTy_eq] at h; exact h) ?_
           rintro _ ⟨r39, rfl⟩
           try simp only [go_sem]
           refine hK1 _ ?_
           refine runX_cut 2 fun K1 hK1 => ?_
           simp only [ltb,go_sem,reduceLT,reduceEqDiff]
           refine hK1 _ ?_
           refine runX_case 102 (by rfl) fun b hb12_19 => ?_
           cases b
           ·simp only [ltb,go_sem,reduceLT,reduceEqDiff]
            refine hK _ _ rfl ?_
            simp only [mwb,reduceAdd,reduceEqDiff]
            exact ex_ret ⟨.inl rfl, _, ⟨_, rfl⟩, rfl⟩
           ·refine runX_cut 3 fun K1 hK1 => ?_
            simp only [ltb,go_sem,reduceAdd,reduceLT,reduceLeDiff,reduceEqDiff]
            refine callF_ex (by have h := zeroExpr_tot d.expr (by omega) (by omega) (by omega); rw [encEx_eq] at h; simp only [exCells] at h; exact h) ?_
            rintro _ ⟨r40, rfl⟩
            try simp only [go_sem]
            refine hK1 _ ?_
            simp only [ltb,go_sem,reduceLT,reduceEqDiff]
            refine hK _ _ rfl ?_
            simp only [mwb,reduceAdd,reduceEqDiff]
            exact ex_ret ⟨.inl rfl, _, ⟨_, rfl⟩, rfl⟩
       ·refine ex_skip ?_
        show Go.Eng.Ex _ _ _ _ _ _
        refine ex_region_w tt_ok 107 [0,0,2] [] rfl rfl fun K hK => ?_
        simp only [ltb,go_sem]
        refine hK _ _ rfl ?_
        simp only [mwb,reduceAdd]
        exact ex_ret ⟨.inl rfl, _, ⟨_, rfl⟩, rfl⟩
  ·refine runX_cut 8 fun K1 hK1 => ?_
   simp only [ltb,go_sem,reduceAdd,reduceLT,reduceLeDiff,reduceEqDiff]
   refine hK1 _ ?_
   simp only [ltb,go_sem,reduceLT,reduceEqDiff]
   refine hK _ _ rfl ?_
   simp only [mwb,reduceAdd,reduceEqDiff]
   refine ex_cond rfl ?_
   refine ex_region_w tt_ok 107 [0,0,2] [] rfl rfl fun K hK => ?_
   simp only [ltb,go_sem]
   refine hK _ _ rfl ?_
   simp only [mwb,reduceAdd]
   exact ex_ret ⟨.inl rfl, _, ⟨_, rfl⟩, rfl⟩
theorem titled_tot (hG : Glob.g = some 0) (d : Dc) (hp : d.params.length ≤ 1048576) (hm : d.mod.size ≤ 1048575) : ∃ r, isB r ∧ FnOk Tryz.prog 115 [encDc d] r := by
 refine fn_ex tt_ok (fn := Tryz.f115) Tryz.func115 rfl Tryz.call115 ?_
 simp only [ltb,startSt,Tryz.ntmps115,List.length_cons,List.length_nil,reduceAdd,reduceSub,List.replicate_succ,List.replicate_zero]
 simp only [ltb,encDc,tyCells,exCells]
 refine ex_region_w tt_ok 48 [0,2,2] [] rfl rfl fun K hK => ?_
 simp only [ltb,go_sem,reduceLT]
 refine hK _ _ rfl ?_
 simp only [mwb,reduceAdd,reduceEqDiff]
 refine ex_seq ?_
 refine ex_region_w tt_ok 48 [0,0,0,0,1,1,2] [] rfl rfl fun K hK => ?_
 simp only [ltb,go_sem,reduceAdd,reduceLT,reduceLeDiff,reduceEqDiff]
 refine callF_ex (containsPm_tot 167 d.params pm4_tot hp) ?_
 rintro _ ⟨r1, rfl⟩
 try simp only [go_sem]
 refine hK _ _ rfl ?_
 simp only [mwb,reduceAdd,reduceEqDiff]
 refine ex_if rfl (fun hc6 => ?_) (fun hc6 => ?_)
 ·refine ex_region_w tt_ok 48 [0,0,2] [] rfl rfl fun K hK => ?_
  simp only [ltb,go_sem]
  refine hK _ _ rfl ?_
  simp only [mwb,reduceAdd]
  exact ex_ret ⟨.inl rfl, _, ⟨_, rfl⟩, rfl⟩
 ·refine ex_skip ?_
  show Go.Eng.Ex _ _ _ _ _ _
  refine ex_seq ?_
  refine ex_region_w tt_ok 48 [0,0,0,0,0,0,0,1,2] [] rfl rfl fun K hK => ?_
  simp only [ltb,go_sem,reduceAdd,reduceLT,reduceLeDiff]
  refine hK _ _ rfl ?_
  simp only [mwb,reduceAdd,reduceEqDiff]
  refine ex_block ?_
  refine ex_region_w tt_ok 48 (rp 9 0 [2,1]) [] rfl rfl fun K hK => ?_
  simp only [ltb,go_sem,reduceLT]
  refine hK _ _ rfl ?_
  simp only [mwb,reduceAdd,reduceEqDiff]
  refine ex_if rfl (fun hc9 => ?_) (fun hc9 => ?_)
  ·refine ex_region_w tt_ok 48 [0,0,2,0,0,0,0,0,0,0,0,1,1,1] [] rfl rfl fun K hK => ?_
   refine runX_cut 3 fun K1 hK1 => ?_
   simp only [ltb,go_sem,reduceAdd,reduceLT,reduceLeDiff,reduceEqDiff]
   refine callF_ex (isType_tot _) ?_
   rintro _ ⟨r2, rfl⟩
   try simp only [go_sem]
   refine hK1 _ ?_
   simp only [ltb,go_sem,reduceLT,reduceEqDiff]
   refine hK _ _ rfl ?_
   simp only [mwb,reduceAdd,reduceEqDiff]
   exact ex_ret ⟨.inl rfl, _, ⟨_, rfl⟩, rfl⟩
  ·refine ex_region_w tt_ok 48 (rp 14 0 [2,1]) [] rfl rfl fun K hK => ?_
   simp only [ltb,go_sem,reduceLT]
   refine hK _ _ rfl ?_
   simp only [mwb,reduceAdd,reduceEqDiff]
   refine ex_if rfl (fun hc14 => ?_) (fun hc14 => ?_)
   ·refine ex_region_w tt_ok 48 (0::0::2::(rp 13 0 [1,1,1])) [] rfl rfl fun K hK => ?_
    refine runX_cut 3 fun K1 hK1 => ?_
    simp only [ltb,go_sem,reduceAdd,reduceLT,reduceLeDiff,reduceEqDiff]
    refine callF_ex (isName_tot hG _) ?_
    rintro _ ⟨r3, rfl⟩
    try simp only [go_sem]
    refine hK1 _ ?_
    simp only [ltb,go_sem,reduceLT,reduceEqDiff]
    refine hK _ _ rfl ?_
    simp only [mwb,reduceAdd,reduceEqDiff]
    exact ex_ret ⟨.inl rfl, _, ⟨_, rfl⟩, rfl⟩
   ·refine ex_skip ?_
    show Go.Eng.Ex _ _ _ _ _ _
    refine ex_seq_joinK [3] 1 (rp 19 true []) (fun vs => ∃ b : Bool, vs = [bl b]) ?_ ?_
    ·refine ex_last_region_w tt_ok 48 (0::0::0::2::(rp 15 0 (rp 18 2 []))) [(3, 22), (8, 27), (12, 31)] (by kernel_rfl) rfl rfl fun K hK => ?_
     refine runX_cut 3 fun K1 hK1 => ?_
     simp only [ltb,go_sem,reduceAdd,reduceLT,reduceLeDiff,reduceEqDiff]
     refine callF_ex (isName_tot hG _) ?_
     rintro _ ⟨r4, rfl⟩
     try simp only [go_sem]
     refine hK1 _ ?_
     refine runX_cut 1 fun K1 hK1 => ?_
     simp only [ltb,go_sem,reduceLT,reduceEqDiff]
     refine hK1 _ ?_
     refine runX_case 22 (by rfl) fun b hb8_3 => ?_
     cases b
     ·refine runX_cut 8 fun K1 hK1 => ?_
      simp only [ltb,go_sem,reduceAdd,reduceLT,reduceLeDiff,reduceEqDiff]
      refine callF_ex (isType_tot _) ?_
      rintro _ ⟨r5, rfl⟩
      try simp only [go_sem]
      refine hK1 _ ?_
      refine runX_cut 1 fun K1 hK1 => ?_
      simp only [ltb,go_sem,reduceLT,reduceEqDiff]
      refine hK1 _ ?_
      refine runX_case 31 (by rfl) fun b hb8_12 => ?_
      cases b
      ·simp only [ltb,go_sem,reduceLT,reduceEqDiff]
       refine hK _ _ rfl ?_
       simp only [mwb,reduceAdd,reduceEqDiff]
       refine ⟨[_], ?_, 1, (rp 19 true []), by omega, by simp only [maskFr,belowV,belowL,reduceLT,mkb], by simp only [List.all_cons,List.all_nil,belowV,belowB,Bool.and_self,List.take_succ_cons,List.take_nil], by simp only [maskFr,putAll,List.set_cons_zero,List.set_cons_succ,mkb]; rfl⟩
       exact ⟨_, rfl⟩
      ·refine runX_cut 3 fun K1 hK1 => ?_
       simp only [ltb,go_sem,reduceLT,reduceEqDiff]
       refine callF_ex (isType_tot _) ?_
       rintro _ ⟨r6, rfl⟩
       try simp only [go_sem]
       refine hK1 _ ?_
       simp only [ltb,go_sem,reduceLT,reduceEqDiff]
       refine hK _ _ rfl ?_
       simp only [mwb,reduceAdd,reduceEqDiff]
       refine ⟨[_], ?_, 1, (rp 19 true []), by omega, by simp only [maskFr,belowV,belowL,reduceLT,mkb], by simp only [List.all_cons,List.all_nil,belowV,belowB,Bool.and_self,List.take_succ_cons,List.take_nil], by simp only [maskFr,putAll,List.set_cons_zero,List.set_cons_succ,mkb]; rfl⟩
       exact ⟨_, rfl⟩
     ·refine runX_cut 3 fun K1 hK1 => ?_
      simp only [ltb,go_sem,reduceLT,reduceEqDiff]
      refine callF_ex (isName_tot hG _) ?_
      rintro _ ⟨r7, rfl⟩
      try simp only [go_sem]
      refine hK1 _ ?_
      refine runX_cut 2 fun K1 hK1 => ?_
      simp only [ltb,go_sem,reduceLT,reduceEqDiff]
      refine hK1 _ ?_
      refine runX_case 27 (by rfl) fun b hb8_8 => ?_
      cases b
      ·refine runX_cut 3 fun K1 hK1 => ?_
       simp only [ltb,go_sem,reduceAdd,reduceLT,reduceLeDiff,reduceEqDiff]
       refine callF_ex (isType_tot _) ?_
       rintro _ ⟨r8, rfl⟩
       try simp only [go_sem]
       refine hK1 _ ?_
       refine runX_cut 1 fun K1 hK1 => ?_
       simp only [ltb,go_sem,reduceLT,reduceEqDiff]
       refine hK1 _ ?_
       refine runX_case 31 (by rfl) fun b hb8_12 => ?_
       cases b
       ·simp only [ltb,go_sem,reduceLT,reduceEqDiff]
        refine hK _ _ rfl ?_
        simp only [mwb,reduceAdd,reduceEqDiff]
        refine ⟨[_], ?_, 1, (rp 19 true []), by omega, by simp only [maskFr,belowV,belowL,reduceLT,mkb], by simp only [List.all_cons,List.all_nil,belowV,belowB,Bool.and_self,List.take_succ_cons,List.take_nil], by simp only [maskFr,putAll,List.set_cons_zero,List.set_cons_succ,mkb]; rfl⟩
        exact ⟨_, rfl⟩
       ·refine runX_cut 3 fun K1 hK1 => ?_
        simp only [ltb,go_sem,reduceLT,reduceEqDiff]
        refine callF_ex (isType_tot _) ?_
        rintro _ ⟨r9, rfl⟩
        try simp only [go_sem]
        refine hK1 _ ?_
        simp only [ltb,go_sem,reduceLT,reduceEqDiff]
        refine hK _ _ rfl ?_
        simp only [mwb,reduceAdd,reduceEqDiff]
        refine ⟨[_], ?_, 1, (rp 19 true []), by omega, by simp only [maskFr,belowV,belowL,reduceLT,mkb], by simp only [List.all_cons,List.all_nil,belowV,belowB,Bool.and_self,List.take_succ_cons,List.take_nil], by simp only [maskFr,putAll,List.set_cons_zero,List.set_cons_succ,mkb]; rfl⟩
        exact ⟨_, rfl⟩
      ·refine runX_cut 8 fun K1 hK1 => ?_
       simp only [ltb,go_sem,reduceLT,reduceEqDiff]
       refine hK1 _ ?_
       simp only [ltb,go_sem,reduceLT,reduceEqDiff]
       refine hK _ _ rfl ?_
       simp only [mwb,reduceAdd,reduceEqDiff]
       refine ⟨[_], ?_, 1, (rp 19 true []), by omega, by simp only [maskFr,belowV,belowL,reduceLT,mkb], by simp only [List.all_cons,List.all_nil,belowV,belowB,Bool.and_self,List.take_succ_cons,List.take_nil], by simp only [maskFr,putAll,List.set_cons_zero,List.set_cons_succ,mkb]; rfl⟩
       exact ⟨_, rfl⟩
    ·intro vs hJ
     obtain ⟨b3, rfl⟩ := hJ
     simp only [maskFr,putAll,List.set_cons_zero,List.set_cons_succ,mkb]
     refine ex_region_w tt_ok 48 (0::0::2::(rp 34 0 (rp 11 1 []))) [(1, 38), (6, 43)] rfl rfl fun K hK => ?_
     refine runX_cut 2 fun K1 hK1 => ?_
     simp only [ltb,go_sem,reduceLT]
     refine hK1 _ ?_
     refine runX_case 38 (by rfl) fun b hb9_1 => ?_
     cases b
     ·refine runX_cut 8 fun K1 hK1 => ?_
      simp only [ltb,go_sem,reduceLT,reduceEqDiff]
      refine hK1 _ ?_
      simp only [ltb,go_sem,reduceLT,reduceEqDiff]
      refine hK _ _ rfl ?_
      simp only [mwb,reduceAdd,reduceEqDiff]
      exact ex_ret ⟨.inl rfl, _, ⟨_, rfl⟩, rfl⟩
     ·refine runX_cut 5 fun K1 hK1 => ?_
      simp only [ltb,go_sem,reduceAdd,reduceLT,reduceLeDiff,reduceEqDiff]
      refine hK1 _ ?_
      refine runX_case 43 (by rfl) fun b hb9_6 => ?_
      cases b
      ·simp only [ltb,go_sem,reduceLT,reduceEqDiff]
       refine hK _ _ rfl ?_
       simp only [mwb,reduceAdd,reduceEqDiff]
       exact ex_ret ⟨.inl rfl, _, ⟨_, rfl⟩, rfl⟩
      ·refine runX_cut 3 fun K1 hK1 => ?_
       simp only [ltb,go_sem,reduceAdd,reduceLT,reduceLeDiff,reduceEqDiff]
       refine callF_ex (module_tot hG _ hm) ?_
       rintro _ ⟨r10, rfl⟩
       try simp only [go_sem]
       refine hK1 _ ?_
       simp only [ltb,go_sem,reduceLT,reduceEqDiff]
       refine hK _ _ rfl ?_
       simp only [mwb,reduceAdd,reduceEqDiff]
       exact ex_ret ⟨.inl rfl, _, ⟨_, rfl⟩, rfl⟩
end Go.Proofs.YtpjdfcigadnhcaaGreatDoor
end

section
namespace Go.Proofs.YtpjdfcigadnhcaaGreatDoor
open Go.Eng
open Nat (reduceAdd reduceLT reduceLeDiff reduceMul reduceEqDiff reduceSub)
variable [Glob]
set_option maxHeartbeats 4000000
set_option maxRecDepth 100000
attribute [local irreducible] runM stepM valD stepOp stepD callF callS
theorem has_tot (hG : Glob.g = some 0) (m : List Blk) (hm : m.all (belowB m.length) = true) (k : Nat) (fl : ByteArray) (ty kd : Int) (lb : Bool) (hk : m[k]? = some (.box [str fl, num ty, bl lb, num kd])) (s : ByteArray) (hs : s.size ≤ 1048576) (hf : fl.size ≤ 1048576) : ∃ r, isB r ∧ FnOkS Tryz.prog 151 [str s, .ptr k 0] (m) r (m) := by
 refine fns_ex tt_ok (fn := Tryz.f151) Tryz.func151 rfl Tryz.call151 (hm) ?_
 simp only [ltb,startSt,Tryz.ntmps151,List.length_cons,List.length_nil,reduceAdd,reduceSub,List.replicate_succ,List.replicate_zero]
 refine ex_region_w tt_ok 8 [0,0,0,2] [] rfl rfl fun K hK => ?_
 simp only [ltb,go_sem]
 refine hK _ _ rfl ?_
 simp only [mwb,reduceAdd]
 refine ex_region_w tt_ok 8 [0,0,0,2,1,1,1,1] [] rfl rfl fun K hK => ?_
 refine runX_cut 4 fun K1 hK1 => ?_
 simp only [ltb]
 simp only [hk,tt134,go_sem,reduceLT,reduceEqDiff,reduceCtorEq]
 refine callF_ex (contains_tot hG _ _ hf hs) ?_
 rintro _ ⟨r1, rfl⟩
 try simp only [go_sem]
 refine hK1 _ ?_
 simp only [ltb,go_sem,reduceLT,reduceEqDiff]
 refine hK _ _ rfl ?_
 simp only [mwb,reduceAdd,reduceEqDiff]
 exact ex_ret ⟨.inl rfl, _, ⟨_, rfl⟩, rfl, rfl, List.take_length⟩
theorem has2_tot (hG : Glob.g = some 0) (m : List Blk) (hm : m.all (belowB m.length) = true) (k : Nat) (fl : ByteArray) (ty kd : Int) (lb : Bool) (hk : m[k]? = some (.box [str fl, num ty, bl lb, num kd])) (s : ByteArray) (hs : s.size ≤ 1048576) (hf : fl.size ≤ 1048576) : ∃ r, isB r ∧ FnOkS Tryz.prog 157 [str s, .ptr k 0] (m) r (m) := by
 refine fns_ex tt_ok (fn := Tryz.f157) Tryz.func157 rfl Tryz.call157 (hm) ?_
 simp only [ltb,startSt,Tryz.ntmps157,List.length_cons,List.length_nil,reduceAdd,reduceSub,List.replicate_succ,List.replicate_zero]
 refine ex_region_w tt_ok 8 [0,0,0,2] [] rfl rfl fun K hK => ?_
 simp only [ltb,go_sem]
 refine hK _ _ rfl ?_
 simp only [mwb,reduceAdd]
 refine ex_region_w tt_ok 8 [0,0,0,2,1,1,1,1] [] rfl rfl fun K hK => ?_
 refine runX_cut 4 fun K1 hK1 => ?_
 simp only [ltb]
 simp only [hk,tt134,go_sem,reduceLT,reduceEqDiff,reduceCtorEq]
 refine callF_ex (contains_tot hG _ _ hf hs) ?_
 rintro _ ⟨r1, rfl⟩
 try simp only [go_sem]
 refine hK1 _ ?_
 simp only [ltb,go_sem,reduceLT,reduceEqDiff]
 refine hK _ _ rfl ?_
 simp only [mwb,reduceAdd,reduceEqDiff]
 exact ex_ret ⟨.inl rfl, _, ⟨_, rfl⟩, rfl, rfl, List.take_length⟩
theorem idxLb_tot (m : List Blk) (hm : m.all (belowB m.length) = true) (g : FuncId) (k : Nat) (hk : k < m.length) (ls : List Lb) (hg : ∀ l : Lb, ∃ r, isB r ∧ FnOkS Tryz.prog g [encLb l, .ptr k 0] m r m) (hl : ls.length ≤ 1048576) : ∃ r, isN r ∧ FnOkS Tryz.prog 186 [.slice (ls.map encLb), .clo (.func g) [] [.ptr k 0]] (m) r (m) := by
 refine fns_ex tt_ok (fn := Tryz.f186) Tryz.func186 rfl Tryz.call186 (hm) ?_
 simp only [ltb,startSt,Tryz.ntmps186,List.length_cons,List.length_nil,reduceAdd,reduceSub,List.replicate_succ,List.replicate_zero]
 refine ex_region_w tt_ok 19 [0,0,0,0,2] [] rfl rfl fun K hK => ?_
 simp only [ltb,go_sem]
 refine hK _ _ rfl ?_
 simp only [mwb,reduceAdd]
 refine ex_seq ?_
 refine ex_region_w tt_ok 19 [0,0,0,0,0,0,1,2,2] [] rfl rfl fun K hK => ?_
 try simp only [ltb]
 simp only [List.length_map,go_sem,reduceLT]
 refine hK _ _ rfl ?_
 simp only [mwb,reduceAdd,reduceEqDiff]
 refine ex_block ?_
 refine ex_range 8 (ls.length) m.length [true,true,false,false,true,false,false,true,true] (by omega) (by simp only [hk,maskFr,belowV,belowL,mkb]) (by simp only [List.take_length,hm]) (by rfl) fun i hii => ?_
 simp only [List.take_length,maskFr,List.set_cons_zero,List.set_cons_succ,mkb]
 refine ex_region_w tt_ok 19 (rp 9 0 [2]) [] rfl rfl fun K hK => ?_
 simp only [ltb,go_sem,reduceLT]
 refine hK _ _ rfl ?_
 simp only [mwb,reduceAdd]
 refine ex_seq ?_
 refine ex_if rfl (fun hc9 => ?_) (fun hc9 => ?_)
 ·have hlti : i < (ls.length) := by simpa using hc9
  refine ex_skip ?_
  show Go.Eng.Ex _ _ _ _ _ _
  refine ex_seq ?_
  refine ex_block ?_
  refine ex_region_w tt_ok 19 [0,0,0,0,0,2,0,0,0,0,1] [] rfl rfl fun K hK => ?_
  simp only [ltb,go_sem,reduceLT]
  refine hK _ _ rfl ?_
  simp only [mwb,reduceAdd,reduceEqDiff]
  refine ex_region_w tt_ok 19 (rp 11 0 [1,1,1,1,1,2]) [] rfl rfl fun K hK => ?_
  refine runX_cut 3 fun K1 hK1 => ?_
  simp only [ltb,go_sem,reduceLT,reduceEqDiff,reduceCtorEq]
  refine hK1 _ ?_
  obtain ⟨x, hx⟩ : ∃ x, ls[i]? = some x := ⟨_, List.getElem?_eq_getElem hlti⟩
  try simp only [ltb]
  simp only [List.getElem?_map,hx,encLb,tyCells,go_sem,reduceAdd,reduceLT,reduceEqDiff]
  refine callS_ex (by have h := hg x; simp only [ltb,encLb,tyCells] at h; exact h) ?_
  rintro _ ⟨r1, rfl⟩
  try simp only [go_sem]
  refine hK _ _ rfl ?_
  simp only [mwb,reduceAdd,reduceEqDiff]
  refine ex_if rfl (fun hc16 => ?_) (fun hc16 => ?_)
  ·refine ex_region_w tt_ok 19 (0::0::0::0::2::(rp 12 0 [1])) [] rfl rfl fun K hK => ?_
   simp only [ltb,go_sem,reduceLT]
   refine hK _ _ rfl ?_
   simp only [mwb,reduceAdd,reduceEqDiff]
   exact ex_ret ⟨.inl rfl, _, ⟨_, rfl⟩, rfl, rfl, List.take_length⟩
  ·refine ex_skip ?_
   show Go.Eng.Ex _ _ _ _ _ _
   refine ex_last_region_w tt_ok 19 (rp 8 0 (2::(rp 9 0 [2]))) [] (by kernel_rfl) rfl rfl fun K hK => ?_
   simp only [ltb,go_sem,reduceLT]
   refine hK _ _ rfl ?_
   simp only [mwb,reduceAdd,reduceEqDiff]
   have hwi := i64_succ i (by omega)
   refine ⟨hlti, m.length, [true,true,false,false,true,false,false,true,true], by omega, by simp only [hk,maskFr,belowV,belowL,mkb], by simp only [List.take_length,hm], ?_⟩
   simp only [hwi,List.take_length,maskFr,mkb]
 ·have hgei : ¬ i < (ls.length) := by simpa using hc9
  refine ex_exit ?_
  show Go.Eng.Ex _ _ _ _ _ _
  refine ex_region_w tt_ok 19 [0,0,0,0,2] [] rfl rfl fun K hK => ?_
  simp only [ltb,go_sem]
  refine hK _ _ rfl ?_
  simp only [mwb,reduceAdd]
  exact ex_ret ⟨.inl rfl, _, ⟨_, rfl⟩, rfl, rfl, List.take_length⟩
theorem containsLb_tot (m : List Blk) (hm : m.all (belowB m.length) = true) (g : FuncId) (k : Nat) (hk : k < m.length) (ls : List Lb) (hg : ∀ l : Lb, ∃ r, isB r ∧ FnOkS Tryz.prog g [encLb l, .ptr k 0] m r m) (hl : ls.length ≤ 1048576) : ∃ r, isB r ∧ FnOkS Tryz.prog 154 [.slice (ls.map encLb), .clo (.func g) [] [.ptr k 0]] (m) r (m) := by
 refine fns_ex tt_ok (fn := Tryz.f154) Tryz.func154 rfl Tryz.call154 (hm) ?_
 simp only [ltb,startSt,Tryz.ntmps154,List.length_cons,List.length_nil,reduceAdd,reduceSub,List.replicate_succ,List.replicate_zero]
 refine ex_region_w tt_ok 9 [0,0,0,0,2] [] rfl rfl fun K hK => ?_
 simp only [ltb,go_sem]
 refine hK _ _ rfl ?_
 simp only [mwb,reduceAdd]
 refine ex_region_w tt_ok 9 [0,0,0,0,2,1,1,1,1] [] rfl rfl fun K hK => ?_
 refine runX_cut 3 fun K1 hK1 => ?_
 simp only [ltb,go_sem,reduceLT,reduceEqDiff]
 refine callS_ex (idxLb_tot m hm g k hk ls hg hl) ?_
 rintro _ ⟨r1, rfl⟩
 try simp only [go_sem]
 refine hK1 _ ?_
 simp only [ltb,go_sem,reduceLT,reduceEqDiff]
 refine hK _ _ rfl ?_
 simp only [mwb,reduceAdd,reduceEqDiff]
 exact ex_ret ⟨.inl rfl, _, ⟨_, rfl⟩, rfl, rfl, List.take_length⟩
end Go.Proofs.YtpjdfcigadnhcaaGreatDoor
end

section
namespace Go.Proofs.YtpjdfcigadnhcaaGreatDoor
open Go.Eng
open Nat (reduceAdd reduceLT reduceLeDiff reduceMul reduceEqDiff reduceSub)
variable [Glob]
set_option maxHeartbeats 4000000
set_option maxRecDepth 100000
attribute [local irreducible] runM stepM valD stepOp stepD callF callS
theorem fits2_tot (hG : Glob.g = some 0) (b0 : Blk) (hb0 : ∀ n, 3 ≤ n → belowB n b0 = true) (fl : ByteArray) (ty kd : Int) (lb : Bool) (hf : fl.size ≤ 1048576) (l : Lb) : ∃ r, isB r ∧ FnOkS Tryz.prog 155 [encLb l, .ptr 2 0] ([b0, .box [str fl, num ty, bl lb, num kd], .box [.clo (.func 151) [] [.ptr 1 0]]]) r ([b0, .box [str fl, num ty, bl lb, num kd], .box [.clo (.func 151) [] [.ptr 1 0]]]) := by
 refine fns_ex tt_ok (fn := Tryz.f155) Tryz.func155 rfl Tryz.call155 (by simp only [List.all_cons,List.all_nil,bB_box,belowV,belowL,List.length_cons,List.length_nil,reduceAdd,reduceLT,decide_true,Bool.and_self,hb0,reduceLeDiff]) ?_
 simp only [ltb,startSt,Tryz.ntmps155,List.length_cons,List.length_nil,reduceAdd,reduceSub,List.replicate_succ,List.replicate_zero]
 simp only [ltb,encLb,tyCells]
 refine ex_region_w tt_ok 32 [0,0,2,2] [] rfl rfl fun K hK => ?_
 simp only [ltb,go_sem,reduceAdd,reduceLT]
 refine hK _ _ rfl ?_
 simp only [mwb,reduceAdd,reduceEqDiff]
 refine ex_region_w tt_ok 32 (0::0::0::2::(rp 28 1 [])) [(3, 7), (8, 12), (13, 17), (19, 23), (22, 26)] rfl rfl fun K hK => ?_
 refine runX_cut 4 fun K1 hK1 => ?_
 simp only [ltb,go_sem,reduceAdd,reduceLT,reduceLeDiff,reduceEqDiff]
 refine hK1 _ ?_
 refine runX_case 7 (by rfl) fun b hb1_3 => ?_
 cases b
 ·refine runX_cut 8 fun K1 hK1 => ?_
  simp only [ltb,go_sem,reduceAdd,reduceLT,reduceLeDiff,reduceEqDiff]
  refine callF_ex (by have h := zeroType_tot l.ty; rw [encTy_eq] at h; exact h) ?_
  rintro _ ⟨r1, rfl⟩
  try simp only [go_sem]
  refine hK1 _ ?_
  refine runX_cut 2 fun K1 hK1 => ?_
  simp only [ltb,go_sem,reduceAdd,reduceLT,reduceEqDiff]
  refine hK1 _ ?_
  refine runX_case 17 (by rfl) fun b hb1_13 => ?_
  cases b
  ·refine runX_cut 8 fun K1 hK1 => ?_
   simp only [ltb,go_sem,reduceAdd,reduceLT,reduceEqDiff]
   refine hK1 _ ?_
   refine runX_cut 1 fun K1 hK1 => ?_
   simp only [ltb,go_sem,reduceAdd,reduceLT,reduceEqDiff]
   refine hK1 _ ?_
   refine runX_case 26 (by rfl) fun b hb1_22 => ?_
   cases b
   ·simp only [ltb,go_sem,reduceAdd,reduceLT,reduceEqDiff]
    refine hK _ _ rfl ?_
    simp only [mwb,reduceAdd,reduceEqDiff]
    exact ex_ret ⟨.inl rfl, _, ⟨_, rfl⟩, rfl, rfl, rfl⟩
   ·refine runX_cut 2 fun K1 hK1 => ?_
    simp only [ltb,go_sem,reduceAdd,reduceLT,reduceEqDiff]
    refine callS_ex (has_tot hG _ (by simp only [List.all_cons,List.all_nil,bB_box,belowV,belowL,List.length_cons,List.length_nil,reduceAdd,reduceLT,decide_true,Bool.and_self,hb0,reduceLeDiff]) 1 fl ty kd lb rfl _ (by decide) hf) ?_
    rintro _ ⟨r2, rfl⟩
    try simp only [go_sem]
    refine hK1 _ ?_
    simp only [ltb,go_sem,reduceAdd,reduceLT,reduceEqDiff]
    refine hK _ _ rfl ?_
    simp only [mwb,reduceAdd,reduceEqDiff]
    exact ex_ret ⟨.inl rfl, _, ⟨_, rfl⟩, rfl, rfl, rfl⟩
  ·refine runX_cut 2 fun K1 hK1 => ?_
   simp only [ltb,go_sem,reduceAdd,reduceLT,reduceEqDiff]
   refine callS_ex (has_tot hG _ (by simp only [List.all_cons,List.all_nil,bB_box,belowV,belowL,List.length_cons,List.length_nil,reduceAdd,reduceLT,decide_true,Bool.and_self,hb0,reduceLeDiff]) 1 fl ty kd lb rfl _ (by decide) hf) ?_
   rintro _ ⟨r3, rfl⟩
   try simp only [go_sem]
   refine hK1 _ ?_
   refine runX_cut 4 fun K1 hK1 => ?_
   simp only [ltb,go_sem,reduceAdd,reduceLT,reduceEqDiff]
   refine hK1 _ ?_
   refine runX_case 23 (by rfl) fun b hb1_19 => ?_
   cases b
   ·refine runX_cut 3 fun K1 hK1 => ?_
    simp only [ltb,go_sem,reduceAdd,reduceLT,reduceEqDiff]
    refine hK1 _ ?_
    refine runX_case 26 (by rfl) fun b hb1_22 => ?_
    cases b
    ·simp only [ltb,go_sem,reduceAdd,reduceLT,reduceEqDiff]
     refine hK _ _ rfl ?_
     simp only [mwb,reduceAdd,reduceEqDiff]
     exact ex_ret ⟨.inl rfl, _, ⟨_, rfl⟩, rfl, rfl, rfl⟩
    ·refine runX_cut 2 fun K1 hK1 => ?_
     simp only [ltb,go_sem,reduceAdd,reduceLT,reduceEqDiff]
     refine callS_ex (has_tot hG _ (by simp only [List.all_cons,List.all_nil,bB_box,belowV,belowL,List.length_cons,List.length_nil,reduceAdd,reduceLT,decide_true,Bool.and_self,hb0,reduceLeDiff]) 1 fl ty kd lb rfl _ (by decide) hf) ?_
     rintro _ ⟨r4, rfl⟩
     try simp only [go_sem]
     refine hK1 _ ?_
     simp only [ltb,go_sem,reduceAdd,reduceLT,reduceEqDiff]
     refine hK _ _ rfl ?_
     simp only [mwb,reduceAdd,reduceEqDiff]
     exact ex_ret ⟨.inl rfl, _, ⟨_, rfl⟩, rfl, rfl, rfl⟩
   ·refine runX_cut 8 fun K1 hK1 => ?_
    simp only [ltb,go_sem,reduceAdd,reduceLT,reduceEqDiff]
    refine hK1 _ ?_
    simp only [ltb,go_sem,reduceAdd,reduceLT,reduceEqDiff]
    refine hK _ _ rfl ?_
    simp only [mwb,reduceAdd,reduceEqDiff]
    exact ex_ret ⟨.inl rfl, _, ⟨_, rfl⟩, rfl, rfl, rfl⟩
 ·refine runX_cut 2 fun K1 hK1 => ?_
  simp only [ltb,go_sem,reduceAdd,reduceLT,reduceEqDiff]
  refine callS_ex (has_tot hG _ (by simp only [List.all_cons,List.all_nil,bB_box,belowV,belowL,List.length_cons,List.length_nil,reduceAdd,reduceLT,decide_true,Bool.and_self,hb0,reduceLeDiff]) 1 fl ty kd lb rfl _ (by decide) hf) ?_
  rintro _ ⟨r5, rfl⟩
  try simp only [go_sem]
  refine hK1 _ ?_
  refine runX_cut 3 fun K1 hK1 => ?_
  simp only [ltb,go_sem,reduceAdd,reduceLT,reduceEqDiff]
  refine hK1 _ ?_
  refine runX_case 12 (by rfl) fun b hb1_8 => ?_
  cases b
  ·refine runX_cut 3 fun K1 hK1 => ?_
   simp only [ltb,go_sem,reduceAdd,reduceLT,reduceLeDiff,reduceEqDiff]
   refine callF_ex (by have h := zeroType_tot l.ty; rw [encTy_eq] at h; exact h) ?_
   rintro _ ⟨r6, rfl⟩
   try simp only [go_sem]
   refine hK1 _ ?_
   refine runX_cut 2 fun K1 hK1 => ?_
   simp only [ltb,go_sem,reduceAdd,reduceLT,reduceEqDiff]
   refine hK1 _ ?_
   refine runX_case 17 (by rfl) fun b hb1_13 => ?_
   cases b
   ·refine runX_cut 8 fun K1 hK1 => ?_
    simp only [ltb,go_sem,reduceAdd,reduceLT,reduceEqDiff]
    refine hK1 _ ?_
    refine runX_cut 1 fun K1 hK1 => ?_
    simp only [ltb,go_sem,reduceAdd,reduceLT,reduceEqDiff]
    refine hK1 _ ?_
    refine runX_case 26 (by rfl) fun b hb1_22 => ?_
    cases b
    ·simp only [ltb,go_sem,reduceAdd,reduceLT,reduceEqDiff]
     refine hK _ _ rfl ?_
     simp only [mwb,reduceAdd,reduceEqDiff]
     exact ex_ret ⟨.inl rfl, _, ⟨_, rfl⟩, rfl, rfl, rfl⟩
    ·refine runX_cut 2 fun K1 hK1 => ?_
     simp only [ltb,go_sem,reduceAdd,reduceLT,reduceEqDiff]
     refine callS_ex (has_tot hG _ (by simp only [List.all_cons,List.all_nil,bB_box,belowV,belowL,List.length_cons,List.length_nil,reduceAdd,reduceLT,decide_true,Bool.and_self,hb0,reduceLeDiff]) 1 fl ty kd lb rfl _ (by decide) hf) ?_
     rintro _ ⟨r7, rfl⟩
     try simp only [go_sem]
     refine hK1 _ ?_
     simp only [ltb,go_sem,reduceAdd,reduceLT,reduceEqDiff]
     refine hK _ _ rfl ?_
     simp only [mwb,reduceAdd,reduceEqDiff]
     exact ex_ret ⟨.inl rfl, _, ⟨_, rfl⟩, rfl, rfl, rfl⟩
   ·refine runX_cut 2 fun K1 hK1 => ?_
    simp only [ltb,go_sem,reduceAdd,reduceLT,reduceEqDiff]
    refine callS_ex (has_tot hG _ (by simp only [List.all_cons,List.all_nil,bB_box,belowV,belowL,List.length_cons,List.length_nil,reduceAdd,reduceLT,decide_true,Bool.and_self,hb0,reduceLeDiff]) 1 fl ty kd lb rfl _ (by decide) hf) ?_
    rintro _ ⟨r8, rfl⟩
    try simp only [go_sem]
    refine hK1 _ ?_
    refine runX_cut 4 fun K1 hK1 => ?_
    simp only [ltb,go_sem,reduceAdd,reduceLT,reduceEqDiff]
    refine hK1 _ ?_
    refine runX_case 23 (by rfl) fun b hb1_19 => ?_
    cases b
    ·refine runX_cut 3 fun K1 hK1 => ?_
     simp only [ltb,go_sem,reduceAdd,reduceLT,reduceEqDiff]
     refine hK1 _ ?_
     refine runX_case 26 (by rfl) fun b hb1_22 => ?_
     cases b
     ·simp only [ltb,go_sem,reduceAdd,reduceLT,reduceEqDiff]
      refine hK _ _ rfl ?_
      simp only [mwb,reduceAdd,reduceEqDiff]
      exact ex_ret ⟨.inl rfl, _, ⟨_, rfl⟩, rfl, rfl, rfl⟩
     ·refine runX_cut 2 fun K1 hK1 => ?_
      simp only [ltb,go_sem,reduceAdd,reduceLT,reduceEqDiff]
      refine callS_ex (has_tot hG _ (by simp only [List.all_cons,List.all_nil,bB_box,belowV,belowL,List.length_cons,List.length_nil,reduceAdd,reduceLT,decide_true,Bool.and_self,hb0,reduceLeDiff]) 1 fl ty kd lb rfl _ (by decide) hf) ?_
      rintro _ ⟨r9, rfl⟩
      try simp only [go_sem]
      refine hK1 _ ?_
      simp only [ltb,go_sem,reduceAdd,reduceLT,reduceEqDiff]
      refine hK _ _ rfl ?_
      simp only [mwb,reduceAdd,reduceEqDiff]
      exact ex_ret ⟨.inl rfl, _, ⟨_, rfl⟩, rfl, rfl, rfl⟩
    ·refine runX_cut 8 fun K1 hK1 => ?_
     simp only [ltb,go_sem,reduceAdd,reduceLT,reduceEqDiff]
     refine hK1 _ ?_
     simp only [ltb,go_sem,reduceAdd,reduceLT,reduceEqDiff]
     refine hK _ _ rfl ?_
     simp only [mwb,reduceAdd,reduceEqDiff]
     exact ex_ret ⟨.inl rfl, _, ⟨_, rfl⟩, rfl, rfl, rfl⟩
  ·refine runX_cut 8 fun K1 hK1 => ?_
   simp only [ltb,go_sem,reduceAdd,reduceLT,reduceEqDiff]
   refine hK1 _ ?_
   refine runX_cut 8 fun K1 hK1 => ?_
   simp only [ltb,go_sem,reduceAdd,reduceLT,reduceEqDiff]
   refine hK1 _ ?_
   simp only [ltb,go_sem,reduceAdd,reduceLT,reduceEqDiff]
   refine hK _ _ rfl ?_
   simp only [mwb,reduceAdd,reduceEqDiff]
   exact ex_ret ⟨.inl rfl, _, ⟨_, rfl⟩, rfl, rfl, rfl⟩
theorem misnamed2_tot (hG : Glob.g = some 0) (b0 : Blk) (hb0 : ∀ n, 3 ≤ n → belowB n b0 = true) (fl : ByteArray) (ty kd : Int) (lb : Bool) (hf : fl.size ≤ 1048576) (l : Lb) : ∃ r, isB r ∧ FnOkS Tryz.prog 158 [encLb l, .ptr 2 0] ([b0, .box [str fl, num ty, bl lb, num kd], .box [.clo (.func 157) [] [.ptr 1 0]]]) r ([b0, .box [str fl, num ty, bl lb, num kd], .box [.clo (.func 157) [] [.ptr 1 0]]]) := by
 refine fns_ex tt_ok (fn := Tryz.f158) Tryz.func158 rfl Tryz.call158 (by simp only [List.all_cons,List.all_nil,bB_box,belowV,belowL,List.length_cons,List.length_nil,reduceAdd,reduceLT,decide_true,Bool.and_self,hb0,reduceLeDiff]) ?_
 simp only [ltb,startSt,Tryz.ntmps158,List.length_cons,List.length_nil,reduceAdd,reduceSub,List.replicate_succ,List.replicate_zero]
 simp only [ltb,encLb,tyCells]
 refine ex_region_w tt_ok 18 [0,0,2,2] [] rfl rfl fun K hK => ?_
 simp only [ltb,go_sem,reduceAdd,reduceLT]
 refine hK _ _ rfl ?_
 simp only [mwb,reduceAdd,reduceEqDiff]
 refine ex_region_w tt_ok 18 (0::0::0::2::(rp 14 1 [])) [(4, 8), (7, 11)] rfl rfl fun K hK => ?_
 refine runX_cut 3 fun K1 hK1 => ?_
 simp only [ltb,go_sem,reduceAdd,reduceLT,reduceLeDiff,reduceEqDiff]
 refine callF_ex (isName_tot hG _) ?_
 rintro _ ⟨r1, rfl⟩
 try simp only [go_sem]
 refine hK1 _ ?_
 refine runX_cut 2 fun K1 hK1 => ?_
 simp only [ltb,go_sem,reduceAdd,reduceLT,reduceEqDiff]
 refine hK1 _ ?_
 refine runX_case 8 (by rfl) fun b hb1_4 => ?_
 cases b
 ·refine runX_cut 2 fun K1 hK1 => ?_
  simp only [ltb,go_sem,reduceAdd,reduceLT,reduceEqDiff]
  refine callS_ex (has2_tot hG _ (by simp only [List.all_cons,List.all_nil,bB_box,belowV,belowL,List.length_cons,List.length_nil,reduceAdd,reduceLT,decide_true,Bool.and_self,hb0,reduceLeDiff]) 1 fl ty kd lb rfl _ (by decide) hf) ?_
  rintro _ ⟨r2, rfl⟩
  try simp only [go_sem]
  refine hK1 _ ?_
  refine runX_cut 1 fun K1 hK1 => ?_
  simp only [ltb,go_sem,reduceAdd,reduceLT,reduceEqDiff]
  refine hK1 _ ?_
  refine runX_case 11 (by rfl) fun b hb1_7 => ?_
  cases b
  ·simp only [ltb,go_sem,reduceAdd,reduceLT,reduceEqDiff]
   refine hK _ _ rfl ?_
   simp only [mwb,reduceAdd,reduceEqDiff]
   exact ex_ret ⟨.inl rfl, _, ⟨_, rfl⟩, rfl, rfl, rfl⟩
  ·refine runX_cut 3 fun K1 hK1 => ?_
   simp only [ltb,go_sem,reduceAdd,reduceLT,reduceLeDiff,reduceEqDiff]
   refine callF_ex (isName_tot hG _) ?_
   rintro _ ⟨r3, rfl⟩
   try simp only [go_sem]
   refine hK1 _ ?_
   simp only [ltb,go_sem,reduceAdd,reduceLT,reduceEqDiff]
   refine hK _ _ rfl ?_
   simp only [mwb,reduceAdd,reduceEqDiff]
   exact ex_ret ⟨.inl rfl, _, ⟨_, rfl⟩, rfl, rfl, rfl⟩
 ·refine runX_cut 8 fun K1 hK1 => ?_
  simp only [ltb,go_sem,reduceAdd,reduceLT,reduceLeDiff,reduceEqDiff]
  refine hK1 _ ?_
  simp only [ltb,go_sem,reduceAdd,reduceLT,reduceEqDiff]
  refine hK _ _ rfl ?_
  simp only [mwb,reduceAdd,reduceEqDiff]
  exact ex_ret ⟨.inl rfl, _, ⟨_, rfl⟩, rfl, rfl, rfl⟩
end Go.Proofs.YtpjdfcigadnhcaaGreatDoor
end

section
namespace Go.Proofs.YtpjdfcigadnhcaaGreatDoor
open Go.Eng
open Nat (reduceAdd reduceLT reduceLeDiff reduceMul reduceEqDiff reduceSub)
variable [Glob]
set_option maxHeartbeats 4000000
set_option maxRecDepth 100000
attribute [local irreducible] runM stepM valD stepOp stepD callF
theorem typeNode_tot (hG : Glob.g = some 0) (t : Ty) (hl : t.flds.length ≤ 1048576) (hm : t.mod.size ≤ 1048575) : ∃ r, isN r ∧ FnOk Tryz.prog 56 [encTy t] r := by
 refine fn_ex tt_ok (fn := Tryz.f56) Tryz.func56 rfl Tryz.call56 ?_
 simp only [ltb,startSt,Tryz.ntmps56,List.length_cons,List.length_nil,reduceAdd,reduceSub,List.replicate_succ,List.replicate_zero]
 simp only [encTy_eq,tyCells]
 have hS := shaped_tot t hl
 rw [encTy_eq] at hS
 simp only [tyCells] at hS
 refine ex_region_w tt_ok 50 [0,2,2] [] rfl rfl fun K hK => ?_
 simp only [ltb,go_sem,reduceLT]
 refine hK _ _ rfl ?_
 simp only [mwb,reduceAdd,reduceEqDiff]
 refine ex_seq ?_
 refine ex_block ?_
 refine ex_region_w tt_ok 50 [0,0,0,2,1,1,1] [] rfl rfl fun K hK => ?_
 refine runX_cut 2 fun K1 hK1 => ?_
 simp only [ltb,go_sem,reduceAdd,reduceLT]
 refine callF_ex (hS) ?_
 rintro _ ⟨r1, rfl⟩
 try simp only [go_sem]
 refine hK1 _ ?_
 simp only [ltb,go_sem,reduceLT,reduceEqDiff]
 refine hK _ _ rfl ?_
 simp only [mwb,reduceAdd,reduceEqDiff]
 refine ex_if rfl (fun hc3 => ?_) (fun hc3 => ?_)
 ·refine ex_region_w tt_ok 50 [0,0,2] [] rfl rfl fun K hK => ?_
  simp only [ltb,go_sem]
  refine hK _ _ rfl ?_
  simp only [mwb,reduceAdd]
  exact ex_ret ⟨.inl rfl, _, ⟨_, rfl⟩, rfl⟩
 ·refine ex_region_w tt_ok 50 [0,0,0,0,0,0,0,2,1,1,1,1,1,1,1,1,1,1] [(4, 12)] rfl rfl fun K hK => ?_
  refine runX_cut 5 fun K1 hK1 => ?_
  simp only [ltb]
  simp only [length_encFds,go_sem,reduceLT,reduceEqDiff]
  refine hK1 _ ?_
  refine runX_case 12 (by rfl) fun b hb3_4 => ?_
  cases b
  ·try simp only [ltb]
   simp only [length_encTys,go_sem,reduceAdd,reduceLT,reduceLeDiff,reduceEqDiff]
   refine hK _ _ rfl ?_
   simp only [mwb,reduceAdd,reduceEqDiff]
   refine ex_if rfl (fun hc7 => ?_) (fun hc7 => ?_)
   ·refine ex_region_w tt_ok 50 [0,0,2] [] rfl rfl fun K hK => ?_
    simp only [ltb,go_sem]
    refine hK _ _ rfl ?_
    simp only [mwb,reduceAdd]
    exact ex_ret ⟨.inl rfl, _, ⟨_, rfl⟩, rfl⟩
   ·refine ex_seq ?_
    refine ex_region_w tt_ok 50 (rp 18 0 (2::(rp 9 1 []))) [(3, 22)] rfl rfl fun K hK => ?_
    refine runX_cut 4 fun K1 hK1 => ?_
    simp only [ltb,go_sem,reduceAdd,reduceLT,reduceLeDiff,reduceEqDiff]
    refine hK1 _ ?_
    refine runX_case 22 (by rfl) fun b hb5_3 => ?_
    cases b
    ·simp only [ltb,go_sem,reduceLT,reduceEqDiff]
     refine hK _ _ rfl ?_
     simp only [mwb,reduceAdd,reduceEqDiff]
     refine ex_cond rfl ?_
     refine ex_last_region_w tt_ok 50 (rp 18 0 (2::(rp 9 0 (rp 15 2 [])))) [(3, 31), (8, 36)] (by kernel_rfl) rfl rfl fun K hK => ?_
     refine runX_cut 4 fun K1 hK1 => ?_
     simp only [ltb,go_sem,reduceAdd,reduceLT,reduceLeDiff,reduceEqDiff]
     refine hK1 _ ?_
     refine runX_case 31 (by rfl) fun b hb6_3 => ?_
     cases b
     ·refine runX_cut 8 fun K1 hK1 => ?_
      simp only [ltb,go_sem,reduceAdd,reduceLT,reduceLeDiff,reduceEqDiff]
      refine hK1 _ ?_
      simp only [ltb,go_sem,reduceLT,reduceEqDiff]
      refine hK _ _ rfl ?_
      simp only [mwb,reduceAdd,reduceEqDiff]
      show Go.Eng.Ex _ _ _ _ _ _
      refine ex_cond rfl ?_
      refine ex_region_w tt_ok 50 (rp 43 0 [2,1,1,1]) [] rfl rfl fun K hK => ?_
      refine runX_cut 3 fun K1 hK1 => ?_
      simp only [ltb,go_sem,reduceLT,reduceEqDiff]
      refine callF_ex (containsFd_tot 98 t.flds (tnode1_tot hG) hl) ?_
      rintro _ ⟨r2, rfl⟩
      try simp only [go_sem]
      refine hK1 _ ?_
      simp only [ltb,go_sem,reduceLT,reduceEqDiff]
      refine hK _ _ rfl ?_
      simp only [mwb,reduceAdd,reduceEqDiff]
      refine ex_if rfl (fun hc43 => ?_) (fun hc43 => ?_)
      ·refine ex_region_w tt_ok 50 [0,0,2] [] rfl rfl fun K hK => ?_
       simp only [ltb,go_sem]
       refine hK _ _ rfl ?_
       simp only [mwb,reduceAdd]
       exact ex_ret ⟨.inl rfl, _, ⟨_, rfl⟩, rfl⟩
      ·refine ex_skip ?_
       show Go.Eng.Ex _ _ _ _ _ _
       refine ex_region_w tt_ok 50 (0::0::2::(rp 44 0 [1,1,1])) [] rfl rfl fun K hK => ?_
       refine runX_cut 3 fun K1 hK1 => ?_
       simp only [ltb,go_sem,reduceLT,reduceEqDiff]
       refine callF_ex (increaseFd_tot 101 t.flds (fun f => let ⟨r, h1, h2⟩ := tnode2_tot f; ⟨r, ⟨_, h1⟩, h2⟩) hl) ?_
       rintro _ ⟨r3, rfl⟩
       try simp only [go_sem]
       refine hK1 _ ?_
       simp only [ltb,go_sem,reduceLT,reduceEqDiff]
       refine hK _ _ rfl ?_
       simp only [mwb,reduceAdd,reduceEqDiff]
       exact ex_ret ⟨.inl rfl, _, ⟨_, rfl⟩, rfl⟩
     ·refine runX_cut 3 fun K1 hK1 => ?_
      simp only [ltb,go_sem,reduceAdd,reduceLT,reduceLeDiff,reduceEqDiff]
      refine callF_ex (module_tot hG t.mod hm) ?_
      rintro _ ⟨r4, rfl⟩
      try simp only [go_sem]
      refine hK1 _ ?_
      refine runX_cut 2 fun K1 hK1 => ?_
      simp only [ltb,go_sem,reduceLT,reduceEqDiff]
      refine hK1 _ ?_
      refine runX_case 36 (by rfl) fun b hb6_8 => ?_
      cases b
      ·refine runX_cut 3 fun K1 hK1 => ?_
       simp only [ltb,go_sem,reduceAdd,reduceLT,reduceLeDiff,reduceEqDiff]
       refine callF_ex (isType_tot _) ?_
       rintro _ ⟨r5, rfl⟩
       try simp only [go_sem]
       refine hK1 _ ?_
       simp only [ltb,go_sem,reduceLT,reduceEqDiff]
       refine hK _ _ rfl ?_
       simp only [mwb,reduceAdd,reduceEqDiff]
       show Go.Eng.Ex _ _ _ _ _ _
       refine ex_if rfl (fun hc18 => ?_) (fun hc18 => ?_)
       ·refine ex_region_w tt_ok 50 [0,0,2] [] rfl rfl fun K hK => ?_
        simp only [ltb,go_sem]
        refine hK _ _ rfl ?_
        simp only [mwb,reduceAdd]
        exact ex_ret ⟨.inl rfl, _, ⟨_, rfl⟩, rfl⟩
       ·refine ex_region_w tt_ok 50 (rp 43 0 [2,1,1,1]) [] rfl rfl fun K hK => ?_
        refine runX_cut 3 fun K1 hK1 => ?_
        simp only [ltb,go_sem,reduceLT,reduceEqDiff]
        refine callF_ex (containsFd_tot 98 t.flds (tnode1_tot hG) hl) ?_
        rintro _ ⟨r6, rfl⟩
        try simp only [go_sem]
        refine hK1 _ ?_
        simp only [ltb,go_sem,reduceLT,reduceEqDiff]
        refine hK _ _ rfl ?_
        simp only [mwb,reduceAdd,reduceEqDiff]
        refine ex_if rfl (fun hc43 => ?_) (fun hc43 => ?_)
        ·refine ex_region_w tt_ok 50 [0,0,2] [] rfl rfl fun K hK => ?_
         simp only [ltb,go_sem]
         refine hK _ _ rfl ?_
         simp only [mwb,reduceAdd]
         exact ex_ret ⟨.inl rfl, _, ⟨_, rfl⟩, rfl⟩
        ·refine ex_skip ?_
         show Go.Eng.Ex _ _ _ _ _ _
         refine ex_region_w tt_ok 50 (0::0::2::(rp 44 0 [1,1,1])) [] rfl rfl fun K hK => ?_
         refine runX_cut 3 fun K1 hK1 => ?_
         simp only [ltb,go_sem,reduceLT,reduceEqDiff]
         refine callF_ex (increaseFd_tot 101 t.flds (fun f => let ⟨r, h1, h2⟩ := tnode2_tot f; ⟨r, ⟨_, h1⟩, h2⟩) hl) ?_
         rintro _ ⟨r7, rfl⟩
         try simp only [go_sem]
         refine hK1 _ ?_
         simp only [ltb,go_sem,reduceLT,reduceEqDiff]
         refine hK _ _ rfl ?_
         simp only [mwb,reduceAdd,reduceEqDiff]
         exact ex_ret ⟨.inl rfl, _, ⟨_, rfl⟩, rfl⟩
      ·simp only [ltb,go_sem,reduceLT,reduceEqDiff]
       refine hK _ _ rfl ?_
       simp only [mwb,reduceAdd,reduceEqDiff]
       show Go.Eng.Ex _ _ _ _ _ _
       refine ex_cond rfl ?_
       refine ex_region_w tt_ok 50 [0,0,2] [] rfl rfl fun K hK => ?_
       simp only [ltb,go_sem]
       refine hK _ _ rfl ?_
       simp only [mwb,reduceAdd]
       exact ex_ret ⟨.inl rfl, _, ⟨_, rfl⟩, rfl⟩
    ·refine runX_cut 3 fun K1 hK1 => ?_
     simp only [ltb,go_sem,reduceAdd,reduceLT,reduceLeDiff,reduceEqDiff]
     refine callF_ex (variable_tot _) ?_
     rintro _ ⟨r8, rfl⟩
     try simp only [go_sem]
     refine hK1 _ ?_
     simp only [ltb,go_sem,reduceLT,reduceEqDiff]
     refine hK _ _ rfl ?_
     simp only [mwb,reduceAdd,reduceEqDiff]
     refine ex_if rfl (fun hc18 => ?_) (fun hc18 => ?_)
     ·refine ex_skip ?_
      show Go.Eng.Ex _ _ _ _ _ _
      refine ex_cond (b := true) (congrArg (fun b => V.sc (Value.bool b)) hc18) ?_
      refine ex_region_w tt_ok 50 [0,0,2] [] rfl rfl fun K hK => ?_
      simp only [ltb,go_sem]
      refine hK _ _ rfl ?_
      simp only [mwb,reduceAdd]
      exact ex_ret ⟨.inl rfl, _, ⟨_, rfl⟩, rfl⟩
     ·refine ex_last_region_w tt_ok 50 (rp 18 0 (2::(rp 9 0 (rp 15 2 [])))) [(3, 31), (8, 36)] (by kernel_rfl) rfl rfl fun K hK => ?_
      refine runX_cut 4 fun K1 hK1 => ?_
      simp only [ltb,go_sem,reduceAdd,reduceLT,reduceLeDiff,reduceEqDiff]
      refine hK1 _ ?_
      refine runX_case 31 (by rfl) fun b hb6_3 => ?_
      cases b
      ·refine runX_cut 8 fun K1 hK1 => ?_
       simp only [ltb,go_sem,reduceAdd,reduceLT,reduceLeDiff,reduceEqDiff]
       refine hK1 _ ?_
       simp only [ltb,go_sem,reduceLT,reduceEqDiff]
       refine hK _ _ rfl ?_
       simp only [mwb,reduceAdd,reduceEqDiff]
       show Go.Eng.Ex _ _ _ _ _ _
       refine ex_cond rfl ?_
       refine ex_region_w tt_ok 50 (rp 43 0 [2,1,1,1]) [] rfl rfl fun K hK => ?_
       refine runX_cut 3 fun K1 hK1 => ?_
       simp only [ltb,go_sem,reduceLT,reduceEqDiff]
       refine callF_ex (containsFd_tot 98 t.flds (tnode1_tot hG) hl) ?_
       rintro _ ⟨r9, rfl⟩
       try simp only [go_sem]
       refine hK1 _ ?_
       simp only [ltb,go_sem,reduceLT,reduceEqDiff]
       refine hK _ _ rfl ?_
       simp only [mwb,reduceAdd,reduceEqDiff]
       refine ex_if rfl (fun hc43 => ?_) (fun hc43 => ?_)
       ·refine ex_region_w tt_ok 50 [0,0,2] [] rfl rfl fun K hK => ?_
        simp only [ltb,go_sem]
        refine hK _ _ rfl ?_
        simp only [mwb,reduceAdd]
        exact ex_ret ⟨.inl rfl, _, ⟨_, rfl⟩, rfl⟩
       ·refine ex_skip ?_
        show Go.Eng.Ex _ _ _ _ _ _
        refine ex_region_w tt_ok 50 (0::0::2::(rp 44 0 [1,1,1])) [] rfl rfl fun K hK => ?_
        refine runX_cut 3 fun K1 hK1 => ?_
        simp only [ltb,go_sem,reduceLT,reduceEqDiff]
        refine callF_ex (increaseFd_tot 101 t.flds (fun f => let ⟨r, h1, h2⟩ := tnode2_tot f; ⟨r, ⟨_, h1⟩, h2⟩) hl) ?_
        rintro _ ⟨r10, rfl⟩
        try simp only [go_sem]
        refine hK1 _ ?_
        simp only [ltb,go_sem,reduceLT,reduceEqDiff]
        refine hK _ _ rfl ?_
        simp only [mwb,reduceAdd,reduceEqDiff]
        exact ex_ret ⟨.inl rfl, _, ⟨_, rfl⟩, rfl⟩
      ·refine runX_cut 3 fun K1 hK1 => ?_
       simp only [ltb,go_sem,reduceAdd,reduceLT,reduceLeDiff,reduceEqDiff]
       refine callF_ex (module_tot hG t.mod hm) ?_
       rintro _ ⟨r11, rfl⟩
       try simp only [go_sem]
       refine hK1 _ ?_
       refine runX_cut 2 fun K1 hK1 => ?_
       simp only [ltb,go_sem,reduceLT,reduceEqDiff]
       refine hK1 _ ?_
       refine runX_case 36 (by rfl) fun b hb6_8 => ?_
       cases b
       ·refine runX_cut 3 fun K1 hK1 => ?_
        simp only [ltb,go_sem,reduceAdd,reduceLT,reduceLeDiff,reduceEqDiff]
        refine callF_ex (isType_tot _) ?_
        rintro _ ⟨r12, rfl⟩
        try simp only [go_sem]
        refine hK1 _ ?_
        simp only [ltb,go_sem,reduceLT,reduceEqDiff]
        refine hK _ _ rfl ?_
        simp only [mwb,reduceAdd,reduceEqDiff]
        show Go.Eng.Ex _ _ _ _ _ _
        refine ex_if rfl (fun hc18 => ?_) (fun hc18 => ?_)
        ·refine ex_region_w tt_ok 50 [0,0,2] [] rfl rfl fun K hK => ?_
         simp only [ltb,go_sem]
         refine hK _ _ rfl ?_
         simp only [mwb,reduceAdd]
         exact ex_ret ⟨.inl rfl, _, ⟨_, rfl⟩, rfl⟩
        ·refine ex_region_w tt_ok 50 (rp 43 0 [2,1,1,1]) [] rfl rfl fun K hK => ?_
         refine runX_cut 3 fun K1 hK1 => ?_
         simp only [ltb,go_sem,reduceLT,reduceEqDiff]
         refine callF_ex (containsFd_tot 98 t.flds (tnode1_tot hG) hl) ?_
         rintro _ ⟨r13, rfl⟩
         try simp only [go_sem]
         refine hK1 _ ?_
         simp only [ltb,go_sem,reduceLT,reduceEqDiff]
         refine hK _ _ rfl ?_
         simp only [mwb,reduceAdd,reduceEqDiff]
         refine ex_if rfl (fun hc43 => ?_) (fun hc43 => ?_)
         ·refine ex_region_w tt_ok 50 [0,0,2] [] rfl rfl fun K hK => ?_
          simp only [ltb,go_sem]
          refine hK _ _ rfl ?_
          simp only [mwb,reduceAdd]
          exact ex_ret ⟨.inl rfl, _, ⟨_, rfl⟩, rfl⟩
         ·refine ex_skip ?_
          show Go.Eng.Ex _ _ _ _ _ _
          refine ex_region_w tt_ok 50 (0::0::2::(rp 44 0 [1,1,1])) [] rfl rfl fun K hK => ?_
          refine runX_cut 3 fun K1 hK1 => ?_
          simp only [ltb,go_sem,reduceLT,reduceEqDiff]
          refine callF_ex (increaseFd_tot 101 t.flds (fun f => let ⟨r, h1, h2⟩ := tnode2_tot f; ⟨r, ⟨_, h1⟩, h2⟩) hl) ?_
          rintro _ ⟨r14, rfl⟩
          try simp only [go_sem]
          refine hK1 _ ?_
          simp only [ltb,go_sem,reduceLT,reduceEqDiff]
          refine hK _ _ rfl ?_
          simp only [mwb,reduceAdd,reduceEqDiff]
          exact ex_ret ⟨.inl rfl, _, ⟨_, rfl⟩, rfl⟩
       ·simp only [ltb,go_sem,reduceLT,reduceEqDiff]
        refine hK _ _ rfl ?_
        simp only [mwb,reduceAdd,reduceEqDiff]
        show Go.Eng.Ex _ _ _ _ _ _
        refine ex_cond rfl ?_
        refine ex_region_w tt_ok 50 [0,0,2] [] rfl rfl fun K hK => ?_
        simp only [ltb,go_sem]
        refine hK _ _ rfl ?_
        simp only [mwb,reduceAdd]
        exact ex_ret ⟨.inl rfl, _, ⟨_, rfl⟩, rfl⟩
  ·simp only [ltb,go_sem,reduceLT,reduceEqDiff]
   refine hK _ _ rfl ?_
   simp only [mwb,reduceAdd,reduceEqDiff]
   refine ex_cond rfl ?_
   refine ex_region_w tt_ok 50 [0,0,2] [] rfl rfl fun K hK => ?_
   simp only [ltb,go_sem]
   refine hK _ _ rfl ?_
   simp only [mwb,reduceAdd]
   exact ex_ret ⟨.inl rfl, _, ⟨_, rfl⟩, rfl⟩
end Go.Proofs.YtpjdfcigadnhcaaGreatDoor
end

section
namespace Go.Proofs.YtpjdfcigadnhcaaGreatDoor
open Go.Eng
open Nat (reduceAdd reduceLT reduceLeDiff reduceMul reduceEqDiff reduceSub)
variable [Glob]
set_option maxHeartbeats 4000000
set_option maxRecDepth 100000
attribute [local irreducible] runM stepM valD stepOp stepD callF callS
theorem fits_tot (hG : Glob.g = some 0) (x : Ex) (fl : ByteArray) (ty kd : Int) (lb : Bool) (hf : fl.size ≤ 1048576) (hl : x.labels.length ≤ 1048576) : ∃ r, isB r ∧ FnOk Tryz.prog 102 [encEx x, .agg [str fl, num ty, bl lb, num kd]] r := by
 refine fn_ex tt_ok (fn := Tryz.f102) Tryz.func102 rfl Tryz.call102 ?_
 simp only [ltb,startSt,Tryz.ntmps102,List.length_cons,List.length_nil,reduceAdd,reduceSub,List.replicate_succ,List.replicate_zero]
 simp only [encEx_eq,exCells]
 refine ex_region_w tt_ok 100 [0,0,2,2,2] [] rfl rfl fun K hK => ?_
 simp only [ltb,go_sem,reduceLT,reduceEqDiff]
 refine hK _ _ rfl ?_
 simp only [mwb,reduceAdd,reduceEqDiff]
 refine ex_region_w tt_ok 100 [0,0,0,0,0,2,0,1] [] rfl rfl fun K hK => ?_
 simp only [ltb,go_sem,reduceAdd,reduceLT,reduceEqDiff]
 refine hK _ _ rfl ?_
 simp only [mwb,reduceAdd,reduceEqDiff]
 refine ex_region_w tt_ok 100 [0,0,0,0,0,0,2,0,1,1,1] [] rfl rfl fun K hK => ?_
 refine runX_cut 3 fun K1 hK1 => ?_
 simp only [ltb]
 simp only [tt134,go_sem,reduceAdd,reduceLT,reduceEqDiff]
 refine callF_ex (by have h := kids_tot x fl ty kd lb hl; rw [encEx_eq] at h; simp only [exCells] at h; exact h) ?_
 rintro _ ⟨r1, rfl⟩
 try simp only [go_sem]
 refine hK1 _ ?_
 simp only [ltb,go_sem,reduceAdd,reduceLT,reduceEqDiff]
 refine hK _ _ rfl ?_
 simp only [mwb,reduceAdd,reduceEqDiff]
 refine ex_seq ?_
 refine ex_block ?_
 refine ex_seq ?_
 refine ex_seq_joinK [11] 3 (rp 12 true []) (fun vs => ∃ b : Bool, vs = [bl b]) ?_ ?_
 ·refine ex_last_region_w tt_ok 100 (rp 11 0 (rp 9 2 [])) [(3, 15)] (by kernel_rfl) rfl rfl fun K hK => ?_
  refine runX_cut 4 fun K1 hK1 => ?_
  simp only [ltb,go_sem,reduceAdd,reduceLT,reduceLeDiff,reduceEqDiff]
  refine hK1 _ ?_
  refine runX_case 15 (by rfl) fun b hb3_3 => ?_
  cases b
  ·simp only [ltb,go_sem,reduceAdd,reduceLT,reduceEqDiff]
   refine hK _ _ rfl ?_
   simp only [mwb,reduceAdd,reduceEqDiff]
   refine ⟨[_], ?_, 3, (rp 12 true []), by omega, by simp only [maskFr,belowV,belowL,reduceLT,mkb], by simp only [List.all_cons,List.all_nil,belowV,belowL,belowB,reduceLT,decide_true,Bool.and_self,List.take_succ_cons,List.take_nil], by simp only [maskFr,putAll,List.set_cons_zero,List.set_cons_succ,mkb]; rfl⟩
   exact ⟨_, rfl⟩
  ·refine runX_cut 2 fun K1 hK1 => ?_
   simp only [ltb,go_sem,reduceAdd,reduceLT,reduceEqDiff]
   refine callS_ex (has_tot hG _ (rfl) 1 fl ty kd lb rfl _ (by decide) hf) ?_
   rintro _ ⟨r2, rfl⟩
   try simp only [go_sem]
   refine hK1 _ ?_
   simp only [ltb,go_sem,reduceAdd,reduceLT,reduceEqDiff]
   refine hK _ _ rfl ?_
   simp only [mwb,reduceAdd,reduceEqDiff]
   refine ⟨[_], ?_, 3, (rp 12 true []), by omega, by simp only [maskFr,belowV,belowL,reduceLT,mkb], by simp only [List.all_cons,List.all_nil,belowV,belowL,belowB,reduceLT,decide_true,Bool.and_self,List.take_succ_cons,List.take_nil], by simp only [maskFr,putAll,List.set_cons_zero,List.set_cons_succ,mkb]; rfl⟩
   exact ⟨_, rfl⟩
 ·intro vs hJ
  obtain ⟨b11, rfl⟩ := hJ
  simp only [maskFr,putAll,List.set_cons_zero,List.set_cons_succ,mkb]
  refine ex_if rfl (fun hc11 => ?_) (fun hc11 => ?_)
  ·refine ex_skip ?_
   show Go.Eng.Ex _ _ _ _ _ _
   refine ex_cond (b := true) (congrArg (fun b => V.sc (Value.bool b)) hc11) ?_
   refine ex_region_w tt_ok 100 [0,0,0,0,2] [] rfl rfl fun K hK => ?_
   simp only [ltb,go_sem,reduceAdd]
   refine hK _ _ rfl ?_
   simp only [mwb,reduceAdd]
   exact ex_ret ⟨.inl rfl, _, ⟨_, rfl⟩, rfl⟩
  ·refine ex_seq_joinK [11] 3 (rp 20 true []) (fun vs => ∃ b : Bool, vs = [bl b]) ?_ ?_
   ·refine ex_last_region_w tt_ok 100 (rp 11 0 (2::(rp 8 0 (rp 8 2 [])))) [(3, 23)] (by kernel_rfl) rfl rfl fun K hK => ?_
    refine runX_cut 4 fun K1 hK1 => ?_
    simp only [ltb,go_sem,reduceAdd,reduceLT,reduceLeDiff,reduceEqDiff]
    refine hK1 _ ?_
    refine runX_case 23 (by rfl) fun b hb4_3 => ?_
    cases b
    ·simp only [ltb,go_sem,reduceAdd,reduceLT,reduceEqDiff]
     refine hK _ _ rfl ?_
     simp only [mwb,reduceAdd,reduceEqDiff]
     refine ⟨[_], ?_, 3, (rp 20 true []), by omega, by simp only [maskFr,belowV,belowL,reduceLT,mkb], by simp only [List.all_cons,List.all_nil,belowV,belowL,belowB,reduceLT,decide_true,Bool.and_self,List.take_succ_cons,List.take_nil], by simp only [maskFr,putAll,List.set_cons_zero,List.set_cons_succ,mkb]; rfl⟩
     exact ⟨_, rfl⟩
    ·refine runX_cut 2 fun K1 hK1 => ?_
     simp only [ltb,go_sem,reduceAdd,reduceLT,reduceEqDiff]
     refine callS_ex (has_tot hG _ (rfl) 1 fl ty kd lb rfl _ (by decide) hf) ?_
     rintro _ ⟨r3, rfl⟩
     try simp only [go_sem]
     refine hK1 _ ?_
     simp only [ltb,go_sem,reduceAdd,reduceLT,reduceEqDiff]
     refine hK _ _ rfl ?_
     simp only [mwb,reduceAdd,reduceEqDiff]
     refine ⟨[_], ?_, 3, (rp 20 true []), by omega, by simp only [maskFr,belowV,belowL,reduceLT,mkb], by simp only [List.all_cons,List.all_nil,belowV,belowL,belowB,reduceLT,decide_true,Bool.and_self,List.take_succ_cons,List.take_nil], by simp only [maskFr,putAll,List.set_cons_zero,List.set_cons_succ,mkb]; rfl⟩
     exact ⟨_, rfl⟩
   ·intro vs hJ
    obtain ⟨b11, rfl⟩ := hJ
    simp only [maskFr,putAll,List.set_cons_zero,List.set_cons_succ,mkb]
    refine ex_if rfl (fun hc11 => ?_) (fun hc11 => ?_)
    ·refine ex_skip ?_
     show Go.Eng.Ex _ _ _ _ _ _
     refine ex_cond (b := true) (congrArg (fun b => V.sc (Value.bool b)) hc11) ?_
     refine ex_region_w tt_ok 100 [0,0,0,0,2] [] rfl rfl fun K hK => ?_
     simp only [ltb,go_sem,reduceAdd]
     refine hK _ _ rfl ?_
     simp only [mwb,reduceAdd]
     exact ex_ret ⟨.inl rfl, _, ⟨_, rfl⟩, rfl⟩
    ·refine ex_seq_joinK [11] 3 (rp 28 true []) (fun vs => ∃ b : Bool, vs = [bl b]) ?_ ?_
     ·refine ex_last_region_w tt_ok 100 (rp 11 0 (2::(rp 16 0 (rp 8 2 [])))) [(3, 31)] (by kernel_rfl) rfl rfl fun K hK => ?_
      refine runX_cut 4 fun K1 hK1 => ?_
      simp only [ltb,go_sem,reduceAdd,reduceLT,reduceLeDiff,reduceEqDiff]
      refine hK1 _ ?_
      refine runX_case 31 (by rfl) fun b hb5_3 => ?_
      cases b
      ·simp only [ltb,go_sem,reduceAdd,reduceLT,reduceEqDiff]
       refine hK _ _ rfl ?_
       simp only [mwb,reduceAdd,reduceEqDiff]
       refine ⟨[_], ?_, 3, (rp 28 true []), by omega, by simp only [maskFr,belowV,belowL,reduceLT,mkb], by simp only [List.all_cons,List.all_nil,belowV,belowL,belowB,reduceLT,decide_true,Bool.and_self,List.take_succ_cons,List.take_nil], by simp only [maskFr,putAll,List.set_cons_zero,List.set_cons_succ,mkb]; rfl⟩
       exact ⟨_, rfl⟩
      ·refine runX_cut 2 fun K1 hK1 => ?_
       simp only [ltb,go_sem,reduceAdd,reduceLT,reduceEqDiff]
       refine callS_ex (has_tot hG _ (rfl) 1 fl ty kd lb rfl _ (by decide) hf) ?_
       rintro _ ⟨r4, rfl⟩
       try simp only [go_sem]
       refine hK1 _ ?_
       simp only [ltb,go_sem,reduceAdd,reduceLT,reduceEqDiff]
       refine hK _ _ rfl ?_
       simp only [mwb,reduceAdd,reduceEqDiff]
       refine ⟨[_], ?_, 3, (rp 28 true []), by omega, by simp only [maskFr,belowV,belowL,reduceLT,mkb], by simp only [List.all_cons,List.all_nil,belowV,belowL,belowB,reduceLT,decide_true,Bool.and_self,List.take_succ_cons,List.take_nil], by simp only [maskFr,putAll,List.set_cons_zero,List.set_cons_succ,mkb]; rfl⟩
       exact ⟨_, rfl⟩
     ·intro vs hJ
      obtain ⟨b11, rfl⟩ := hJ
      simp only [maskFr,putAll,List.set_cons_zero,List.set_cons_succ,mkb]
      refine ex_if rfl (fun hc11 => ?_) (fun hc11 => ?_)
      ·refine ex_skip ?_
       show Go.Eng.Ex _ _ _ _ _ _
       refine ex_cond (b := true) (congrArg (fun b => V.sc (Value.bool b)) hc11) ?_
       refine ex_region_w tt_ok 100 [0,0,0,0,2] [] rfl rfl fun K hK => ?_
       simp only [ltb,go_sem,reduceAdd]
       refine hK _ _ rfl ?_
       simp only [mwb,reduceAdd]
       exact ex_ret ⟨.inl rfl, _, ⟨_, rfl⟩, rfl⟩
      ·refine ex_last_region_w tt_ok 100 (rp 11 0 (2::(rp 24 0 (rp 8 2 [])))) [(3, 39)] (by kernel_rfl) rfl rfl fun K hK => ?_
       refine runX_cut 4 fun K1 hK1 => ?_
       simp only [ltb,go_sem,reduceAdd,reduceLT,reduceLeDiff,reduceEqDiff]
       refine hK1 _ ?_
       refine runX_case 39 (by rfl) fun b hb6_3 => ?_
       cases b
       ·simp only [ltb,go_sem,reduceAdd,reduceLT,reduceEqDiff]
        refine hK _ _ rfl ?_
        simp only [mwb,reduceAdd,reduceEqDiff]
        show Go.Eng.Ex _ _ _ _ _ _
        refine ex_cond rfl ?_
        refine ex_seq ?_
        refine ex_seq_joinK [44] 3 (rp 45 true []) (fun vs => ∃ b : Bool, vs = [bl b]) ?_ ?_
        ·refine ex_last_region_w tt_ok 100 (rp 44 0 (rp 14 2 [])) [(3, 48), (8, 53)] (by kernel_rfl) rfl rfl fun K hK => ?_
         refine runX_cut 4 fun K1 hK1 => ?_
         simp only [ltb,go_sem,reduceAdd,reduceLT,reduceLeDiff,reduceEqDiff]
         refine hK1 _ ?_
         refine runX_case 48 (by rfl) fun b hb8_3 => ?_
         cases b
         ·refine runX_cut 8 fun K1 hK1 => ?_
          simp only [ltb,go_sem,reduceAdd,reduceLT,reduceEqDiff]
          refine hK1 _ ?_
          simp only [ltb,go_sem,reduceAdd,reduceLT,reduceEqDiff]
          refine hK _ _ rfl ?_
          simp only [mwb,reduceAdd,reduceEqDiff]
          refine ⟨[_], ?_, 3, (rp 45 true []), by omega, by simp only [maskFr,belowV,belowL,reduceLT,mkb], by simp only [List.all_cons,List.all_nil,belowV,belowL,belowB,reduceLT,decide_true,Bool.and_self,List.take_succ_cons,List.take_nil], by simp only [maskFr,putAll,List.set_cons_zero,List.set_cons_succ,mkb]; rfl⟩
          exact ⟨_, rfl⟩
         ·refine runX_cut 5 fun K1 hK1 => ?_
          simp only [ltb,go_sem,reduceAdd,reduceLT,reduceLeDiff,reduceEqDiff]
          refine hK1 _ ?_
          refine runX_case 53 (by rfl) fun b hb8_8 => ?_
          cases b
          ·simp only [ltb,go_sem,reduceAdd,reduceLT,reduceEqDiff]
           refine hK _ _ rfl ?_
           simp only [mwb,reduceAdd,reduceEqDiff]
           refine ⟨[_], ?_, 3, (rp 45 true []), by omega, by simp only [maskFr,belowV,belowL,reduceLT,mkb], by simp only [List.all_cons,List.all_nil,belowV,belowL,belowB,reduceLT,decide_true,Bool.and_self,List.take_succ_cons,List.take_nil], by simp only [maskFr,putAll,List.set_cons_zero,List.set_cons_succ,mkb]; rfl⟩
           exact ⟨_, rfl⟩
          ·simp only [ltb,go_sem,reduceAdd,reduceLT,reduceLeDiff,reduceEqDiff]
           refine hK _ _ rfl ?_
           simp only [mwb,reduceAdd,reduceEqDiff]
           refine ⟨[_], ?_, 3, (rp 45 true []), by omega, by simp only [maskFr,belowV,belowL,reduceLT,mkb], by simp only [List.all_cons,List.all_nil,belowV,belowL,belowB,reduceLT,decide_true,Bool.and_self,List.take_succ_cons,List.take_nil], by simp only [maskFr,putAll,List.set_cons_zero,List.set_cons_succ,mkb]; rfl⟩
           exact ⟨_, rfl⟩
        ·intro vs hJ
         obtain ⟨b44, rfl⟩ := hJ
         simp only [maskFr,putAll,List.set_cons_zero,List.set_cons_succ,mkb]
         refine ex_if rfl (fun hc44 => ?_) (fun hc44 => ?_)
         ·refine ex_skip ?_
          show Go.Eng.Ex _ _ _ _ _ _
          refine ex_cond (b := true) (congrArg (fun b => V.sc (Value.bool b)) hc44) ?_
          refine ex_region_w tt_ok 100 [0,0,0,0,2] [] rfl rfl fun K hK => ?_
          simp only [ltb,go_sem,reduceAdd]
          refine hK _ _ rfl ?_
          simp only [mwb,reduceAdd]
          exact ex_ret ⟨.inl rfl, _, ⟨_, rfl⟩, rfl⟩
         ·refine ex_last_region_w tt_ok 100 (rp 44 0 (2::(rp 13 0 [2,2,2,2,2,2,2]))) [(3, 61)] (by kernel_rfl) rfl rfl fun K hK => ?_
          refine runX_cut 4 fun K1 hK1 => ?_
          simp only [ltb,go_sem,reduceAdd,reduceLT,reduceLeDiff,reduceEqDiff]
          refine hK1 _ ?_
          refine runX_case 61 (by rfl) fun b hb9_3 => ?_
          cases b
          ·simp only [ltb,go_sem,reduceAdd,reduceLT,reduceEqDiff]
           refine hK _ _ rfl ?_
           simp only [mwb,reduceAdd,reduceEqDiff]
           show Go.Eng.Ex _ _ _ _ _ _
           refine ex_cond rfl ?_
           refine ex_seq ?_
           refine ex_seq_joinK [65] 3 (rp 66 true []) (fun vs => ∃ b : Bool, vs = [bl b]) ?_ ?_
           ·refine ex_last_region_w tt_ok 100 (rp 65 0 (rp 12 2 [])) [(3, 69)] (by kernel_rfl) rfl rfl fun K hK => ?_
            refine runX_cut 4 fun K1 hK1 => ?_
            simp only [ltb]
            simp only [tt134,go_sem,reduceAdd,reduceLT,reduceLeDiff,reduceEqDiff]
            refine hK1 _ ?_
            refine runX_case 69 (by rfl) fun b hb11_3 => ?_
            cases b
            ·simp only [ltb,go_sem,reduceAdd,reduceLT,reduceEqDiff]
             refine hK _ _ rfl ?_
             simp only [mwb,reduceAdd,reduceEqDiff]
             refine ⟨[_], ?_, 3, (rp 66 true []), by omega, by simp only [maskFr,belowV,belowL,reduceLT,mkb], by simp only [List.all_cons,List.all_nil,belowV,belowL,belowB,reduceLT,decide_true,Bool.and_self,List.take_succ_cons,List.take_nil], by simp only [maskFr,putAll,List.set_cons_zero,List.set_cons_succ,mkb]; rfl⟩
             exact ⟨_, rfl⟩
            ·try simp only [ltb]
             simp only [length_encTys,tt134,go_sem,reduceAdd,reduceLT,reduceLeDiff,reduceEqDiff]
             refine hK _ _ rfl ?_
             simp only [mwb,reduceAdd,reduceEqDiff]
             refine ⟨[_], ?_, 3, (rp 66 true []), by omega, by simp only [maskFr,belowV,belowL,reduceLT,mkb], by simp only [List.all_cons,List.all_nil,belowV,belowL,belowB,reduceLT,decide_true,Bool.and_self,List.take_succ_cons,List.take_nil], by simp only [maskFr,putAll,List.set_cons_zero,List.set_cons_succ,mkb]; rfl⟩
             exact ⟨_, rfl⟩
           ·intro vs hJ
            obtain ⟨b65, rfl⟩ := hJ
            simp only [maskFr,putAll,List.set_cons_zero,List.set_cons_succ,mkb]
            refine ex_if rfl (fun hc65 => ?_) (fun hc65 => ?_)
            ·refine ex_skip ?_
             show Go.Eng.Ex _ _ _ _ _ _
             refine ex_cond (b := true) (congrArg (fun b => V.sc (Value.bool b)) hc65) ?_
             refine ex_region_w tt_ok 100 [0,0,0,0,2] [] rfl rfl fun K hK => ?_
             simp only [ltb,go_sem,reduceAdd]
             refine hK _ _ rfl ?_
             simp only [mwb,reduceAdd]
             exact ex_ret ⟨.inl rfl, _, ⟨_, rfl⟩, rfl⟩
            ·refine ex_seq_joinK [65] 3 (rp 77 true []) (fun vs => ∃ b : Bool, vs = [bl b]) ?_ ?_
             ·refine ex_last_region_w tt_ok 100 (rp 65 0 (2::(rp 11 0 (rp 9 2 [])))) [(4, 81)] (by kernel_rfl) rfl rfl fun K hK => ?_
              refine runX_cut 5 fun K1 hK1 => ?_
              simp only [ltb]
              simp only [List.length_map,go_sem,reduceAdd,reduceLT,reduceLeDiff,reduceEqDiff]
              refine hK1 _ ?_
              refine runX_case 81 (by rfl) fun b hb12_4 => ?_
              cases b
              ·simp only [ltb,go_sem,reduceAdd,reduceLT,reduceEqDiff]
               refine hK _ _ rfl ?_
               simp only [mwb,reduceAdd,reduceEqDiff]
               refine ⟨[_], ?_, 3, (rp 77 true []), by omega, by simp only [maskFr,belowV,belowL,reduceLT,mkb], by simp only [List.all_cons,List.all_nil,belowV,belowL,belowB,reduceLT,decide_true,Bool.and_self,List.take_succ_cons,List.take_nil], by simp only [maskFr,putAll,List.set_cons_zero,List.set_cons_succ,mkb]; rfl⟩
               exact ⟨_, rfl⟩
              ·try simp only [ltb]
               simp only [tt134,go_sem,reduceAdd,reduceLT,reduceLeDiff,reduceEqDiff]
               refine hK _ _ rfl ?_
               simp only [mwb,reduceAdd,reduceEqDiff]
               refine ⟨[_], ?_, 3, (rp 77 true []), by omega, by simp only [maskFr,belowV,belowL,reduceLT,mkb], by simp only [List.all_cons,List.all_nil,belowV,belowL,belowB,reduceLT,decide_true,Bool.and_self,List.take_succ_cons,List.take_nil], by simp only [maskFr,putAll,List.set_cons_zero,List.set_cons_succ,mkb]; rfl⟩
               exact ⟨_, rfl⟩
             ·intro vs hJ
              obtain ⟨b65, rfl⟩ := hJ
              simp only [maskFr,putAll,List.set_cons_zero,List.set_cons_succ,mkb]
              refine ex_if rfl (fun hc65 => ?_) (fun hc65 => ?_)
              ·refine ex_skip ?_
               show Go.Eng.Ex _ _ _ _ _ _
               refine ex_cond (b := true) (congrArg (fun b => V.sc (Value.bool b)) hc65) ?_
               refine ex_region_w tt_ok 100 [0,0,0,0,2] [] rfl rfl fun K hK => ?_
               simp only [ltb,go_sem,reduceAdd]
               refine hK _ _ rfl ?_
               simp only [mwb,reduceAdd]
               exact ex_ret ⟨.inl rfl, _, ⟨_, rfl⟩, rfl⟩
              ·refine ex_last_region_w tt_ok 100 (rp 65 0 (2::(rp 20 0 (rp 9 2 [])))) [(2, 88)] (by kernel_rfl) rfl rfl fun K hK => ?_
               refine runX_cut 3 fun K1 hK1 => ?_
               simp only [ltb,go_sem,reduceAdd,reduceLT,reduceEqDiff]
               refine hK1 _ ?_
               refine runX_case 88 (by rfl) fun b hb13_2 => ?_
               cases b
               ·simp only [ltb,go_sem,reduceAdd,reduceLT,reduceEqDiff]
                refine hK _ _ rfl ?_
                simp only [mwb,reduceAdd,reduceEqDiff]
                show Go.Eng.Ex _ _ _ _ _ _
                refine ex_cond rfl ?_
                refine ex_skip ?_
                show Go.Eng.Ex _ _ _ _ _ _
                refine ex_region_w tt_ok 100 (0::0::0::0::2::(rp 90 0 [1,1,1,1,1])) [] rfl rfl fun K hK => ?_
                refine runX_cut 4 fun K1 hK1 => ?_
                simp only [ltb,go_sem,reduceAdd,reduceLT,reduceLeDiff,reduceEqDiff]
                refine callS_ex (containsLb_tot _ (rfl) 155 2 (by simp only [List.length_cons,List.length_nil]; decide) x.labels (fun l => fits2_tot hG _ (fun n hn => rfl) fl ty kd lb hf l) hl) ?_
                rintro _ ⟨r5, rfl⟩
                try simp only [go_sem]
                refine hK1 _ ?_
                simp only [ltb,go_sem,reduceAdd,reduceLT,reduceEqDiff]
                refine hK _ _ rfl ?_
                simp only [mwb,reduceAdd,reduceEqDiff]
                exact ex_ret ⟨.inl rfl, _, ⟨_, rfl⟩, rfl⟩
               ·try simp only [ltb]
                simp only [length_encExs,go_sem,reduceAdd,reduceLT,reduceEqDiff]
                refine hK _ _ rfl ?_
                simp only [mwb,reduceAdd,reduceEqDiff]
                show Go.Eng.Ex _ _ _ _ _ _
                refine ex_if rfl (fun hc65 => ?_) (fun hc65 => ?_)
                ·refine ex_region_w tt_ok 100 [0,0,0,0,2] [] rfl rfl fun K hK => ?_
                 simp only [ltb,go_sem,reduceAdd]
                 refine hK _ _ rfl ?_
                 simp only [mwb,reduceAdd]
                 exact ex_ret ⟨.inl rfl, _, ⟨_, rfl⟩, rfl⟩
                ·refine ex_skip ?_
                 show Go.Eng.Ex _ _ _ _ _ _
                 refine ex_region_w tt_ok 100 (0::0::0::0::2::(rp 90 0 [1,1,1,1,1])) [] rfl rfl fun K hK => ?_
                 refine runX_cut 4 fun K1 hK1 => ?_
                 simp only [ltb,go_sem,reduceAdd,reduceLT,reduceLeDiff,reduceEqDiff]
                 refine callS_ex (containsLb_tot _ (rfl) 155 2 (by simp only [List.length_cons,List.length_nil]; decide) x.labels (fun l => fits2_tot hG _ (fun n hn => rfl) fl ty kd lb hf l) hl) ?_
                 rintro _ ⟨r6, rfl⟩
                 try simp only [go_sem]
                 refine hK1 _ ?_
                 simp only [ltb,go_sem,reduceAdd,reduceLT,reduceEqDiff]
                 refine hK _ _ rfl ?_
                 simp only [mwb,reduceAdd,reduceEqDiff]
                 exact ex_ret ⟨.inl rfl, _, ⟨_, rfl⟩, rfl⟩
          ·simp only [ltb,go_sem,reduceAdd,reduceLT,reduceEqDiff]
           refine hK _ _ rfl ?_
           simp only [mwb,reduceAdd,reduceEqDiff]
           show Go.Eng.Ex _ _ _ _ _ _
           refine ex_if rfl (fun hc44 => ?_) (fun hc44 => ?_)
           ·refine ex_region_w tt_ok 100 [0,0,0,0,2] [] rfl rfl fun K hK => ?_
            simp only [ltb,go_sem,reduceAdd]
            refine hK _ _ rfl ?_
            simp only [mwb,reduceAdd]
            exact ex_ret ⟨.inl rfl, _, ⟨_, rfl⟩, rfl⟩
           ·refine ex_seq ?_
            refine ex_seq_joinK [65] 3 (rp 66 true []) (fun vs => ∃ b : Bool, vs = [bl b]) ?_ ?_
            ·refine ex_last_region_w tt_ok 100 (rp 65 0 (rp 12 2 [])) [(3, 69)] (by kernel_rfl) rfl rfl fun K hK => ?_
             refine runX_cut 4 fun K1 hK1 => ?_
             simp only [ltb]
             simp only [tt134,go_sem,reduceAdd,reduceLT,reduceLeDiff,reduceEqDiff]
             refine hK1 _ ?_
             refine runX_case 69 (by rfl) fun b hb11_3 => ?_
             cases b
             ·simp only [ltb,go_sem,reduceAdd,reduceLT,reduceEqDiff]
              refine hK _ _ rfl ?_
              simp only [mwb,reduceAdd,reduceEqDiff]
              refine ⟨[_], ?_, 3, (rp 66 true []), by omega, by simp only [maskFr,belowV,belowL,reduceLT,mkb], by simp only [List.all_cons,List.all_nil,belowV,belowL,belowB,reduceLT,decide_true,Bool.and_self,List.take_succ_cons,List.take_nil], by simp only [maskFr,putAll,List.set_cons_zero,List.set_cons_succ,mkb]; rfl⟩
              exact ⟨_, rfl⟩
             ·try simp only [ltb]
              simp only [length_encTys,tt134,go_sem,reduceAdd,reduceLT,reduceLeDiff,reduceEqDiff]
              refine hK _ _ rfl ?_
              simp only [mwb,reduceAdd,reduceEqDiff]
              refine ⟨[_], ?_, 3, (rp 66 true []), by omega, by simp only [maskFr,belowV,belowL,reduceLT,mkb], by simp only [List.all_cons,List.all_nil,belowV,belowL,belowB,reduceLT,decide_true,Bool.and_self,List.take_succ_cons,List.take_nil], by simp only [maskFr,putAll,List.set_cons_zero,List.set_cons_succ,mkb]; rfl⟩
              exact ⟨_, rfl⟩
            ·intro vs hJ
             obtain ⟨b65, rfl⟩ := hJ
             simp only [maskFr,putAll,List.set_cons_zero,List.set_cons_succ,mkb]
             refine ex_if rfl (fun hc65 => ?_) (fun hc65 => ?_)
             ·refine ex_skip ?_
              show Go.Eng.Ex _ _ _ _ _ _
              refine ex_cond (b := true) (congrArg (fun b => V.sc (Value.bool b)) hc65) ?_
              refine ex_region_w tt_ok 100 [0,0,0,0,2] [] rfl rfl fun K hK => ?_
              simp only [ltb,go_sem,reduceAdd]
              refine hK _ _ rfl ?_
              simp only [mwb,reduceAdd]
              exact ex_ret ⟨.inl rfl, _, ⟨_, rfl⟩, rfl⟩
             ·refine ex_seq_joinK [65] 3 (rp 77 true []) (fun vs => ∃ b : Bool, vs = [bl b]) ?_ ?_
              ·refine ex_last_region_w tt_ok 100 (rp 65 0 (2::(rp 11 0 (rp 9 2 [])))) [(4, 81)] (by kernel_rfl) rfl rfl fun K hK => ?_
               refine runX_cut 5 fun K1 hK1 => ?_
               simp only [ltb]
               simp only [List.length_map,go_sem,reduceAdd,reduceLT,reduceLeDiff,reduceEqDiff]
               refine hK1 _ ?_
               refine runX_case 81 (by rfl) fun b hb12_4 => ?_
               cases b
               ·simp only [ltb,go_sem,reduceAdd,reduceLT,reduceEqDiff]
                refine hK _ _ rfl ?_
                simp only [mwb,reduceAdd,reduceEqDiff]
                refine ⟨[_], ?_, 3, (rp 77 true []), by omega, by simp only [maskFr,belowV,belowL,reduceLT,mkb], by simp only [List.all_cons,List.all_nil,belowV,belowL,belowB,reduceLT,decide_true,Bool.and_self,List.take_succ_cons,List.take_nil], by simp only [maskFr,putAll,List.set_cons_zero,List.set_cons_succ,mkb]; rfl⟩
                exact ⟨_, rfl⟩
               ·try simp only [ltb]
                simp only [tt134,go_sem,reduceAdd,reduceLT,reduceLeDiff,reduceEqDiff]
                refine hK _ _ rfl ?_
                simp only [mwb,reduceAdd,reduceEqDiff]
                refine ⟨[_], ?_, 3, (rp 77 true []), by omega, by simp only [maskFr,belowV,belowL,reduceLT,mkb], by simp only [List.all_cons,List.all_nil,belowV,belowL,belowB,reduceLT,decide_true,Bool.and_self,List.take_succ_cons,List.take_nil], by simp only [maskFr,putAll,List.set_cons_zero,List.set_cons_succ,mkb]; rfl⟩
                exact ⟨_, rfl⟩
              ·intro vs hJ
               obtain ⟨b65, rfl⟩ := hJ
               simp only [maskFr,putAll,List.set_cons_zero,List.set_cons_succ,mkb]
               refine ex_if rfl (fun hc65 => ?_) (fun hc65 => ?_)
               ·refine ex_skip ?_
                show Go.Eng.Ex _ _ _ _ _ _
                refine ex_cond (b := true) (congrArg (fun b => V.sc (Value.bool b)) hc65) ?_
                refine ex_region_w tt_ok 100 [0,0,0,0,2] [] rfl rfl fun K hK => ?_
                simp only [ltb,go_sem,reduceAdd]
                refine hK _ _ rfl ?_
                simp only [mwb,reduceAdd]
                exact ex_ret ⟨.inl rfl, _, ⟨_, rfl⟩, rfl⟩
               ·refine ex_last_region_w tt_ok 100 (rp 65 0 (2::(rp 20 0 (rp 9 2 [])))) [(2, 88)] (by kernel_rfl) rfl rfl fun K hK => ?_
                refine runX_cut 3 fun K1 hK1 => ?_
                simp only [ltb,go_sem,reduceAdd,reduceLT,reduceEqDiff]
                refine hK1 _ ?_
                refine runX_case 88 (by rfl) fun b hb13_2 => ?_
                cases b
                ·simp only [ltb,go_sem,reduceAdd,reduceLT,reduceEqDiff]
                 refine hK _ _ rfl ?_
                 simp only [mwb,reduceAdd,reduceEqDiff]
                 show Go.Eng.Ex _ _ _ _ _ _
                 refine ex_cond rfl ?_
                 refine ex_skip ?_
                 show Go.Eng.Ex _ _ _ _ _ _
                 refine ex_region_w tt_ok 100 (0::0::0::0::2::(rp 90 0 [1,1,1,1,1])) [] rfl rfl fun K hK => ?_
                 refine runX_cut 4 fun K1 hK1 => ?_
                 simp only [ltb,go_sem,reduceAdd,reduceLT,reduceLeDiff,reduceEqDiff]
                 refine callS_ex (containsLb_tot _ (rfl) 155 2 (by simp only [List.length_cons,List.length_nil]; decide) x.labels (fun l => fits2_tot hG _ (fun n hn => rfl) fl ty kd lb hf l) hl) ?_
                 rintro _ ⟨r7, rfl⟩
                 try simp only [go_sem]
                 refine hK1 _ ?_
                 simp only [ltb,go_sem,reduceAdd,reduceLT,reduceEqDiff]
                 refine hK _ _ rfl ?_
                 simp only [mwb,reduceAdd,reduceEqDiff]
                 exact ex_ret ⟨.inl rfl, _, ⟨_, rfl⟩, rfl⟩
                ·try simp only [ltb]
                 simp only [length_encExs,go_sem,reduceAdd,reduceLT,reduceEqDiff]
                 refine hK _ _ rfl ?_
                 simp only [mwb,reduceAdd,reduceEqDiff]
                 show Go.Eng.Ex _ _ _ _ _ _
                 refine ex_if rfl (fun hc65 => ?_) (fun hc65 => ?_)
                 ·refine ex_region_w tt_ok 100 [0,0,0,0,2] [] rfl rfl fun K hK => ?_
                  simp only [ltb,go_sem,reduceAdd]
                  refine hK _ _ rfl ?_
                  simp only [mwb,reduceAdd]
                  exact ex_ret ⟨.inl rfl, _, ⟨_, rfl⟩, rfl⟩
                 ·refine ex_skip ?_
                  show Go.Eng.Ex _ _ _ _ _ _
                  refine ex_region_w tt_ok 100 (0::0::0::0::2::(rp 90 0 [1,1,1,1,1])) [] rfl rfl fun K hK => ?_
                  refine runX_cut 4 fun K1 hK1 => ?_
                  simp only [ltb,go_sem,reduceAdd,reduceLT,reduceLeDiff,reduceEqDiff]
                  refine callS_ex (containsLb_tot _ (rfl) 155 2 (by simp only [List.length_cons,List.length_nil]; decide) x.labels (fun l => fits2_tot hG _ (fun n hn => rfl) fl ty kd lb hf l) hl) ?_
                  rintro _ ⟨r8, rfl⟩
                  try simp only [go_sem]
                  refine hK1 _ ?_
                  simp only [ltb,go_sem,reduceAdd,reduceLT,reduceEqDiff]
                  refine hK _ _ rfl ?_
                  simp only [mwb,reduceAdd,reduceEqDiff]
                  exact ex_ret ⟨.inl rfl, _, ⟨_, rfl⟩, rfl⟩
       ·refine runX_cut 2 fun K1 hK1 => ?_
        simp only [ltb,go_sem,reduceAdd,reduceLT,reduceEqDiff]
        refine callS_ex (has_tot hG _ (rfl) 1 fl ty kd lb rfl _ (by decide) hf) ?_
        rintro _ ⟨r9, rfl⟩
        try simp only [go_sem]
        refine hK1 _ ?_
        simp only [ltb,go_sem,reduceAdd,reduceLT,reduceEqDiff]
        refine hK _ _ rfl ?_
        simp only [mwb,reduceAdd,reduceEqDiff]
        show Go.Eng.Ex _ _ _ _ _ _
        refine ex_if rfl (fun hc11 => ?_) (fun hc11 => ?_)
        ·refine ex_region_w tt_ok 100 [0,0,0,0,2] [] rfl rfl fun K hK => ?_
         simp only [ltb,go_sem,reduceAdd]
         refine hK _ _ rfl ?_
         simp only [mwb,reduceAdd]
         exact ex_ret ⟨.inl rfl, _, ⟨_, rfl⟩, rfl⟩
        ·refine ex_seq ?_
         refine ex_seq_joinK [44] 3 (rp 45 true []) (fun vs => ∃ b : Bool, vs = [bl b]) ?_ ?_
         ·refine ex_last_region_w tt_ok 100 (rp 44 0 (rp 14 2 [])) [(3, 48), (8, 53)] (by kernel_rfl) rfl rfl fun K hK => ?_
          refine runX_cut 4 fun K1 hK1 => ?_
          simp only [ltb,go_sem,reduceAdd,reduceLT,reduceLeDiff,reduceEqDiff]
          refine hK1 _ ?_
          refine runX_case 48 (by rfl) fun b hb8_3 => ?_
          cases b
          ·refine runX_cut 8 fun K1 hK1 => ?_
           simp only [ltb,go_sem,reduceAdd,reduceLT,reduceEqDiff]
           refine hK1 _ ?_
           simp only [ltb,go_sem,reduceAdd,reduceLT,reduceEqDiff]
           refine hK _ _ rfl ?_
           simp only [mwb,reduceAdd,reduceEqDiff]
           refine ⟨[_], ?_, 3, (rp 45 true []), by omega, by simp only [maskFr,belowV,belowL,reduceLT,mkb], by simp only [List.all_cons,List.all_nil,belowV,belowL,belowB,reduceLT,decide_true,Bool.and_self,List.take_succ_cons,List.take_nil], by simp only [maskFr,putAll,List.set_cons_zero,List.set_cons_succ,mkb]; rfl⟩
           exact ⟨_, rfl⟩
          ·refine runX_cut 5 fun K1 hK1 => ?_
           simp only [ltb,go_sem,reduceAdd,reduceLT,reduceLeDiff,reduceEqDiff]
           refine hK1 _ ?_
           refine runX_case 53 (by rfl) fun b hb8_8 => ?_
           cases b
           ·simp only [ltb,go_sem,reduceAdd,reduceLT,reduceEqDiff]
            refine hK _ _ rfl ?_
            simp only [mwb,reduceAdd,reduceEqDiff]
            refine ⟨[_], ?_, 3, (rp 45 true []), by omega, by simp only [maskFr,belowV,belowL,reduceLT,mkb], by simp only [List.all_cons,List.all_nil,belowV,belowL,belowB,reduceLT,decide_true,Bool.and_self,List.take_succ_cons,List.take_nil], by simp only [maskFr,putAll,List.set_cons_zero,List.set_cons_succ,mkb]; rfl⟩
            exact ⟨_, rfl⟩
           ·simp only [ltb,go_sem,reduceAdd,reduceLT,reduceLeDiff,reduceEqDiff]
            refine hK _ _ rfl ?_
            simp only [mwb,reduceAdd,reduceEqDiff]
            refine ⟨[_], ?_, 3, (rp 45 true []), by omega, by simp only [maskFr,belowV,belowL,reduceLT,mkb], by simp only [List.all_cons,List.all_nil,belowV,belowL,belowB,reduceLT,decide_true,Bool.and_self,List.take_succ_cons,List.take_nil], by simp only [maskFr,putAll,List.set_cons_zero,List.set_cons_succ,mkb]; rfl⟩
            exact ⟨_, rfl⟩
         ·intro vs hJ
          obtain ⟨b44, rfl⟩ := hJ
          simp only [maskFr,putAll,List.set_cons_zero,List.set_cons_succ,mkb]
          refine ex_if rfl (fun hc44 => ?_) (fun hc44 => ?_)
          ·refine ex_skip ?_
           show Go.Eng.Ex _ _ _ _ _ _
           refine ex_cond (b := true) (congrArg (fun b => V.sc (Value.bool b)) hc44) ?_
           refine ex_region_w tt_ok 100 [0,0,0,0,2] [] rfl rfl fun K hK => ?_
           simp only [ltb,go_sem,reduceAdd]
           refine hK _ _ rfl ?_
           simp only [mwb,reduceAdd]
           exact ex_ret ⟨.inl rfl, _, ⟨_, rfl⟩, rfl⟩
          ·refine ex_last_region_w tt_ok 100 (rp 44 0 (2::(rp 13 0 [2,2,2,2,2,2,2]))) [(3, 61)] (by kernel_rfl) rfl rfl fun K hK => ?_
           refine runX_cut 4 fun K1 hK1 => ?_
           simp only [ltb,go_sem,reduceAdd,reduceLT,reduceLeDiff,reduceEqDiff]
           refine hK1 _ ?_
           refine runX_case 61 (by rfl) fun b hb9_3 => ?_
           cases b
           ·simp only [ltb,go_sem,reduceAdd,reduceLT,reduceEqDiff]
            refine hK _ _ rfl ?_
            simp only [mwb,reduceAdd,reduceEqDiff]
            show Go.Eng.Ex _ _ _ _ _ _
            refine ex_cond rfl ?_
            refine ex_seq ?_
            refine ex_seq_joinK [65] 3 (rp 66 true []) (fun vs => ∃ b : Bool, vs = [bl b]) ?_ ?_
            ·refine ex_last_region_w tt_ok 100 (rp 65 0 (rp 12 2 [])) [(3, 69)] (by kernel_rfl) rfl rfl fun K hK => ?_
             refine runX_cut 4 fun K1 hK1 => ?_
             simp only [ltb]
             simp only [tt134,go_sem,reduceAdd,reduceLT,reduceLeDiff,reduceEqDiff]
             refine hK1 _ ?_
             refine runX_case 69 (by rfl) fun b hb11_3 => ?_
             cases b
             ·simp only [ltb,go_sem,reduceAdd,reduceLT,reduceEqDiff]
              refine hK _ _ rfl ?_
              simp only [mwb,reduceAdd,reduceEqDiff]
              refine ⟨[_], ?_, 3, (rp 66 true []), by omega, by simp only [maskFr,belowV,belowL,reduceLT,mkb], by simp only [List.all_cons,List.all_nil,belowV,belowL,belowB,reduceLT,decide_true,Bool.and_self,List.take_succ_cons,List.take_nil], by simp only [maskFr,putAll,List.set_cons_zero,List.set_cons_succ,mkb]; rfl⟩
              exact ⟨_, rfl⟩
             ·try simp only [ltb]
              simp only [length_encTys,tt134,go_sem,reduceAdd,reduceLT,reduceLeDiff,reduceEqDiff]
              refine hK _ _ rfl ?_
              simp only [mwb,reduceAdd,reduceEqDiff]
              refine ⟨[_], ?_, 3, (rp 66 true []), by omega, by simp only [maskFr,belowV,belowL,reduceLT,mkb], by simp only [List.all_cons,List.all_nil,belowV,belowL,belowB,reduceLT,decide_true,Bool.and_self,List.take_succ_cons,List.take_nil], by simp only [maskFr,putAll,List.set_cons_zero,List.set_cons_succ,mkb]; rfl⟩
              exact ⟨_, rfl⟩
            ·intro vs hJ
             obtain ⟨b65, rfl⟩ := hJ
             simp only [maskFr,putAll,List.set_cons_zero,List.set_cons_succ,mkb]
             refine ex_if rfl (fun hc65 => ?_) (fun hc65 => ?_)
             ·refine ex_skip ?_
              show Go.Eng.Ex _ _ _ _ _ _
              refine ex_cond (b := true) (congrArg (fun b => V.sc (Value.bool b)) hc65) ?_
              refine ex_region_w tt_ok 100 [0,0,0,0,2] [] rfl rfl fun K hK => ?_
              simp only [ltb,go_sem,reduceAdd]
              refine hK _ _ rfl ?_
              simp only [mwb,reduceAdd]
              exact ex_ret ⟨.inl rfl, _, ⟨_, rfl⟩, rfl⟩
             ·refine ex_seq_joinK [65] 3 (rp 77 true []) (fun vs => ∃ b : Bool, vs = [bl b]) ?_ ?_
              ·refine ex_last_region_w tt_ok 100 (rp 65 0 (2::(rp 11 0 (rp 9 2 [])))) [(4, 81)] (by kernel_rfl) rfl rfl fun K hK => ?_
               refine runX_cut 5 fun K1 hK1 => ?_
               simp only [ltb]
               simp only [List.length_map,go_sem,reduceAdd,reduceLT,reduceLeDiff,reduceEqDiff]
               refine hK1 _ ?_
               refine runX_case 81 (by rfl) fun b hb12_4 => ?_
               cases b
               ·simp only [ltb,go_sem,reduceAdd,reduceLT,reduceEqDiff]
                refine hK _ _ rfl ?_
                simp only [mwb,reduceAdd,reduceEqDiff]
                refine ⟨[_], ?_, 3, (rp 77 true []), by omega, by simp only [maskFr,belowV,belowL,reduceLT,mkb], by simp only [List.all_cons,List.all_nil,belowV,belowL,belowB,reduceLT,decide_true,Bool.and_self,List.take_succ_cons,List.take_nil], by simp only [maskFr,putAll,List.set_cons_zero,List.set_cons_succ,mkb]; rfl⟩
                exact ⟨_, rfl⟩
               ·try simp only [ltb]
                simp only [tt134,go_sem,reduceAdd,reduceLT,reduceLeDiff,reduceEqDiff]
                refine hK _ _ rfl ?_
                simp only [mwb,reduceAdd,reduceEqDiff]
                refine ⟨[_], ?_, 3, (rp 77 true []), by omega, by simp only [maskFr,belowV,belowL,reduceLT,mkb], by simp only [List.all_cons,List.all_nil,belowV,belowL,belowB,reduceLT,decide_true,Bool.and_self,List.take_succ_cons,List.take_nil], by simp only [maskFr,putAll,List.set_cons_zero,List.set_cons_succ,mkb]; rfl⟩
                exact ⟨_, rfl⟩
              ·intro vs hJ
               obtain ⟨b65, rfl⟩ := hJ
               simp only [maskFr,putAll,List.set_cons_zero,List.set_cons_succ,mkb]
               refine ex_if rfl (fun hc65 => ?_) (fun hc65 => ?_)
               ·refine ex_skip ?_
                show Go.Eng.Ex _ _ _ _ _ _
                refine ex_cond (b := true) (congrArg (fun b => V.sc (Value.bool b)) hc65) ?_
                refine ex_region_w tt_ok 100 [0,0,0,0,2] [] rfl rfl fun K hK => ?_
                simp only [ltb,go_sem,reduceAdd]
                refine hK _ _ rfl ?_
                simp only [mwb,reduceAdd]
                exact ex_ret ⟨.inl rfl, _, ⟨_, rfl⟩, rfl⟩
               ·refine ex_last_region_w tt_ok 100 (rp 65 0 (2::(rp 20 0 (rp 9 2 [])))) [(2, 88)] (by kernel_rfl) rfl rfl fun K hK => ?_
                refine runX_cut 3 fun K1 hK1 => ?_
                simp only [ltb,go_sem,reduceAdd,reduceLT,reduceEqDiff]
                refine hK1 _ ?_
                refine runX_case 88 (by rfl) fun b hb13_2 => ?_
                cases b
                ·simp only [ltb,go_sem,reduceAdd,reduceLT,reduceEqDiff]
                 refine hK _ _ rfl ?_
                 simp only [mwb,reduceAdd,reduceEqDiff]
                 show Go.Eng.Ex _ _ _ _ _ _
                 refine ex_cond rfl ?_
                 refine ex_skip ?_
                 show Go.Eng.Ex _ _ _ _ _ _
                 refine ex_region_w tt_ok 100 (0::0::0::0::2::(rp 90 0 [1,1,1,1,1])) [] rfl rfl fun K hK => ?_
                 refine runX_cut 4 fun K1 hK1 => ?_
                 simp only [ltb,go_sem,reduceAdd,reduceLT,reduceLeDiff,reduceEqDiff]
                 refine callS_ex (containsLb_tot _ (rfl) 155 2 (by simp only [List.length_cons,List.length_nil]; decide) x.labels (fun l => fits2_tot hG _ (fun n hn => rfl) fl ty kd lb hf l) hl) ?_
                 rintro _ ⟨r10, rfl⟩
                 try simp only [go_sem]
                 refine hK1 _ ?_
                 simp only [ltb,go_sem,reduceAdd,reduceLT,reduceEqDiff]
                 refine hK _ _ rfl ?_
                 simp only [mwb,reduceAdd,reduceEqDiff]
                 exact ex_ret ⟨.inl rfl, _, ⟨_, rfl⟩, rfl⟩
                ·try simp only [ltb]
                 simp only [length_encExs,go_sem,reduceAdd,reduceLT,reduceEqDiff]
                 refine hK _ _ rfl ?_
                 simp only [mwb,reduceAdd,reduceEqDiff]
                 show Go.Eng.Ex _ _ _ _ _ _
                 refine ex_if rfl (fun hc65 => ?_) (fun hc65 => ?_)
                 ·refine ex_region_w tt_ok 100 [0,0,0,0,2] [] rfl rfl fun K hK => ?_
                  simp only [ltb,go_sem,reduceAdd]
                  refine hK _ _ rfl ?_
                  simp only [mwb,reduceAdd]
                  exact ex_ret ⟨.inl rfl, _, ⟨_, rfl⟩, rfl⟩
                 ·refine ex_skip ?_
                  show Go.Eng.Ex _ _ _ _ _ _
                  refine ex_region_w tt_ok 100 (0::0::0::0::2::(rp 90 0 [1,1,1,1,1])) [] rfl rfl fun K hK => ?_
                  refine runX_cut 4 fun K1 hK1 => ?_
                  simp only [ltb,go_sem,reduceAdd,reduceLT,reduceLeDiff,reduceEqDiff]
                  refine callS_ex (containsLb_tot _ (rfl) 155 2 (by simp only [List.length_cons,List.length_nil]; decide) x.labels (fun l => fits2_tot hG _ (fun n hn => rfl) fl ty kd lb hf l) hl) ?_
                  rintro _ ⟨r11, rfl⟩
                  try simp only [go_sem]
                  refine hK1 _ ?_
                  simp only [ltb,go_sem,reduceAdd,reduceLT,reduceEqDiff]
                  refine hK _ _ rfl ?_
                  simp only [mwb,reduceAdd,reduceEqDiff]
                  exact ex_ret ⟨.inl rfl, _, ⟨_, rfl⟩, rfl⟩
           ·simp only [ltb,go_sem,reduceAdd,reduceLT,reduceEqDiff]
            refine hK _ _ rfl ?_
            simp only [mwb,reduceAdd,reduceEqDiff]
            show Go.Eng.Ex _ _ _ _ _ _
            refine ex_if rfl (fun hc44 => ?_) (fun hc44 => ?_)
            ·refine ex_region_w tt_ok 100 [0,0,0,0,2] [] rfl rfl fun K hK => ?_
             simp only [ltb,go_sem,reduceAdd]
             refine hK _ _ rfl ?_
             simp only [mwb,reduceAdd]
             exact ex_ret ⟨.inl rfl, _, ⟨_, rfl⟩, rfl⟩
            ·refine ex_seq ?_
             refine ex_seq_joinK [65] 3 (rp 66 true []) (fun vs => ∃ b : Bool, vs = [bl b]) ?_ ?_
             ·refine ex_last_region_w tt_ok 100 (rp 65 0 (rp 12 2 [])) [(3, 69)] (by kernel_rfl) rfl rfl fun K hK => ?_
              refine runX_cut 4 fun K1 hK1 => ?_
              simp only [ltb]
              simp only [tt134,go_sem,reduceAdd,reduceLT,reduceLeDiff,reduceEqDiff]
              refine hK1 _ ?_
              refine runX_case 69 (by rfl) fun b hb11_3 => ?_
              cases b
              ·simp only [ltb,go_sem,reduceAdd,reduceLT,reduceEqDiff]
               refine hK _ _ rfl ?_
               simp only [mwb,reduceAdd,reduceEqDiff]
               refine ⟨[_], ?_, 3, (rp 66 true []), by omega, by simp only [maskFr,belowV,belowL,reduceLT,mkb], by simp only [List.all_cons,List.all_nil,belowV,belowL,belowB,reduceLT,decide_true,Bool.and_self,List.take_succ_cons,List.take_nil], by simp only [maskFr,putAll,List.set_cons_zero,List.set_cons_succ,mkb]; rfl⟩
               exact ⟨_, rfl⟩
              ·try simp only [ltb]
               simp only [length_encTys,tt134,go_sem,reduceAdd,reduceLT,reduceLeDiff,reduceEqDiff]
               refine hK _ _ rfl ?_
               simp only [mwb,reduceAdd,reduceEqDiff]
               refine ⟨[_], ?_, 3, (rp 66 true []), by omega, by simp only [maskFr,belowV,belowL,reduceLT,mkb], by simp only [List.all_cons,List.all_nil,belowV,belowL,belowB,reduceLT,decide_true,Bool.and_self,List.take_succ_cons,List.take_nil], by simp only [maskFr,putAll,List.set_cons_zero,List.set_cons_succ,mkb]; rfl⟩
               exact ⟨_, rfl⟩
             ·intro vs hJ
              obtain ⟨b65, rfl⟩ := hJ
              simp only [maskFr,putAll,List.set_cons_zero,List.set_cons_succ,mkb]
              refine ex_if rfl (fun hc65 => ?_) (fun hc65 => ?_)
              ·refine ex_skip ?_
               show Go.Eng.Ex _ _ _ _ _ _
               refine ex_cond (b := true) (congrArg (fun b => V.sc (Value.bool b)) hc65) ?_
               refine ex_region_w tt_ok 100 [0,0,0,0,2] [] rfl rfl fun K hK => ?_
               simp only [ltb,go_sem,reduceAdd]
               refine hK _ _ rfl ?_
               simp only [mwb,reduceAdd]
               exact ex_ret ⟨.inl rfl, _, ⟨_, rfl⟩, rfl⟩
              ·refine ex_seq_joinK [65] 3 (rp 77 true []) (fun vs => ∃ b : Bool, vs = [bl b]) ?_ ?_
               ·refine ex_last_region_w tt_ok 100 (rp 65 0 (2::(rp 11 0 (rp 9 2 [])))) [(4, 81)] (by kernel_rfl) rfl rfl fun K hK => ?_
                refine runX_cut 5 fun K1 hK1 => ?_
                simp only [ltb]
                simp only [List.length_map,go_sem,reduceAdd,reduceLT,reduceLeDiff,reduceEqDiff]
                refine hK1 _ ?_
                refine runX_case 81 (by rfl) fun b hb12_4 => ?_
                cases b
                ·simp only [ltb,go_sem,reduceAdd,reduceLT,reduceEqDiff]
                 refine hK _ _ rfl ?_
                 simp only [mwb,reduceAdd,reduceEqDiff]
                 refine ⟨[_], ?_, 3, (rp 77 true []), by omega, by simp only [maskFr,belowV,belowL,reduceLT,mkb], by simp only [List.all_cons,List.all_nil,belowV,belowL,belowB,reduceLT,decide_true,Bool.and_self,List.take_succ_cons,List.take_nil], by simp only [maskFr,putAll,List.set_cons_zero,List.set_cons_succ,mkb]; rfl⟩
                 exact ⟨_, rfl⟩
                ·try simp only [ltb]
                 simp only [tt134,go_sem,reduceAdd,reduceLT,reduceLeDiff,reduceEqDiff]
                 refine hK _ _ rfl ?_
                 simp only [mwb,reduceAdd,reduceEqDiff]
                 refine ⟨[_], ?_, 3, (rp 77 true []), by omega, by simp only [maskFr,belowV,belowL,reduceLT,mkb], by simp only [List.all_cons,List.all_nil,belowV,belowL,belowB,reduceLT,decide_true,Bool.and_self,List.take_succ_cons,List.take_nil], by simp only [maskFr,putAll,List.set_cons_zero,List.set_cons_succ,mkb]; rfl⟩
                 exact ⟨_, rfl⟩
               ·intro vs hJ
                obtain ⟨b65, rfl⟩ := hJ
                simp only [maskFr,putAll,List.set_cons_zero,List.set_cons_succ,mkb]
                refine ex_if rfl (fun hc65 => ?_) (fun hc65 => ?_)
                ·refine ex_skip ?_
                 show Go.Eng.Ex _ _ _ _ _ _
                 refine ex_cond (b := true) (congrArg (fun b => V.sc (Value.bool b)) hc65) ?_
                 refine ex_region_w tt_ok 100 [0,0,0,0,2] [] rfl rfl fun K hK => ?_
                 simp only [ltb,go_sem,reduceAdd]
                 refine hK _ _ rfl ?_
                 simp only [mwb,reduceAdd]
                 exact ex_ret ⟨.inl rfl, _, ⟨_, rfl⟩, rfl⟩
                ·refine ex_last_region_w tt_ok 100 (rp 65 0 (2::(rp 20 0 (rp 9 2 [])))) [(2, 88)] (by kernel_rfl) rfl rfl fun K hK => ?_
                 refine runX_cut 3 fun K1 hK1 => ?_
                 simp only [ltb,go_sem,reduceAdd,reduceLT,reduceEqDiff]
                 refine hK1 _ ?_
                 refine runX_case 88 (by rfl) fun b hb13_2 => ?_
                 cases b
                 ·simp only [ltb,go_sem,reduceAdd,reduceLT,reduceEqDiff]
                  refine hK _ _ rfl ?_
                  simp only [mwb,reduceAdd,reduceEqDiff]
                  show Go.Eng.Ex _ _ _ _ _ _
                  refine ex_cond rfl ?_
                  refine ex_skip ?_
                  show Go.Eng.Ex _ _ _ _ _ _
                  refine ex_region_w tt_ok 100 (0::0::0::0::2::(rp 90 0 [1,1,1,1,1])) [] rfl rfl fun K hK => ?_
                  refine runX_cut 4 fun K1 hK1 => ?_
                  simp only [ltb,go_sem,reduceAdd,reduceLT,reduceLeDiff,reduceEqDiff]
                  refine callS_ex (containsLb_tot _ (rfl) 155 2 (by simp only [List.length_cons,List.length_nil]; decide) x.labels (fun l => fits2_tot hG _ (fun n hn => rfl) fl ty kd lb hf l) hl) ?_
                  rintro _ ⟨r12, rfl⟩
                  try simp only [go_sem]
                  refine hK1 _ ?_
                  simp only [ltb,go_sem,reduceAdd,reduceLT,reduceEqDiff]
                  refine hK _ _ rfl ?_
                  simp only [mwb,reduceAdd,reduceEqDiff]
                  exact ex_ret ⟨.inl rfl, _, ⟨_, rfl⟩, rfl⟩
                 ·try simp only [ltb]
                  simp only [length_encExs,go_sem,reduceAdd,reduceLT,reduceEqDiff]
                  refine hK _ _ rfl ?_
                  simp only [mwb,reduceAdd,reduceEqDiff]
                  show Go.Eng.Ex _ _ _ _ _ _
                  refine ex_if rfl (fun hc65 => ?_) (fun hc65 => ?_)
                  ·refine ex_region_w tt_ok 100 [0,0,0,0,2] [] rfl rfl fun K hK => ?_
                   simp only [ltb,go_sem,reduceAdd]
                   refine hK _ _ rfl ?_
                   simp only [mwb,reduceAdd]
                   exact ex_ret ⟨.inl rfl, _, ⟨_, rfl⟩, rfl⟩
                  ·refine ex_skip ?_
                   show Go.Eng.Ex _ _ _ _ _ _
                   refine ex_region_w tt_ok 100 (0::0::0::0::2::(rp 90 0 [1,1,1,1,1])) [] rfl rfl fun K hK => ?_
                   refine runX_cut 4 fun K1 hK1 => ?_
                   simp only [ltb,go_sem,reduceAdd,reduceLT,reduceLeDiff,reduceEqDiff]
                   refine callS_ex (containsLb_tot _ (rfl) 155 2 (by simp only [List.length_cons,List.length_nil]; decide) x.labels (fun l => fits2_tot hG _ (fun n hn => rfl) fl ty kd lb hf l) hl) ?_
                   rintro _ ⟨r13, rfl⟩
                   try simp only [go_sem]
                   refine hK1 _ ?_
                   simp only [ltb,go_sem,reduceAdd,reduceLT,reduceEqDiff]
                   refine hK _ _ rfl ?_
                   simp only [mwb,reduceAdd,reduceEqDiff]
                   exact ex_ret ⟨.inl rfl, _, ⟨_, rfl⟩, rfl⟩
theorem misnamed_tot (hG : Glob.g = some 0) (x : Ex) (fl : ByteArray) (ty kd : Int) (lb : Bool) (hf : fl.size ≤ 1048576) (hl : x.labels.length ≤ 1048576) (hm : x.mod.size ≤ 1048575) : ∃ r, isB r ∧ FnOk Tryz.prog 103 [encEx x, .agg [str fl, num ty, bl lb, num kd]] r := by
 refine fn_ex tt_ok (fn := Tryz.f103) Tryz.func103 rfl Tryz.call103 ?_
 simp only [ltb,startSt,Tryz.ntmps103,List.length_cons,List.length_nil,reduceAdd,reduceSub,List.replicate_succ,List.replicate_zero]
 simp only [encEx_eq,exCells]
 refine ex_region_w tt_ok 42 [0,0,2,2,2] [] rfl rfl fun K hK => ?_
 simp only [ltb,go_sem,reduceLT,reduceEqDiff]
 refine hK _ _ rfl ?_
 simp only [mwb,reduceAdd,reduceEqDiff]
 refine ex_region_w tt_ok 42 [0,0,0,0,0,2,1] [] rfl rfl fun K hK => ?_
 simp only [ltb,go_sem,reduceAdd,reduceLT,reduceEqDiff]
 refine hK _ _ rfl ?_
 simp only [mwb,reduceAdd,reduceEqDiff]
 refine ex_seq ?_
 refine ex_block ?_
 refine ex_seq ?_
 refine ex_seq_joinK [7] 3 (rp 8 true []) (fun vs => ∃ b : Bool, vs = [bl b]) ?_ ?_
 ·refine ex_last_region_w tt_ok 42 [0,0,0,0,0,0,0,2,2,2,2,2,2,2,2,2] [(2, 10)] (by kernel_rfl) rfl rfl fun K hK => ?_
  refine runX_cut 2 fun K1 hK1 => ?_
  simp only [ltb,go_sem,reduceAdd,reduceLT]
  refine callS_ex (has2_tot hG _ (rfl) 1 fl ty kd lb rfl _ (by decide) hf) ?_
  rintro _ ⟨r1, rfl⟩
  try simp only [go_sem]
  refine hK1 _ ?_
  refine runX_cut 1 fun K1 hK1 => ?_
  simp only [ltb,go_sem,reduceAdd,reduceLT,reduceEqDiff]
  refine hK1 _ ?_
  refine runX_case 10 (by rfl) fun b hb2_2 => ?_
  cases b
  ·simp only [ltb,go_sem,reduceAdd,reduceLT,reduceEqDiff]
   refine hK _ _ rfl ?_
   simp only [mwb,reduceAdd,reduceEqDiff]
   refine ⟨[_], ?_, 3, (rp 8 true []), by omega, by simp only [maskFr,belowV,belowL,reduceLT,mkb], by simp only [List.all_cons,List.all_nil,belowV,belowL,belowB,reduceLT,decide_true,Bool.and_self,List.take_succ_cons,List.take_nil], by simp only [maskFr,putAll,List.set_cons_zero,List.set_cons_succ,mkb]; rfl⟩
   exact ⟨_, rfl⟩
  ·refine runX_cut 3 fun K1 hK1 => ?_
   simp only [ltb,go_sem,reduceAdd,reduceLT,reduceLeDiff,reduceEqDiff]
   refine callF_ex (module_tot hG x.mod hm) ?_
   rintro _ ⟨r2, rfl⟩
   try simp only [go_sem]
   refine hK1 _ ?_
   simp only [ltb,go_sem,reduceAdd,reduceLT,reduceEqDiff]
   refine hK _ _ rfl ?_
   simp only [mwb,reduceAdd,reduceEqDiff]
   refine ⟨[_], ?_, 3, (rp 8 true []), by omega, by simp only [maskFr,belowV,belowL,reduceLT,mkb], by simp only [List.all_cons,List.all_nil,belowV,belowL,belowB,reduceLT,decide_true,Bool.and_self,List.take_succ_cons,List.take_nil], by simp only [maskFr,putAll,List.set_cons_zero,List.set_cons_succ,mkb]; rfl⟩
   exact ⟨_, rfl⟩
 ·intro vs hJ
  obtain ⟨b7, rfl⟩ := hJ
  simp only [maskFr,putAll,List.set_cons_zero,List.set_cons_succ,mkb]
  refine ex_if rfl (fun hc7 => ?_) (fun hc7 => ?_)
  ·refine ex_skip ?_
   show Go.Eng.Ex _ _ _ _ _ _
   refine ex_cond (b := true) (congrArg (fun b => V.sc (Value.bool b)) hc7) ?_
   refine ex_region_w tt_ok 42 [0,0,0,0,2] [] rfl rfl fun K hK => ?_
   simp only [ltb,go_sem,reduceAdd]
   refine hK _ _ rfl ?_
   simp only [mwb,reduceAdd]
   exact ex_ret ⟨.inl rfl, _, ⟨_, rfl⟩, rfl⟩
  ·refine ex_seq_joinK [7] 3 (rp 16 true []) (fun vs => ∃ b : Bool, vs = [bl b]) ?_ ?_
   ·refine ex_last_region_w tt_ok 42 (0::0::0::0::0::0::0::2::(rp 8 0 (rp 13 2 []))) [(2, 18), (7, 23)] (by kernel_rfl) rfl rfl fun K hK => ?_
    refine runX_cut 2 fun K1 hK1 => ?_
    simp only [ltb,go_sem,reduceAdd,reduceLT]
    refine callS_ex (has2_tot hG _ (rfl) 1 fl ty kd lb rfl _ (by decide) hf) ?_
    rintro _ ⟨r3, rfl⟩
    try simp only [go_sem]
    refine hK1 _ ?_
    refine runX_cut 1 fun K1 hK1 => ?_
    simp only [ltb,go_sem,reduceAdd,reduceLT,reduceEqDiff]
    refine hK1 _ ?_
    refine runX_case 18 (by rfl) fun b hb3_2 => ?_
    cases b
    ·refine runX_cut 8 fun K1 hK1 => ?_
     simp only [ltb,go_sem,reduceAdd,reduceLT,reduceEqDiff]
     refine hK1 _ ?_
     simp only [ltb,go_sem,reduceAdd,reduceLT,reduceEqDiff]
     refine hK _ _ rfl ?_
     simp only [mwb,reduceAdd,reduceEqDiff]
     refine ⟨[_], ?_, 3, (rp 16 true []), by omega, by simp only [maskFr,belowV,belowL,reduceLT,mkb], by simp only [List.all_cons,List.all_nil,belowV,belowL,belowB,reduceLT,decide_true,Bool.and_self,List.take_succ_cons,List.take_nil], by simp only [maskFr,putAll,List.set_cons_zero,List.set_cons_succ,mkb]; rfl⟩
     exact ⟨_, rfl⟩
    ·refine runX_cut 5 fun K1 hK1 => ?_
     simp only [ltb,go_sem,reduceAdd,reduceLT,reduceLeDiff,reduceEqDiff]
     refine hK1 _ ?_
     refine runX_case 23 (by rfl) fun b hb3_7 => ?_
     cases b
     ·simp only [ltb,go_sem,reduceAdd,reduceLT,reduceEqDiff]
      refine hK _ _ rfl ?_
      simp only [mwb,reduceAdd,reduceEqDiff]
      refine ⟨[_], ?_, 3, (rp 16 true []), by omega, by simp only [maskFr,belowV,belowL,reduceLT,mkb], by simp only [List.all_cons,List.all_nil,belowV,belowL,belowB,reduceLT,decide_true,Bool.and_self,List.take_succ_cons,List.take_nil], by simp only [maskFr,putAll,List.set_cons_zero,List.set_cons_succ,mkb]; rfl⟩
      exact ⟨_, rfl⟩
     ·refine runX_cut 3 fun K1 hK1 => ?_
      simp only [ltb,go_sem,reduceAdd,reduceLT,reduceLeDiff,reduceEqDiff]
      refine callF_ex (isName_tot hG _) ?_
      rintro _ ⟨r4, rfl⟩
      try simp only [go_sem]
      refine hK1 _ ?_
      simp only [ltb,go_sem,reduceAdd,reduceLT,reduceEqDiff]
      refine hK _ _ rfl ?_
      simp only [mwb,reduceAdd,reduceEqDiff]
      refine ⟨[_], ?_, 3, (rp 16 true []), by omega, by simp only [maskFr,belowV,belowL,reduceLT,mkb], by simp only [List.all_cons,List.all_nil,belowV,belowL,belowB,reduceLT,decide_true,Bool.and_self,List.take_succ_cons,List.take_nil], by simp only [maskFr,putAll,List.set_cons_zero,List.set_cons_succ,mkb]; rfl⟩
      exact ⟨_, rfl⟩
   ·intro vs hJ
    obtain ⟨b7, rfl⟩ := hJ
    simp only [maskFr,putAll,List.set_cons_zero,List.set_cons_succ,mkb]
    refine ex_if rfl (fun hc7 => ?_) (fun hc7 => ?_)
    ·refine ex_skip ?_
     show Go.Eng.Ex _ _ _ _ _ _
     refine ex_cond (b := true) (congrArg (fun b => V.sc (Value.bool b)) hc7) ?_
     refine ex_region_w tt_ok 42 [0,0,0,0,2] [] rfl rfl fun K hK => ?_
     simp only [ltb,go_sem,reduceAdd]
     refine hK _ _ rfl ?_
     simp only [mwb,reduceAdd]
     exact ex_ret ⟨.inl rfl, _, ⟨_, rfl⟩, rfl⟩
    ·refine ex_last_region_w tt_ok 42 (0::0::0::0::0::0::0::2::(rp 21 0 (rp 9 2 []))) [(3, 32)] (by kernel_rfl) rfl rfl fun K hK => ?_
     refine runX_cut 4 fun K1 hK1 => ?_
     simp only [ltb,go_sem,reduceAdd,reduceLT,reduceLeDiff,reduceEqDiff]
     refine hK1 _ ?_
     refine runX_case 32 (by rfl) fun b hb4_3 => ?_
     cases b
     ·simp only [ltb,go_sem,reduceAdd,reduceLT,reduceEqDiff]
      refine hK _ _ rfl ?_
      simp only [mwb,reduceAdd,reduceEqDiff]
      show Go.Eng.Ex _ _ _ _ _ _
      refine ex_cond rfl ?_
      refine ex_skip ?_
      show Go.Eng.Ex _ _ _ _ _ _
      refine ex_region_w tt_ok 42 (0::0::0::0::2::(rp 33 0 [1,1,1,1])) [] rfl rfl fun K hK => ?_
      refine runX_cut 4 fun K1 hK1 => ?_
      simp only [ltb,go_sem,reduceAdd,reduceLT,reduceLeDiff,reduceEqDiff]
      refine callS_ex (containsLb_tot _ (rfl) 158 2 (by simp only [List.length_cons,List.length_nil]; decide) x.labels (fun l => misnamed2_tot hG _ (fun n hn => rfl) fl ty kd lb hf l) hl) ?_
      rintro _ ⟨r5, rfl⟩
      try simp only [go_sem]
      refine hK1 _ ?_
      simp only [ltb,go_sem,reduceAdd,reduceLT,reduceEqDiff]
      refine hK _ _ rfl ?_
      simp only [mwb,reduceAdd,reduceEqDiff]
      exact ex_ret ⟨.inl rfl, _, ⟨_, rfl⟩, rfl⟩
     ·refine runX_cut 3 fun K1 hK1 => ?_
      simp only [ltb,go_sem,reduceAdd,reduceLT,reduceLeDiff,reduceEqDiff]
      refine callF_ex (isName_tot hG _) ?_
      rintro _ ⟨r6, rfl⟩
      try simp only [go_sem]
      refine hK1 _ ?_
      simp only [ltb,go_sem,reduceAdd,reduceLT,reduceEqDiff]
      refine hK _ _ rfl ?_
      simp only [mwb,reduceAdd,reduceEqDiff]
      show Go.Eng.Ex _ _ _ _ _ _
      refine ex_if rfl (fun hc7 => ?_) (fun hc7 => ?_)
      ·refine ex_region_w tt_ok 42 [0,0,0,0,2] [] rfl rfl fun K hK => ?_
       simp only [ltb,go_sem,reduceAdd]
       refine hK _ _ rfl ?_
       simp only [mwb,reduceAdd]
       exact ex_ret ⟨.inl rfl, _, ⟨_, rfl⟩, rfl⟩
      ·refine ex_skip ?_
       show Go.Eng.Ex _ _ _ _ _ _
       refine ex_region_w tt_ok 42 (0::0::0::0::2::(rp 33 0 [1,1,1,1])) [] rfl rfl fun K hK => ?_
       refine runX_cut 4 fun K1 hK1 => ?_
       simp only [ltb,go_sem,reduceAdd,reduceLT,reduceLeDiff,reduceEqDiff]
       refine callS_ex (containsLb_tot _ (rfl) 158 2 (by simp only [List.length_cons,List.length_nil]; decide) x.labels (fun l => misnamed2_tot hG _ (fun n hn => rfl) fl ty kd lb hf l) hl) ?_
       rintro _ ⟨r7, rfl⟩
       try simp only [go_sem]
       refine hK1 _ ?_
       simp only [ltb,go_sem,reduceAdd,reduceLT,reduceEqDiff]
       refine hK _ _ rfl ?_
       simp only [mwb,reduceAdd,reduceEqDiff]
       exact ex_ret ⟨.inl rfl, _, ⟨_, rfl⟩, rfl⟩
end Go.Proofs.YtpjdfcigadnhcaaGreatDoor
end

section
namespace Go.Proofs.YtpjdfcigadnhcaaGreatDoor
open Go.Eng
open Nat (reduceAdd reduceLT reduceLeDiff reduceMul reduceEqDiff reduceSub)
variable [Glob]
section
variable {σ : Type} {M : σ → List Blk} {n k k1 k2 : Nat}
theorem walkP_ok (hn : ∀ s, (M s).length = n) (hk : k < n) (hk1 : k1 < n) (hk2 : k2 < n) (h1 : ∀ s, (M s)[k1]? = some (.box [.yld k])) (h2 : ∀ s, (M s)[k2]? = some (.box [.clo (.func 92) [] [.ptr k1 0, .ptr k2 0]])) (hb : ∀ s, (M s).all (belowB n) = true)
  (step : σ → Ty → σ × Bool) (G : σ → Prop) (hG : ∀ s u, G s → (step s u).2 = true → G (step s u).1) {B : Nat} (hB : B ≤ 1048576) (Pd : Ty → Prop) (hy : ∀ s u, G s → u.size ≤ B → Pd u → YOk Tryz.prog k [encTy u] (M s) (step s u).2 (M (step s u).1)) :
  ∀ (N : Nat) (t : Ty) (s : σ), G s → (∀ v ∈ t.nodes, Pd v) → t.size ≤ N → N ≤ B → FnOkS Tryz.prog 92 [encTy t, .ptr k1 0, .ptr k2 0] (M s) (bl (stepL step s t.nodes).2) (M (stepL step s t.nodes).1) := by
 have g0 : ∀ s (l : List Blk), (M s ++ l)[n]? = l[0]? := fun s l => by rw [List.getElem?_append_right (by rw [hn]; exact Nat.le_refl _), hn, Nat.sub_self]
 have g1 : ∀ s (l : List Blk), (M s ++ l)[n + 1]? = l[1]? := fun s l => by rw [List.getElem?_append_right (by rw [hn]; omega), hn, Nat.add_sub_cancel_left]
 have gk1 : ∀ s (l : List Blk), (M s ++ l)[k1]? = some (.box [.yld k]) := fun s l => by rw [List.getElem?_append_left (by rw [hn]; exact hk1)]; exact h1 s
 have gk2 : ∀ s (l : List Blk), (M s ++ l)[k2]? = some (.box [.clo (.func 92) [] [.ptr k1 0, .ptr k2 0]]) := fun s l => by rw [List.getElem?_append_left (by rw [hn]; exact hk2)]; exact h2 s
 have gs : ∀ s (l : List Blk) X, (M s ++ l).set n X = M s ++ l.set 0 X := fun s l X => by rw [List.set_append_right _ _ (by rw [hn]; exact Nat.le_refl _), hn, Nat.sub_self]
 have gt : ∀ s (l : List Blk), (M s ++ l).take n = M s := fun s l => by rw [← hn s, List.take_left]
 have gt' : ∀ s, (M s).take n = M s := fun s => by rw [List.take_of_length_le (by rw [hn]; exact Nat.le_refl _)]
 have fy : ∀ s u (l : List Blk), G s → u.size ≤ B → Pd u → YOk Tryz.prog k [encTy u] (M s ++ l) (step s u).2 (M (step s u).1 ++ l) := fun s u l hg hu hp => by
  refine (hy s u hg hu hp).frame (by rw [hn]; exact hk) ?_ (by rw [hn]; exact hb s) (by rw [hn, hn]) (by rw [hn]; exact hb _) l
  rw [encTy_eq]; simp [belowV, belowL, tyCells]
 intro N
 induction N with
 | zero => intro t s hg hP h; have := t.size_pos; omega
 | succ N ih =>
  intro t s hg hP hN hNB
  have hpl := t.parts_length
  have hps := t.size_parts
  have hpn := length_le_sum Ty.size Ty.size_pos t.parts
  have hne := t.nodes_eq
  have hp := sparts_ok t (by omega)
  have hyt := fun l => fy s t l hg (by omega) (hP t (by rw [t.nodes_eq]; simp))
  have ihf : ∀ u s (l : List Blk), G s → (∀ v ∈ u.nodes, Pd v) → u.size ≤ N → FnOkS Tryz.prog 92 [encTy u, .ptr k1 0, .ptr k2 0] (M s ++ l) (bl (stepL step s u.nodes).2) (M (stepL step s u.nodes).1 ++ l) := fun u s l hg hq hu => by
   refine (ih u s hg hq hu (by omega)).frame ?_ (by rw [hn]; exact hb s) rfl (by rw [hn, hn]) (by rw [hn]; exact hb _) l
   rw [encTy_eq, hn]; simp [belowV, belowL, tyCells, hk1, hk2]
  simp only [encTy_eq,tyCells] at ihf
  refine fns_ok tt_ok (fn := Tryz.f92) n (by rw [hn]; exact Nat.le_refl _) Tryz.func92 rfl Tryz.call92 ?_
  simp only [ltb,startSt,Tryz.ntmps92,List.length_cons,List.length_nil,reduceAdd,reduceSub,List.replicate_succ,List.replicate_zero]
  rw [encTy_eq] at hp hyt ⊢
  simp only [tyCells] at hp hyt ⊢
  refine tri_seq_region tt_ok fun K hK => ?_
  simp only [hn,go_sem]
  refine hK _ ?_
  refine tri_seq ?_
  refine tri_seq_region tt_ok fun K hK => ?_
  simp only [gk1,g0,go_sem,reduceAdd]
  refine .inl ⟨_, _, hyt _, ?_⟩
  try simp only [go_sem,reduceIte,reduceAdd,reduceLT,reduceLeDiff,reduceMul,reduceEqDiff,reduceSub,reduceCtorEq]
  refine hK _ ?_
  cases hbb : (step s t).2 with
  | false =>
   refine tri_cond rfl ?_
   refine tri_seq_region tt_ok fun K hK => ?_
   simp only [go_sem]
   refine hK _ ?_
   refine tri_ret ⟨.inl rfl, ?_⟩
   have hst : stepL step s t.nodes = ((step s t).1, false) := by rw [hne]; simp [stepL, hbb]
   rw [hst]
   exact ⟨rfl, rfl, by dsimp only; rw [gt]; exact hb _, (gt _ _).symm⟩
  | true =>
   refine tri_cond rfl (tri_skip ?_)
   show Tri _ _ _ _ _ _
   refine tri_seq ?_
   refine tri_seq_region tt_ok fun K hK => ?_
   simp only [g0,go_sem,reduceAdd]
   refine .inl ⟨_, _, by simp only [go_sem], hp, ?_⟩
   try simp only [length_encTys,go_sem]
   refine hK _ ?_
   obtain ⟨ps, hps'⟩ : ∃ ps, ps = t.parts := ⟨_, rfl⟩
   rw [← hps'] at hps hpn hne ⊢
   have hPp : ∀ u ∈ ps, ∀ v ∈ u.nodes, Pd v := fun u hu v hv => hP v (by rw [hne]; exact List.mem_cons_of_mem _ (List.mem_flatMap.2 ⟨u, hu, hv⟩))
   refine tri_block (tri_loop_inv (fun N st => ∃ (i : Nat) (s' : σ), G s' ∧ N = ps.length - i ∧ i ≤ ps.length ∧ stepL step s (t :: (ps.take i).flatMap Ty.nodes) = (s', true) ∧
    st = { fr := [.undef, .ptr k1 0, .ptr k2 0, .undef, .undef, .undef, .undef, .undef, .undef, .undef, .undef, .undef, .slice (encTys ps), num ps.length, num i] ++ List.replicate 8 .undef, mem := M s' }) ps.length ?_ ?_)
   ·refine ⟨n, (false::true::true::(rp 9 false [true,true,true])), by rw [hn]; exact Nat.le_refl _, by simp only [maskFr,belowV,hk1,hk2,mkb], by dsimp only; rw [gt]; exact hb _, 0, (step s t).1, hG s t hg hbb, by omega, by omega, by simp [stepL, hbb], ?_⟩
    dsimp only; rw [gt]; rfl
   ·rintro N' st ⟨i, s', hg', rfl, hi, hsi, rfl⟩
    simp only [ltb,List.replicate_succ,List.replicate_zero]
    by_cases hlt : i < ps.length
    ·have hd := lt_dec hlt
     refine tri_seq_region tt_ok fun K hK => ?_
     simp only [hd,go_sem]
     refine hK _ ?_
     refine tri_seq (tri_cond rfl (tri_skip ?_))
     refine tri_seq (tri_block ?_)
     obtain ⟨u, hu⟩ : ∃ u, ps[i]? = some u := ⟨_, List.getElem?_eq_getElem hlt⟩
     have hus := sumBy_mem Ty.size hu
     have hrec := fun l => ihf u s' l hg' (hPp u (List.mem_of_getElem? hu)) (by omega)
     have htk : (ps.take (i + 1)).flatMap Ty.nodes = (ps.take i).flatMap Ty.nodes ++ u.nodes := by rw [List.take_add_one, hu]; simp
     have hnx : stepL step s (t :: (ps.take (i + 1)).flatMap Ty.nodes) = stepL step s' u.nodes := by
      rw [htk, ← List.cons_append, stepL_append, hsi]; simp
     refine tri_seq_region tt_ok fun K hK => ?_
     simp only [get_encTys,hu,encTy_eq,tyCells,hn,g0,gs,go_sem,reduceAdd]
     refine hK _ ?_
     refine tri_seq_region tt_ok fun K hK => ?_
     simp only [gk2,g0,go_sem,reduceAdd]
     refine .inr <| .inl ⟨_, _, hrec _, ?_⟩
     try simp only [go_sem]
     refine hK _ ?_
     cases hbu : (stepL step s' u.nodes).2 with
     | false =>
      refine tri_cond rfl ?_
      refine tri_seq_region tt_ok fun K hK => ?_
      simp only [go_sem]
      refine hK _ ?_
      refine tri_ret ⟨.inl rfl, ?_⟩
      have hst : stepL step s t.nodes = ((stepL step s' u.nodes).1, false) := by
       have hsplit : ps.flatMap Ty.nodes = (ps.take (i + 1)).flatMap Ty.nodes ++ (ps.drop (i + 1)).flatMap Ty.nodes := by rw [← List.flatMap_append, List.take_append_drop]
       rw [hne, hsplit, ← List.cons_append, stepL_append, hnx, hbu]; simp
      rw [hst]
      exact ⟨rfl, rfl, by dsimp only; rw [gt]; exact hb _, (gt _ _).symm⟩
     | true =>
      refine tri_cond rfl (tri_skip ?_)
      show Tri _ _ _ _ _ _
      refine tri_last_region tt_ok fun K hK => ?_
      simp only [go_sem]
      refine hK _ ?_
      have hw2 := i64_succ i (by omega)
      rw [hw2]
      refine ⟨ps.length - (i + 1), by omega, n, (false::true::true::(rp 9 false [true,true,true])), by rw [hn]; exact Nat.le_refl _, by simp only [maskFr,belowV,hk1,hk2,mkb], by dsimp only; rw [gt]; exact hb _, i + 1, (stepL step s' u.nodes).1, stepL_good step hG _ _ hg' hbu, rfl, hlt, by rw [hnx, ← hbu], ?_⟩
      dsimp only; rw [gt]; rfl
    ·have hd := ge_dec hlt
     refine tri_seq_region tt_ok fun K hK => ?_
     simp only [hd,go_sem]
     refine hK _ ?_
     refine tri_seq (tri_cond rfl (tri_exit ?_))
     have hie : i = ps.length := by omega
     subst hie
     show Tri _ _ _ _ _ _
     refine tri_seq_region tt_ok fun K hK => ?_
     simp only [go_sem]
     refine hK _ ?_
     refine tri_ret ⟨.inl rfl, ?_⟩
     rw [List.take_length] at hsi
     rw [hne, hsi]
     exact ⟨rfl, rfl, by dsimp only; rw [gt']; exact hb _, (gt' _).symm⟩
end

section
variable {σ : Type} {M : σ → List Blk} {n k kt : Nat}
theorem iterP_ok (hn : ∀ s, (M s).length = n) (hk : k < n) (hkt : kt < n) {t : Ty} (h1 : ∀ s, (M s)[kt]? = some (.box (tyCells t))) (hb : ∀ s, (M s).all (belowB n) = true)
  (step : σ → Ty → σ × Bool) (G : σ → Prop) (hG : ∀ s u, G s → (step s u).2 = true → G (step s u).1) {B : Nat} (hB : B ≤ 1048576) (Pd : Ty → Prop) (hy : ∀ s u, G s → u.size ≤ B → Pd u → YOk Tryz.prog k [encTy u] (M s) (step s u).2 (M (step s u).1)) (ht : t.size ≤ B) (hP : ∀ v ∈ t.nodes, Pd v) (s : σ) (hs : G s) :
  FnOkS Tryz.prog 91 [.yld k, .ptr kt 0] (M s) (.tup []) (M (stepL step s t.nodes).1) := by
 have g0 : ∀ s (l : List Blk), (M s ++ l)[n]? = l[0]? := fun s l => by rw [List.getElem?_append_right (by rw [hn]; exact Nat.le_refl _), hn, Nat.sub_self]
 have g1 : ∀ s (l : List Blk), (M s ++ l)[n + 1]? = l[1]? := fun s l => by rw [List.getElem?_append_right (by rw [hn]; omega), hn, Nat.add_sub_cancel_left]
 have gkt : ∀ s (l : List Blk), (M s ++ l)[kt]? = some (.box (tyCells t)) := fun s l => by rw [List.getElem?_append_left (by rw [hn]; exact hkt)]; exact h1 s
 have gs : ∀ s (l : List Blk) X, (M s ++ l).set (n + 1) X = M s ++ l.set 1 X := fun s l X => by rw [List.set_append_right _ _ (by rw [hn]; omega), hn, Nat.add_sub_cancel_left]
 have gt : ∀ s (l : List Blk), (M s ++ l).take n = M s := fun s l => by rw [← hn s, List.take_left]
 have hw : ∀ s, G s → FnOkS Tryz.prog 92 [encTy t, .ptr n 0, .ptr (n + 1) 0] (M s ++ [.box [.yld k], .box [.clo (.func 92) [] [.ptr n 0, .ptr (n + 1) 0]]]) (bl (stepL step s t.nodes).2) (M (stepL step s t.nodes).1 ++ [.box [.yld k], .box [.clo (.func 92) [] [.ptr n 0, .ptr (n + 1) 0]]]) := fun s hs => by
  refine walkP_ok (M := fun s => M s ++ [.box [.yld k], .box [.clo (.func 92) [] [.ptr n 0, .ptr (n + 1) 0]]]) (n := n + 2) (k := k) (k1 := n) (k2 := n + 1) (fun s => by simp [hn]) (by omega) (by omega) (by omega) (fun s => g0 _ _) (fun s => g1 _ _) (fun s => ?_) step G hG hB Pd (fun s u hg hu hq => ?_) t.size t s hs hP (Nat.le_refl _) ht
  ·rw [List.all_append, Bool.and_eq_true]
   refine ⟨belowBs_mono (by omega) (hb s), ?_⟩
   simp [belowB, belowV, belowL]; omega
  ·refine (hy s u hg hu hq).frame (by rw [hn]; exact hk) ?_ (by rw [hn]; exact hb s) (by rw [hn, hn]) (by rw [hn]; exact hb _) _
   rw [encTy_eq]; simp [belowV, belowL, tyCells]
 refine fns_ok tt_ok (fn := Tryz.f91) n (by rw [hn]; exact Nat.le_refl _) Tryz.func91 rfl Tryz.call91 ?_
 simp only [ltb,startSt,Tryz.ntmps91,List.length_cons,List.length_nil,reduceAdd,reduceSub,List.replicate_succ,List.replicate_zero]
 have hws := hw s hs
 rw [encTy_eq] at hws
 simp only [tyCells] at hws gkt
 refine tri_seq_region tt_ok fun K hK => ?_
 simp only [hn,go_sem]
 refine hK _ ?_
 refine tri_seq_region tt_ok fun K hK => ?_
 simp only [hn,List.length_append,List.append_assoc,go_sem]
 refine hK _ ?_
 refine tri_seq_region tt_ok fun K hK => ?_
 simp only [g1,gs,go_sem]
 refine hK _ ?_
 refine tri_last_region tt_ok fun K hK => ?_
 simp only [g1,gkt,go_sem,reduceAdd]
 refine .inr <| .inl ⟨_, _, hws, ?_⟩
 try simp only [go_sem]
 refine hK _ ?_
 refine ⟨.inr rfl, rfl, rfl, ?_, ?_⟩
 ·dsimp only; rw [gt]; exact hb _
 ·dsimp only; rw [gt]



theorem triP_types {n0 : Nat} {st : St} {Q : Exit → St → Prop} {f : Operand} {params : Array Tmp} {assign body : Code} {t : Ty} (pre : σ → List Blk) (s0 : σ) (n kt : Nat) (hmem : st.mem = pre s0) (hn : ∀ s, (pre s).length = n) (hkt : kt < n)
  (ht : ∀ s, (pre s)[kt]? = some (.box (tyCells t))) (hb : ∀ s, (pre s).all (belowB (n + 1)) = true) (hfr : st.fr.all (belowV (n + 1)) = true) (hf : st.eval f = .clo (.func 91) [] [.ptr kt 0]) (hp : params.size = 1) (step : σ → Ty → σ × Option Code) {B : Nat} (hB : B ≤ 1048576) (hsz : t.size ≤ B) (Pd : Ty → Prop) (hPt : ∀ v ∈ t.nodes, Pd v)
  (hbody : ∀ s u, u.size ≤ B → Pd u → ∀ (l : Nat) (LR LB : Blk), belowB (n + 1) LR = true → belowB (n + 1) LB = true → Tri Tryz.prog (some l) (n + 1) assign { fr := setPs params.toList [encTy u] st.fr, mem := pre s ++ [LR] } fun ex st1 => ex = .normal ∧ st1.mem[n]? = some LR ∧
   Tri Tryz.prog (some l) (n + 1) body { st1 with mem := st1.mem.set n LB } fun ex st2 => jumpOf ex = some (step s u).2 ∧ st2.mem[n]? = some LB ∧ st2.mem.take n = pre (step s u).1)
  (hq : match (stepJ step s0 t.nodes).2 with
   | none => Q .normal { st with mem := pre (stepJ step s0 t.nodes).1 ++ [.dead] }
   | some c => Tri Tryz.prog none n0 c { st with mem := pre (stepJ step s0 t.nodes).1 ++ [.dead] } Q) : Tri Tryz.prog none n0 (.rangeFunc f params assign body) st Q := by
 have hlen : st.mem.length = n := by rw [hmem, hn]
 have gn : ∀ s X, (pre s ++ [X])[n]? = some X := fun s X => by rw [List.getElem?_append_right (by rw [hn]; exact Nat.le_refl _), hn, Nat.sub_self]; rfl
 have gk : ∀ s X, (pre s ++ [X])[kt]? = some (.box (tyCells t)) := fun s X => by rw [List.getElem?_append_left (by rw [hn]; exact hkt)]; exact ht s
 have gset : ∀ s (X Y : Blk), (pre s ++ [X]).set n Y = pre s ++ [Y] := fun s X Y => by rw [List.set_append_right _ _ (by rw [hn]; exact Nat.le_refl _), hn, Nat.sub_self]; rfl
 have hball : ∀ (s : σ) (a : LoopState) (b : Option Code), (pre s ++ [Blk.loop a b st.fr params assign body]).all (belowB (n + 1)) = true := fun s a b => by
  rw [List.all_append, Bool.and_eq_true]
  exact ⟨hb s, by simp only [List.all_cons,List.all_nil,Bool.and_true,belowB]; exact hfr⟩
 have it := iterP_ok (M := fun s : σ × Option Code => pre s.1 ++ [.loop (if s.2.isNone then .ready else .done) s.2 st.fr params assign body]) (n := n + 1) (k := n) (kt := kt) (t := t) (fun s => by simp [hn]) (by omega) (by omega) (fun s => gk _ _) (fun s => hball _ _ _)
  (stepB step) (fun s => s.2 = none) (fun s u hs h => by simpa [stepB] using h) hB Pd (fun s u hs hu hq => by
   obtain ⟨s, j⟩ := s
   simp only at hs; subst hs
   refine yok_of_body (fr := st.fr) (params := params) (assign := assign) (body := body) (gn _ _) (by simp [hp]) fun l => ?_
   have hl : (pre s ++ [Blk.loop .ready none st.fr params assign body]).length = n + 1 := by simp [hn]
   simp only [Option.isNone_none,if_true,hl]
   refine Tri.mono (hbody s u hu hq l (.loop .ready none st.fr params assign body) (.loop .busy none st.fr params assign body) hfr hfr) ?_
   rintro ex st1 ⟨h1, h2, h3⟩
   refine ⟨h1, h2, Tri.mono h3 ?_⟩
   rintro ex st2 ⟨h4, h5, h6⟩
   refine ⟨_, h4, rfl, h5, ?_, ?_⟩
   ·rw [take_set (hn _) h5 h6]; exact hball _ _ _
   ·rw [take_set (hn _) h5 h6]; rfl) hsz hPt (s0, none) rfl
 rw [stepJ_L] at it
 refine tri_rangeFunc (g := 91) (vs := [.yld n, .ptr kt 0]) (by rw [hf, hlen]; rfl) (by rw [hmem]; exact it) ?_
 rw [hlen]
 refine ⟨_, _, _, _, _, _, gn _ _, ?_, ?_⟩
 ·cases (stepJ step s0 t.nodes).2 <;> simp
 ·generalize hj : (stepJ step s0 t.nodes).2 = j at hq
  cases j with
  | none => dsimp only at hq ⊢; rw [gset]; exact hq
  | some c => dsimp only at hq ⊢; rw [gset]; exact hq
end

end Go.Proofs.YtpjdfcigadnhcaaGreatDoor
end

section
namespace Go.Proofs.YtpjdfcigadnhcaaGreatDoor
open Go.Eng
open Nat (reduceAdd reduceLT reduceLeDiff reduceMul reduceEqDiff reduceSub)
variable [Glob]
set_option maxHeartbeats 4000000
set_option maxRecDepth 100000
theorem typeNode_n (hG : Glob.g = some 0) (t : Ty) (hl : t.flds.length ≤ 1048576) (hm : t.mod.size ≤ 1048575) : ∃ n : Int, FnOk Tryz.prog 56 [encTy t] (num n) := by
 obtain ⟨_, ⟨n, rfl⟩, h⟩ := typeNode_tot hG t hl hm
 exact ⟨n, h⟩
open Classical in
noncomputable def tnOf (hG : Glob.g = some 0) (t : Ty) : Int := if h : t.flds.length ≤ 1048576 ∧ t.mod.size ≤ 1048575 then Classical.choose (typeNode_n hG t h.1 h.2) else 0
theorem tnOf_ok (hG : Glob.g = some 0) (t : Ty) (hl : t.flds.length ≤ 1048576) (hm : t.mod.size ≤ 1048575) : FnOk Tryz.prog 56 [encTy t] (num (tnOf hG t)) := by
 unfold tnOf
 rw [dif_pos ⟨hl, hm⟩]
 exact Classical.choose_spec (typeNode_n hG t hl hm)
noncomputable def firstE (f : Ty → Int) : List Ty → Int
 | [] => 0
 | u :: r => if decide (f u = 0) = true then firstE f r else f u
noncomputable def ctRes (hG : Glob.g = some 0) (t : Ty) : Int := if decide (4096 < (t.size : Int)) || decide (32 < (t.depth : Int)) then 7 else firstE (tnOf hG) t.nodes
theorem stepJ_first (f : Ty → Int) (c : Code) : ∀ (l : List Ty) (s : Int), stepJ (fun (s : Int) u => if decide (f u = 0) = true then (s, none) else (f u, some c)) s l = if decide (firstE f l = 0) = true then (s, none) else (firstE f l, some c)
 | [], s => by simp [stepJ, firstE]
 | u :: r, s => by
  by_cases h : f u = 0
  ·simp only [stepJ,firstE,h,decide_true,if_true]
   exact stepJ_first f c r s
  ·have hd : decide (f u = 0) = false := decide_eq_false h
   simp [stepJ, firstE, h]
theorem checkType_ok (hG : Glob.g = some 0) (t : Ty) (ht : t.size ≤ 1048576) (hP : ∀ v ∈ t.nodes, v.mod.size ≤ 1048575) : FnOk Tryz.prog 20 [encTy t] (num (ctRes hG t)) := by
 have h14 := stsize_ok t ht
 have h16 := stdepth_ok t.size t (Nat.le_refl _) ht
 have h51 := fun B0 B1 h => types_ok t [B0, B1] h
 refine fn_ok tt_ok (fn := Tryz.f20) Tryz.func20 rfl Tryz.call20 ?_
 simp only [ltb,startSt,Tryz.ntmps20,List.length_cons,List.length_nil,reduceAdd,reduceSub,List.replicate_succ,List.replicate_zero]
 rw [encTy_eq] at h14 h16 h51 ⊢
 simp only [tyCells] at h14 h16 h51 ⊢
 refine tri_seq_region tt_ok fun K hK => ?_
 simp only [go_sem]
 refine hK _ ?_
 refine tri_seq ?_
 have res : ctRes hG t = if decide (4096 < (t.size : Int)) || decide (32 < (t.depth : Int)) then 7 else firstE (tnOf hG) t.nodes := rfl
 cases c1 : decide (4096 < (t.size : Int)) with
 | true =>
  rw [c1] at res
  refine tri_seq_region tt_ok fun K hK => ?_
  simp only [go_sem,reduceAdd]
  refine .inl ⟨_, _, by simp only [go_sem], h14, ?_⟩
  try simp only [c1,go_sem]
  refine hK _ ?_
  refine tri_cond rfl ?_
  refine tri_seq_region tt_ok fun K hK => ?_
  simp only [go_sem]
  refine hK _ ?_
  refine tri_ret ⟨.inl rfl, ?_⟩
  rw [res]; rfl
 | false =>
  rw [c1] at res
  cases c2 : decide (32 < (t.depth : Int)) with
  | true =>
   rw [c2] at res
   refine tri_seq_region tt_ok fun K hK => ?_
   simp only [go_sem,reduceAdd]
   refine .inl ⟨_, _, by simp only [go_sem], h14, ?_⟩
   try simp only [c1,go_sem,reduceAdd]
   refine .inl ⟨_, _, by simp only [go_sem], h16, ?_⟩
   try simp only [c2,go_sem]
   refine hK _ ?_
   refine tri_cond rfl ?_
   refine tri_seq_region tt_ok fun K hK => ?_
   simp only [go_sem]
   refine hK _ ?_
   refine tri_ret ⟨.inl rfl, ?_⟩
   rw [res]; rfl
  | false =>
   rw [c2] at res
   refine tri_seq_region tt_ok fun K hK => ?_
   simp only [go_sem,reduceAdd]
   refine .inl ⟨_, _, by simp only [go_sem], h14, ?_⟩
   try simp only [c1,go_sem,reduceAdd]
   refine .inl ⟨_, _, by simp only [go_sem], h16, ?_⟩
   try simp only [c2,go_sem]
   refine hK _ ?_
   refine tri_cond rfl (tri_skip ?_)
   show Tri _ _ _ _ _ _
   refine tri_seq ?_
   refine tri_seq_region tt_ok fun K hK => ?_
   simp only [go_sem,reduceAdd]
   refine .inr <| .inl ⟨_, _, h51 _ _ rfl, ?_⟩
   try simp only [go_sem,reduceAdd]
   refine hK _ ?_
   refine tri_block (triP_types (t := t) (B := 1048576) (fun s : Int => [.box (tyCells t), .box [num s], .box (tyCells t)]) 0 3 2 rfl (fun _ => rfl) (by omega) (fun _ => rfl) (fun _ => rfl) rfl rfl rfl (fun s u => if decide (tnOf hG u = 0) = true then (s, none) else (tnOf hG u, some .ret)) (by omega) ht (fun v => v.mod.size ≤ 1048575) hP ?_ ?_)
   ·intro s u hu hm l LR LB hLR hLB
    have hpl := u.parts_length
    have hn := tnOf_ok hG u (by omega) hm
    rw [encTy_eq] at hn ⊢
    simp only [tyCells] at hn
    simp only [ltb,setPs,tyCells,List.set_cons_succ,List.set_cons_zero]
    refine tri_last_region tt_ok fun K hK => ?_
    simp only [go_sem,reduceAdd]
    refine hK _ ?_
    refine ⟨rfl, rfl, tri_block ?_⟩
    simp only [List.set_cons_succ,List.set_cons_zero]
    refine tri_seq_region tt_ok fun K hK => ?_
    simp only [go_sem,reduceAdd]
    refine .inl ⟨_, _, by simp only [go_sem], hn, ?_⟩
    try simp only [go_sem]
    refine hK _ ?_
    refine tri_seq ?_
    cases c3 : decide (tnOf hG u = 0) with
    | true =>
     refine tri_last_region tt_ok fun K hK => ?_
     simp only [c3,go_sem]
     refine hK _ ?_
     refine tri_cond rfl (tri_skip ?_)
     exact ⟨rfl, rfl, rfl⟩
    | false =>
     refine tri_last_region tt_ok fun K hK => ?_
     simp only [c3,go_sem]
     refine hK _ ?_
     refine tri_cond rfl ?_
     refine tri_seq_region tt_ok fun K hK => ?_
     simp only [go_sem]
     refine hK _ ?_
     exact tri_ret ⟨rfl, rfl, rfl⟩
   ·rw [stepJ_first]
    simp only [Bool.or_self,Bool.false_eq_true,if_false] at res
    rw [res]
    cases c4 : decide (firstE (tnOf hG) t.nodes = 0) with
    | true =>
     have e0 : firstE (tnOf hG) t.nodes = 0 := of_decide_eq_true c4
     simp only [if_true]
     show Tri _ _ _ _ _ _
     refine tri_seq_region tt_ok fun K hK => ?_
     simp only [go_sem]
     refine hK _ ?_
     refine tri_ret ⟨.inl rfl, ?_⟩
     rw [e0]; rfl
    | false =>
     simp only [Bool.false_eq_true,if_false]
     exact tri_ret ⟨.inl rfl, rfl⟩
end Go.Proofs.YtpjdfcigadnhcaaGreatDoor
end

section
namespace Go.Proofs.YtpjdfcigadnhcaaGreatDoor
open Go.Eng
open Nat (reduceAdd reduceLT reduceLeDiff reduceMul reduceEqDiff reduceSub)
variable [Glob]
set_option maxHeartbeats 4000000
set_option maxRecDepth 100000
attribute [local irreducible] runM stepM valD stepOp stepD callF callS
theorem isN_of {f : FuncId} {vs : List V} {n : Int} (h : FnOk Tryz.prog f vs (num n)) : ∃ v, isN v ∧ FnOk Tryz.prog f vs v := ⟨_, ⟨_, rfl⟩, h⟩
def FormMap (kvs : List (Value × Nat × V)) : Prop := ∀ e ∈ kvs, isIntK .i64 e.1 ∧ ∃ (fl : ByteArray) (ty kd : Int) (lb : Bool), e.2.2 = .agg [str fl, num ty, bl lb, num kd] ∧ fl.size ≤ 1048576
theorem FormMap.below {kvs : List (Value × Nat × V)} (h : FormMap kvs) (n : Nat) : (kvs.all fun e => belowV n e.2.2) = true := List.all_eq_true.2 fun e he => by
 obtain ⟨-, fl, ty, kd, lb, e1, -⟩ := h e he
 rw [e1]; rfl
theorem key87 : KeyT Tryz.prog 87 3 134 (isIntK .i64) := keyT_int (by kernel_rfl) (by kernel_rfl)
theorem FormMap.look {kvs : List (Value × Nat × V)} (h : FormMap kvs) {mem : List Blk} {b cl : Nat} (hm : mem[b]? = some (.map kvs cl)) (n : Int) :
  ∃ (fl : ByteArray) (ty kd : Int) (lb ok : Bool), lookupV Tryz.prog mem 87 (.mp b) (num n) true = some (.tup [.agg [str fl, num ty, bl lb, num kd], bl ok]) ∧ fl.size ≤ 1048576 := by
 rcases lookup_key key87 (k := .int .i64 n) ⟨n, rfl⟩ rfl hm (fun e he => (h e he).1) (z := .agg [str ⟨#[]⟩, num 0, bl false, num 0]) (by kernel_rfl) true with ⟨h1, -⟩ | ⟨e, he, -, h1⟩
 ·exact ⟨_, _, _, _, _, h1, by decide⟩
 ·obtain ⟨-, fl, ty, kd, lb, e1, hs⟩ := h e he
  rw [e1] at h1
  exact ⟨_, _, _, _, _, h1, hs⟩
theorem exprNode_tot (hG : Glob.g = some 0) (b0 b1 b3 b4 b5 b6 : Blk) (kvs : List (Value × Nat × V)) (cl : Nat) (hb : ∀ n, 7 ≤ n → belowB n b0 = true ∧ belowB n b1 = true ∧ belowB n b3 = true ∧ belowB n b4 = true ∧ belowB n b5 = true ∧ belowB n b6 = true) (hkf : FormMap kvs) (x : Ex) (hw : x.wt ≤ 1048576) : ∃ r, isN r ∧ FnOkS Tryz.prog 59 [encEx x, .mp 2] ([b0, b1, .map kvs cl, b3, b4, b5, b6]) r ([b0, b1, .map kvs cl, b3, b4, b5, b6]) := by
 refine fns_ex tt_ok (fn := Tryz.f59) Tryz.func59 rfl Tryz.call59 (by simp only [List.all_cons,List.all_nil,bB_map,List.length_cons,List.length_nil,reduceAdd,Bool.and_self,(hb 7 (by omega)).1,(hb 7 (by omega)).2.1,(hb 7 (by omega)).2.2.1,(hb 7 (by omega)).2.2.2.1,(hb 7 (by omega)).2.2.2.2.1,(hb 7 (by omega)).2.2.2.2.2,hkf.below 7]) ?_
 simp only [ltb,startSt,Tryz.ntmps59,List.length_cons,List.length_nil,reduceAdd,reduceSub,List.replicate_succ,List.replicate_zero]
 have hb0 := fun n h => (hb n h).1
 have hb1 := fun n h => (hb n h).2.1
 have hb3 := fun n h => (hb n h).2.2.1
 have hb4 := fun n h => (hb n h).2.2.2.1
 have hb5 := fun n h => (hb n h).2.2.2.2.1
 have hb6 := fun n h => (hb n h).2.2.2.2.2
 have hbk : ∀ n, (kvs.all fun e => belowV n e.2.2) = true := fun n => hkf.below n
 have hlb := x.labels_le
 have hml := x.mod_lt
 have hwb := x.bulk_le_wt
 have hol := x.own_le
 simp only [encEx_eq,exCells]
 obtain ⟨fl, ty, kd, lb, ok, hlook, hf⟩ := hkf.look (mem := [b0, b1, .map kvs cl, b3, b4, b5, b6, .box [num x.kind, str x.mod, str x.name, str x.text, num x.num, .slice (encTys x.types), .slice (x.labels.map encLb), .slice (encExs x.kids)]]) (b := 2) rfl x.kind
 have hT9 : Tryz.prog.underlying 9 = some .string := by kernel_rfl
 have sl : ∀ (a : ByteArray) (ty : TypeId), liftL Tryz.prog (Builtin.len_ #[9] ty) [.sc (.string a)] = some (num a.size) := fun a ty => ev_slen (P := Tryz.prog) (tt := tt) (T := 9) a hT9 ty
 refine ex_region_w tt_ok 77 [0,0,2,0,2] [] rfl rfl fun K hK => ?_
 simp only [ltb,go_sem,reduceAdd,reduceLT]
 refine hK _ _ rfl ?_
 simp only [mwb,reduceAdd,reduceEqDiff]
 refine ex_region_w tt_ok 77 [0,0,0,0,0,2,2,0,0,0,0,1,1,1,1,1,1,1] [] rfl rfl fun K hK => ?_
 refine runX_cut 8 fun K1 hK1 => ?_
 simp only [ltb]
 simp only [tt134,hlook,go_sem,reduceAdd,reduceLT,reduceLeDiff,reduceEqDiff]
 refine hK1 _ ?_
 try simp only [ltb]
 simp only [tt134,go_sem,reduceAdd,reduceLT,reduceEqDiff]
 refine hK _ _ rfl ?_
 simp only [mwb,reduceAdd,reduceEqDiff]
 refine ex_seq ?_
 refine ex_block ?_
 refine ex_region_w tt_ok 77 (rp 18 0 (2::(rp 8 1 []))) [(2, 21)] rfl rfl fun K hK => ?_
 refine runX_cut 3 fun K1 hK1 => ?_
 simp only [ltb,go_sem,reduceAdd,reduceLT,reduceEqDiff]
 refine hK1 _ ?_
 refine runX_case 21 (by rfl) fun b hb2_2 => ?_
 cases b
 ·refine runX_cut 3 fun K1 hK1 => ?_
  simp only [ltb]
  simp only [tt134,go_sem,reduceAdd,reduceLT,reduceEqDiff]
  refine callF_ex (by have h := fits_tot hG x fl ty kd lb hf (by omega); rw [encEx_eq] at h; simp only [exCells] at h; exact h) ?_
  rintro _ ⟨r1, rfl⟩
  try simp only [go_sem]
  refine hK1 _ ?_
  simp only [ltb,go_sem,reduceAdd,reduceLT,reduceEqDiff]
  refine hK _ _ rfl ?_
  simp only [mwb,reduceAdd,reduceEqDiff]
  refine ex_if rfl (fun hc18 => ?_) (fun hc18 => ?_)
  ·refine ex_region_w tt_ok 77 [0,0,0,0,2] [] rfl rfl fun K hK => ?_
   simp only [ltb,go_sem,reduceAdd]
   refine hK _ _ rfl ?_
   simp only [mwb,reduceAdd]
   exact ex_ret ⟨.inl rfl, _, ⟨_, rfl⟩, rfl, rfl, rfl⟩
  ·refine ex_region_w tt_ok 77 (rp 27 0 (2::(rp 16 1 []))) [(4, 32), (10, 38)] rfl rfl fun K hK => ?_
   refine runX_cut 5 fun K1 hK1 => ?_
   simp only [ltb]
   simp only [List.length_map,go_sem,reduceAdd,reduceLT,reduceLeDiff,reduceEqDiff]
   refine hK1 _ ?_
   refine runX_case 32 (by rfl) fun b hb4_4 => ?_
   cases b
   ·refine runX_cut 6 fun K1 hK1 => ?_
    simp only [ltb]
    simp only [length_encTys,go_sem,reduceAdd,reduceLT,reduceLeDiff,reduceEqDiff]
    refine hK1 _ ?_
    refine runX_case 38 (by rfl) fun b hb4_10 => ?_
    cases b
    ·try simp only [ltb]
     simp only [sl,go_sem,reduceAdd,reduceLT,reduceLeDiff,reduceEqDiff]
     refine hK _ _ rfl ?_
     simp only [mwb,reduceAdd,reduceEqDiff]
     refine ex_if rfl (fun hc27 => ?_) (fun hc27 => ?_)
     ·refine ex_region_w tt_ok 77 [0,0,0,0,2] [] rfl rfl fun K hK => ?_
      simp only [ltb,go_sem,reduceAdd]
      refine hK _ _ rfl ?_
      simp only [mwb,reduceAdd]
      exact ex_ret ⟨.inl rfl, _, ⟨_, rfl⟩, rfl, rfl, rfl⟩
     ·refine ex_region_w tt_ok 77 (rp 44 0 [2,1,1,1]) [] rfl rfl fun K hK => ?_
      refine runX_cut 3 fun K1 hK1 => ?_
      simp only [ltb]
      simp only [tt134,go_sem,reduceAdd,reduceLT,reduceEqDiff]
      refine callF_ex (by have h := misnamed_tot hG x fl ty kd lb hf (by omega) (by omega); rw [encEx_eq] at h; simp only [exCells] at h; exact h) ?_
      rintro _ ⟨r2, rfl⟩
      try simp only [go_sem]
      refine hK1 _ ?_
      simp only [ltb,go_sem,reduceAdd,reduceLT,reduceEqDiff]
      refine hK _ _ rfl ?_
      simp only [mwb,reduceAdd,reduceEqDiff]
      refine ex_if rfl (fun hc44 => ?_) (fun hc44 => ?_)
      ·refine ex_region_w tt_ok 77 [0,0,0,0,2] [] rfl rfl fun K hK => ?_
       simp only [ltb,go_sem,reduceAdd]
       refine hK _ _ rfl ?_
       simp only [mwb,reduceAdd]
       exact ex_ret ⟨.inl rfl, _, ⟨_, rfl⟩, rfl, rfl, rfl⟩
      ·refine ex_skip ?_
       show Go.Eng.Ex _ _ _ _ _ _
       refine ex_seq ?_
       refine ex_region_w tt_ok 77 (0::0::0::0::0::0::0::2::(rp 40 0 [1,1,1])) [] rfl rfl fun K hK => ?_
       refine runX_cut 3 fun K1 hK1 => ?_
       simp only [ltb,go_sem,reduceAdd,reduceLT,reduceLeDiff,reduceEqDiff]
       refine callF_ex (increaseLb_tot 105 x.labels (fun l => let ⟨r, h1, h2⟩ := lbName_tot l; ⟨r, ⟨_, h1⟩, h2⟩) (by omega)) ?_
       rintro _ ⟨r3, rfl⟩
       try simp only [go_sem]
       refine hK1 _ ?_
       simp only [ltb,go_sem,reduceAdd,reduceLT,reduceEqDiff]
       refine hK _ _ rfl ?_
       simp only [mwb,reduceAdd,reduceEqDiff]
       refine ex_region_w tt_ok 77 (rp 51 0 [1,2]) [] rfl rfl fun K hK => ?_
       simp only [ltb,go_sem,reduceAdd,reduceLT]
       refine hK _ _ rfl ?_
       simp only [mwb,reduceAdd,reduceEqDiff]
       refine ex_if rfl (fun hc52 => ?_) (fun hc52 => ?_)
       ·refine ex_region_w tt_ok 77 (0::0::0::0::2::(rp 48 0 [1])) [] rfl rfl fun K hK => ?_
        simp only [ltb,go_sem,reduceAdd,reduceLT]
        refine hK _ _ rfl ?_
        simp only [mwb,reduceAdd,reduceEqDiff]
        exact ex_ret ⟨.inl rfl, _, ⟨_, rfl⟩, rfl, rfl, rfl⟩
       ·refine ex_skip ?_
        show Go.Eng.Ex _ _ _ _ _ _
        refine ex_seq ?_
        refine ex_seq_joinK [63] 9 (true::true::true::false::true::true::true::true::false::false::false::(rp 43 true (rp 9 false [true]))) (fun vs => ∃ b : Bool, vs = [bl b]) ?_ ?_
        ·refine ex_last_region_w tt_ok 77 (rp 54 0 (rp 10 2 [])) [(3, 57)] (by kernel_rfl) rfl rfl fun K hK => ?_
         refine runX_cut 4 fun K1 hK1 => ?_
         simp only [ltb,go_sem,reduceAdd,reduceLT,reduceLeDiff,reduceEqDiff]
         refine hK1 _ ?_
         refine runX_case 57 (by rfl) fun b hb11_3 => ?_
         cases b
         ·simp only [ltb,go_sem,reduceAdd,reduceLT,reduceEqDiff]
          refine hK _ _ rfl ?_
          simp only [mwb,reduceAdd,reduceEqDiff]
          refine ⟨[_], ?_, 9, (true::true::true::false::true::true::true::true::false::false::false::(rp 43 true (rp 9 false [true]))), by omega, by simp only [maskFr,belowV,belowL,reduceLT,mkb], by simp only [hb0,hb1,hb3,hb4,hb5,hb6,hbk,reduceLeDiff,List.all_cons,List.all_nil,belowV,bB_box,bB_map,reduceLeDiff,Bool.and_self,List.take_succ_cons,List.take_nil], by simp only [maskFr,putAll,List.set_cons_zero,List.set_cons_succ,mkb]; rfl⟩
          exact ⟨_, rfl⟩
         ·simp only [ltb,go_sem,reduceAdd,reduceLT,reduceLeDiff,reduceEqDiff]
          refine hK _ _ rfl ?_
          simp only [mwb,reduceAdd,reduceEqDiff]
          refine ⟨[_], ?_, 9, (true::true::true::false::true::true::true::true::false::false::false::(rp 43 true (rp 9 false [true]))), by omega, by simp only [maskFr,belowV,belowL,reduceLT,mkb], by simp only [hb0,hb1,hb3,hb4,hb5,hb6,hbk,reduceLeDiff,List.all_cons,List.all_nil,belowV,bB_box,bB_map,reduceLeDiff,Bool.and_self,List.take_succ_cons,List.take_nil], by simp only [maskFr,putAll,List.set_cons_zero,List.set_cons_succ,mkb]; rfl⟩
          exact ⟨_, rfl⟩
        ·intro vs hJ
         obtain ⟨b63, rfl⟩ := hJ
         simp only [maskFr,putAll,List.set_cons_zero,List.set_cons_succ,mkb]
         refine ex_if rfl (fun hc63 => ?_) (fun hc63 => ?_)
         ·refine ex_region_w tt_ok 77 [0,0,0,0,2] [] rfl rfl fun K hK => ?_
          simp only [ltb,go_sem,reduceAdd]
          refine hK _ _ rfl ?_
          simp only [mwb,reduceAdd]
          exact ex_ret ⟨.inl rfl, _, ⟨_, rfl⟩, rfl, rfl, rfl⟩
         ·refine ex_skip ?_
          show Go.Eng.Ex _ _ _ _ _ _
          refine ex_seq ?_
          refine ex_region_w tt_ok 77 (rp 64 0 [1,2,2,2]) [] rfl rfl fun K hK => ?_
          refine runX_cut 2 fun K1 hK1 => ?_
          simp only [ltb,go_sem,reduceAdd,reduceLT]
          refine callF_ex (by have h := sown_ok x (by have := x.own_len; omega); rw [encEx_eq] at h; simp only [exCells] at h; exact ⟨_, rfl, h⟩) ?_
          rintro _ rfl
          try simp only [go_sem]
          have hnl := length_le_sum Ty.size Ty.size_pos x.own
          have hlen : (encTys x.own).length = x.own.length := length_encTys _
          have hown : ∀ u ∈ x.own, u.wt < x.wt := fun u hu => Ex.wt_own hu
          obtain ⟨ps, hps⟩ : ∃ ps, ps = x.own := ⟨_, rfl⟩
          rw [← hps] at hnl hown hol ⊢
          refine hK1 _ ?_
          try simp only [ltb]
          simp only [length_encTys,go_sem,reduceAdd,reduceLT,reduceEqDiff]
          refine hK _ _ rfl ?_
          simp only [mwb,reduceAdd,reduceEqDiff]
          refine ex_block ?_
          refine ex_range 67 (ps.length) 9 (false::false::false::false::true::(rp 13 false (true::(rp 8 false (true::(rp 16 false (true::false::false::false::false::false::false::false::true::(rp 10 false [true,false,true,true,true])))))))) (by omega) (by simp only [maskFr,belowV,mkb]) (by simp only [hb0,hb1,hb3,hb4,hb5,hb6,hbk,reduceLeDiff,List.all_cons,List.all_nil,belowV,bB_box,bB_map,reduceLeDiff,Bool.and_self,List.take_succ_cons,List.take_nil]) (by rfl) fun i hii => ?_
          simp only [maskFr,List.set_cons_zero,List.set_cons_succ,mkb]
          refine ex_region_w tt_ok 77 (rp 68 0 [2]) [] rfl rfl fun K hK => ?_
          simp only [ltb,go_sem,reduceAdd,reduceLT]
          refine hK _ _ rfl ?_
          simp only [mwb,reduceAdd]
          refine ex_seq ?_
          refine ex_if rfl (fun hc68 => ?_) (fun hc68 => ?_)
          ·have hlti : i < (ps.length) := by simpa using hc68
           obtain ⟨u, hu⟩ : ∃ u, ps[i]? = some u := ⟨_, List.getElem?_eq_getElem hlti⟩
           refine ex_skip ?_
           show Go.Eng.Ex _ _ _ _ _ _
           refine ex_seq ?_
           refine ex_block ?_
           refine ex_region_w tt_ok 77 (rp 9 0 (2::(rp 59 0 [1,1]))) [] rfl rfl fun K hK => ?_
           try simp only [ltb]
           simp only [get_encTys,hu,encTy_eq,tyCells,go_sem,reduceAdd,reduceLT,reduceEqDiff]
           refine hK _ _ rfl ?_
           simp only [mwb,reduceAdd,reduceEqDiff]
           refine ex_region_w tt_ok 77 (rp 10 0 (2::(rp 60 0 [1,1]))) [] rfl rfl fun K hK => ?_
           refine runX_cut 2 fun K1 hK1 => ?_
           simp only [ltb,go_sem,reduceAdd,reduceLT]
           refine callF_ex (by have h := checkType_ok hG u (by have := u.size_le_wt; have := hown u (List.mem_of_getElem? hu); omega) (Ty.mods (by have := hown u (List.mem_of_getElem? hu); omega)); rw [encTy_eq] at h; simp only [tyCells] at h; exact isN_of h) ?_
           rintro _ ⟨r5, rfl⟩
           try simp only [go_sem]
           refine hK1 _ ?_
           simp only [ltb,go_sem,reduceAdd,reduceLT,reduceEqDiff]
           refine hK _ _ rfl ?_
           simp only [mwb,reduceAdd,reduceEqDiff]
           refine ex_region_w tt_ok 77 (rp 73 0 [1,2]) [] rfl rfl fun K hK => ?_
           simp only [ltb,go_sem,reduceAdd,reduceLT]
           refine hK _ _ rfl ?_
           simp only [mwb,reduceAdd,reduceEqDiff]
           refine ex_if rfl (fun hc74 => ?_) (fun hc74 => ?_)
           ·refine ex_region_w tt_ok 77 (0::0::0::0::2::(rp 70 0 [1])) [] rfl rfl fun K hK => ?_
            simp only [ltb,go_sem,reduceAdd,reduceLT]
            refine hK _ _ rfl ?_
            simp only [mwb,reduceAdd,reduceEqDiff]
            exact ex_ret ⟨.inl rfl, _, ⟨_, rfl⟩, rfl, rfl, rfl⟩
           ·refine ex_skip ?_
            show Go.Eng.Ex _ _ _ _ _ _
            refine ex_last_region_w tt_ok 77 (rp 67 0 (2::(rp 8 0 [2]))) [] (by kernel_rfl) rfl rfl fun K hK => ?_
            simp only [ltb,go_sem,reduceAdd,reduceLT]
            refine hK _ _ rfl ?_
            simp only [mwb,reduceAdd,reduceEqDiff]
            have hwi := i64_succ i (by omega)
            refine ⟨hlti, 9, (false::false::false::false::true::(rp 13 false (true::(rp 8 false (true::(rp 16 false (true::false::false::false::false::false::false::false::true::(rp 10 false [true,false,true,true,true])))))))), by omega, by simp only [maskFr,belowV,mkb], by simp only [ltb,hb0,hb1,hb3,hb4,hb5,hb6,hbk,reduceLeDiff,List.all_cons,List.all_nil,belowV,bB_box,bB_map,reduceLeDiff,Bool.and_self], ?_⟩
            simp only [hwi,maskFr,mkb]
          ·have hgei : ¬ i < (ps.length) := by simpa using hc68
           refine ex_exit ?_
           show Go.Eng.Ex _ _ _ _ _ _
           refine ex_region_w tt_ok 77 [0,0,0,0,2] [] rfl rfl fun K hK => ?_
           simp only [ltb,go_sem,reduceAdd]
           refine hK _ _ rfl ?_
           simp only [mwb,reduceAdd]
           exact ex_ret ⟨.inl rfl, _, ⟨_, rfl⟩, rfl, rfl, rfl⟩
    ·simp only [ltb,go_sem,reduceAdd,reduceLT,reduceEqDiff]
     refine hK _ _ rfl ?_
     simp only [mwb,reduceAdd,reduceEqDiff]
     refine ex_cond rfl ?_
     refine ex_region_w tt_ok 77 [0,0,0,0,2] [] rfl rfl fun K hK => ?_
     simp only [ltb,go_sem,reduceAdd]
     refine hK _ _ rfl ?_
     simp only [mwb,reduceAdd]
     exact ex_ret ⟨.inl rfl, _, ⟨_, rfl⟩, rfl, rfl, rfl⟩
   ·refine runX_cut 8 fun K1 hK1 => ?_
    simp only [ltb,go_sem,reduceAdd,reduceLT,reduceEqDiff]
    refine hK1 _ ?_
    simp only [ltb,go_sem,reduceAdd,reduceLT,reduceEqDiff]
    refine hK _ _ rfl ?_
    simp only [mwb,reduceAdd,reduceEqDiff]
    refine ex_cond rfl ?_
    refine ex_region_w tt_ok 77 [0,0,0,0,2] [] rfl rfl fun K hK => ?_
    simp only [ltb,go_sem,reduceAdd]
    refine hK _ _ rfl ?_
    simp only [mwb,reduceAdd]
    exact ex_ret ⟨.inl rfl, _, ⟨_, rfl⟩, rfl, rfl, rfl⟩
 ·simp only [ltb,go_sem,reduceAdd,reduceLT,reduceEqDiff]
  refine hK _ _ rfl ?_
  simp only [mwb,reduceAdd,reduceEqDiff]
  refine ex_cond rfl ?_
  refine ex_region_w tt_ok 77 [0,0,0,0,2] [] rfl rfl fun K hK => ?_
  simp only [ltb,go_sem,reduceAdd]
  refine hK _ _ rfl ?_
  simp only [mwb,reduceAdd]
  exact ex_ret ⟨.inl rfl, _, ⟨_, rfl⟩, rfl, rfl, rfl⟩
end Go.Proofs.YtpjdfcigadnhcaaGreatDoor
end

section
namespace Go.Proofs.YtpjdfcigadnhcaaGreatDoor
open Go.Eng
open Nat (reduceAdd reduceLT reduceLeDiff reduceMul reduceEqDiff reduceSub)
variable [Glob]
set_option maxHeartbeats 4000000
set_option maxRecDepth 100000
def fm0 : Value × Nat × V := (.int .i64 0, 0, .agg [str ⟨#[98]⟩, num 0, bl false, num 0])
def fm1 : Value × Nat × V := (.int .i64 1, 1, .agg [str ⟨#[120]⟩, num 0, bl false, num 0])
def fm2 : Value × Nat × V := (.int .i64 2, 2, .agg [str ⟨#[98]⟩, num 0, bl false, num 0])
def fm3 : Value × Nat × V := (.int .i64 3, 3, .agg [str ⟨#[110]⟩, num 0, bl false, num 0])
def fm4 : Value × Nat × V := (.int .i64 4, 4, .agg [str ⟨#[109,110]⟩, num (-1), bl false, num 0])
def fm5 : Value × Nat × V := (.int .i64 5, 5, .agg [str ⟨#[]⟩, num 0, bl true, num 0])
def fm6 : Value × Nat × V := (.int .i64 6, 6, .agg [str ⟨#[110]⟩, num 0, bl false, num 1])
def fm7 : Value × Nat × V := (.int .i64 7, 7, .agg [str ⟨#[110]⟩, num 0, bl false, num 1])
def fm8 : Value × Nat × V := (.int .i64 8, 8, .agg [str ⟨#[116,111]⟩, num 0, bl true, num 1])
def fm9 : Value × Nat × V := (.int .i64 9, 9, .agg [str ⟨#[]⟩, num 0, bl true, num 1])
def fm10 : Value × Nat × V := (.int .i64 10, 10, .agg [str ⟨#[110]⟩, num 0, bl false, num 2])
def fm11 : Value × Nat × V := (.int .i64 11, 11, .agg [str ⟨#[]⟩, num 1, bl false, num 1])
def fm12 : Value × Nat × V := (.int .i64 12, 12, .agg [str ⟨#[]⟩, num 1, bl false, num 3])
def fm13 : Value × Nat × V := (.int .i64 13, 13, .agg [str ⟨#[118]⟩, num 1, bl true, num 1])
def fm14 : Value × Nat × V := (.int .i64 14, 14, .agg [str ⟨#[]⟩, num 1, bl false, num (-1)])
def fm15 : Value × Nat × V := (.int .i64 15, 15, .agg [str ⟨#[110,120]⟩, num 1, bl false, num 3])
def fm16 : Value × Nat × V := (.int .i64 16, 16, .agg [str ⟨#[110]⟩, num 0, bl false, num (-1)])
def fmAll : List (Value × Nat × V) := [fm0, fm1, fm2, fm3, fm4, fm5, fm6, fm7, fm8, fm9, fm10, fm11, fm12, fm13, fm14, fm15, fm16]
theorem fmAll_ok : FormMap fmAll := fun e he => by
 simp only [fmAll,List.mem_cons,List.not_mem_nil,or_false] at he
 rcases he with rfl | rfl | rfl | rfl | rfl | rfl | rfl | rfl | rfl | rfl | rfl | rfl | rfl | rfl | rfl | rfl | rfl <;> exact ⟨⟨_, rfl⟩, _, _, _, _, rfl, by decide⟩
theorem ins0 (B0 B1 : Blk) : insertV Tryz.prog [B0, B1, .map [] 0] 87 (.mp 2) (num 0) (.agg [str ⟨#[98]⟩, num 0, bl false, num 0]) = some [B0, B1, .map [fm0] 1] := by kernel_rfl
theorem ins1 (B0 B1 : Blk) : insertV Tryz.prog [B0, B1, .map [fm0] 1] 87 (.mp 2) (num 1) (.agg [str ⟨#[120]⟩, num 0, bl false, num 0]) = some [B0, B1, .map [fm0, fm1] 2] := by kernel_rfl
theorem ins2 (B0 B1 : Blk) : insertV Tryz.prog [B0, B1, .map [fm0, fm1] 2] 87 (.mp 2) (num 2) (.agg [str ⟨#[98]⟩, num 0, bl false, num 0]) = some [B0, B1, .map [fm0, fm1, fm2] 3] := by kernel_rfl
theorem ins3 (B0 B1 : Blk) : insertV Tryz.prog [B0, B1, .map [fm0, fm1, fm2] 3] 87 (.mp 2) (num 3) (.agg [str ⟨#[110]⟩, num 0, bl false, num 0]) = some [B0, B1, .map [fm0, fm1, fm2, fm3] 4] := by kernel_rfl
theorem ins4 (B0 B1 : Blk) : insertV Tryz.prog [B0, B1, .map [fm0, fm1, fm2, fm3] 4] 87 (.mp 2) (num 4) (.agg [str ⟨#[109,110]⟩, num (-1), bl false, num 0]) = some [B0, B1, .map [fm0, fm1, fm2, fm3, fm4] 5] := by kernel_rfl
theorem ins5 (B0 B1 : Blk) : insertV Tryz.prog [B0, B1, .map [fm0, fm1, fm2, fm3, fm4] 5] 87 (.mp 2) (num 5) (.agg [str ⟨#[]⟩, num 0, bl true, num 0]) = some [B0, B1, .map [fm0, fm1, fm2, fm3, fm4, fm5] 6] := by kernel_rfl
theorem ins6 (B0 B1 : Blk) : insertV Tryz.prog [B0, B1, .map [fm0, fm1, fm2, fm3, fm4, fm5] 6] 87 (.mp 2) (num 6) (.agg [str ⟨#[110]⟩, num 0, bl false, num 1]) = some [B0, B1, .map [fm0, fm1, fm2, fm3, fm4, fm5, fm6] 7] := by kernel_rfl
theorem ins7 (B0 B1 : Blk) : insertV Tryz.prog [B0, B1, .map [fm0, fm1, fm2, fm3, fm4, fm5, fm6] 7] 87 (.mp 2) (num 7) (.agg [str ⟨#[110]⟩, num 0, bl false, num 1]) = some [B0, B1, .map [fm0, fm1, fm2, fm3, fm4, fm5, fm6, fm7] 8] := by kernel_rfl
theorem ins8 (B0 B1 : Blk) : insertV Tryz.prog [B0, B1, .map [fm0, fm1, fm2, fm3, fm4, fm5, fm6, fm7] 8] 87 (.mp 2) (num 8) (.agg [str ⟨#[116,111]⟩, num 0, bl true, num 1]) = some [B0, B1, .map [fm0, fm1, fm2, fm3, fm4, fm5, fm6, fm7, fm8] 9] := by kernel_rfl
theorem ins9 (B0 B1 : Blk) : insertV Tryz.prog [B0, B1, .map [fm0, fm1, fm2, fm3, fm4, fm5, fm6, fm7, fm8] 9] 87 (.mp 2) (num 9) (.agg [str ⟨#[]⟩, num 0, bl true, num 1]) = some [B0, B1, .map [fm0, fm1, fm2, fm3, fm4, fm5, fm6, fm7, fm8, fm9] 10] := by kernel_rfl
theorem ins10 (B0 B1 : Blk) : insertV Tryz.prog [B0, B1, .map [fm0, fm1, fm2, fm3, fm4, fm5, fm6, fm7, fm8, fm9] 10] 87 (.mp 2) (num 10) (.agg [str ⟨#[110]⟩, num 0, bl false, num 2]) = some [B0, B1, .map [fm0, fm1, fm2, fm3, fm4, fm5, fm6, fm7, fm8, fm9, fm10] 11] := by kernel_rfl
theorem ins11 (B0 B1 : Blk) : insertV Tryz.prog [B0, B1, .map [fm0, fm1, fm2, fm3, fm4, fm5, fm6, fm7, fm8, fm9, fm10] 11] 87 (.mp 2) (num 11) (.agg [str ⟨#[]⟩, num 1, bl false, num 1]) = some [B0, B1, .map [fm0, fm1, fm2, fm3, fm4, fm5, fm6, fm7, fm8, fm9, fm10, fm11] 12] := by kernel_rfl
theorem ins12 (B0 B1 : Blk) : insertV Tryz.prog [B0, B1, .map [fm0, fm1, fm2, fm3, fm4, fm5, fm6, fm7, fm8, fm9, fm10, fm11] 12] 87 (.mp 2) (num 12) (.agg [str ⟨#[]⟩, num 1, bl false, num 3]) = some [B0, B1, .map [fm0, fm1, fm2, fm3, fm4, fm5, fm6, fm7, fm8, fm9, fm10, fm11, fm12] 13] := by kernel_rfl
theorem ins13 (B0 B1 : Blk) : insertV Tryz.prog [B0, B1, .map [fm0, fm1, fm2, fm3, fm4, fm5, fm6, fm7, fm8, fm9, fm10, fm11, fm12] 13] 87 (.mp 2) (num 13) (.agg [str ⟨#[118]⟩, num 1, bl true, num 1]) = some [B0, B1, .map [fm0, fm1, fm2, fm3, fm4, fm5, fm6, fm7, fm8, fm9, fm10, fm11, fm12, fm13] 14] := by kernel_rfl
theorem ins14 (B0 B1 : Blk) : insertV Tryz.prog [B0, B1, .map [fm0, fm1, fm2, fm3, fm4, fm5, fm6, fm7, fm8, fm9, fm10, fm11, fm12, fm13] 14] 87 (.mp 2) (num 14) (.agg [str ⟨#[]⟩, num 1, bl false, num (-1)]) = some [B0, B1, .map [fm0, fm1, fm2, fm3, fm4, fm5, fm6, fm7, fm8, fm9, fm10, fm11, fm12, fm13, fm14] 15] := by kernel_rfl
theorem ins15 (B0 B1 : Blk) : insertV Tryz.prog [B0, B1, .map [fm0, fm1, fm2, fm3, fm4, fm5, fm6, fm7, fm8, fm9, fm10, fm11, fm12, fm13, fm14] 15] 87 (.mp 2) (num 15) (.agg [str ⟨#[110,120]⟩, num 1, bl false, num 3]) = some [B0, B1, .map [fm0, fm1, fm2, fm3, fm4, fm5, fm6, fm7, fm8, fm9, fm10, fm11, fm12, fm13, fm14, fm15] 16] := by kernel_rfl
theorem ins16 (B0 B1 : Blk) : insertV Tryz.prog [B0, B1, .map [fm0, fm1, fm2, fm3, fm4, fm5, fm6, fm7, fm8, fm9, fm10, fm11, fm12, fm13, fm14, fm15] 16] 87 (.mp 2) (num 16) (.agg [str ⟨#[110]⟩, num 0, bl false, num (-1)]) = some [B0, B1, .map [fm0, fm1, fm2, fm3, fm4, fm5, fm6, fm7, fm8, fm9, fm10, fm11, fm12, fm13, fm14, fm15, fm16] 17] := by kernel_rfl
theorem forms_ok (B0 B1 : Blk) (hb : ∀ n, 2 ≤ n → belowB n B0 = true ∧ belowB n B1 = true) : FnOkS Tryz.prog 58 [] [B0, B1] (.mp 2) [B0, B1, .map fmAll 17] := by
 refine fns_ok tt_ok (fn := Tryz.f58) 3 (by simp only [List.length_cons,List.length_nil]; decide) Tryz.func58 rfl Tryz.call58 ?_
 simp only [startSt,Tryz.ntmps58,List.length_cons,List.length_nil,reduceAdd,reduceSub,List.replicate_succ,List.replicate_zero,List.nil_append]
 refine tri_seq_region_w tt_ok 20 [2] [] rfl rfl fun K hK => ?_
 simp only [go_sem]
 refine hK _ _ rfl ?_
 simp only [mwb]
 refine tri_seq_region_w tt_ok 20 (2::(rp 19 1 [])) [] rfl rfl fun K hK => ?_
 refine runOpsW_cut 7 fun K1 hK1 => ?_
 simp only [ltb]
 simp only [tt134,ins0,ins1,ins2,go_sem,reduceAdd,reduceLT,reduceLeDiff,reduceEqDiff,reduceCtorEq]
 refine hK1 _ ?_
 refine runOpsW_cut 7 fun K1 hK1 => ?_
 simp only [ltb]
 simp only [tt134,ins3,ins4,ins5,go_sem,reduceAdd,reduceLT,reduceLeDiff,reduceEqDiff,reduceCtorEq]
 refine hK1 _ ?_
 refine runOpsW_cut 7 fun K1 hK1 => ?_
 simp only [ltb]
 simp only [tt134,ins6,ins7,ins8,ins9,go_sem,reduceAdd,reduceLT,reduceLeDiff,reduceEqDiff,reduceCtorEq]
 refine hK1 _ ?_
 refine runOpsW_cut 7 fun K1 hK1 => ?_
 simp only [ltb]
 simp only [tt134,ins10,ins11,ins12,go_sem,reduceAdd,reduceLT,reduceLeDiff,reduceEqDiff,reduceCtorEq]
 refine hK1 _ ?_
 refine runOpsW_cut 7 fun K1 hK1 => ?_
 simp only [ltb]
 simp only [tt134,ins13,ins14,ins15,ins16,go_sem,reduceAdd,reduceLT,reduceLeDiff,reduceEqDiff,reduceCtorEq]
 refine hK1 _ ?_
 simp only [ltb,go_sem,reduceLT,reduceEqDiff]
 refine hK _ _ rfl ?_
 simp only [mwb,reduceEqDiff]
 refine tri_ret ⟨.inl rfl, rfl, rfl, ?_, rfl⟩
 have h1 := hb 3 (by omega)
 have h2 := fmAll_ok.below 3
 show (belowB 3 B0 && (belowB 3 B1 && ((fmAll.all fun e => belowV 3 e.2.2) && true))) = true
 rw [h1.1, h1.2, h2]; rfl
end Go.Proofs.YtpjdfcigadnhcaaGreatDoor
end

section
namespace Go.Proofs.YtpjdfcigadnhcaaGreatDoor
open Go.Eng
variable [Glob]
end Go.Proofs.YtpjdfcigadnhcaaGreatDoor
end

section
namespace Go.Proofs.YtpjdfcigadnhcaaGreatDoor
open Go.Eng
open Nat (reduceAdd reduceLT reduceLeDiff reduceMul reduceEqDiff reduceSub)
variable [Glob]
set_option maxHeartbeats 4000000
set_option maxRecDepth 100000
attribute [local irreducible] runM stepM valD stepOp stepD callF callS
mutual
def Ex.depth : Ex → Nat
 | .mk _ _ _ _ _ _ _ ks => 1 + depthExs ks
def depthExs : List Ex → Nat
 | [] => 0
 | e :: r => max e.depth (depthExs r)
end
theorem depthExs_max (ts : List Ex) : depthExs ts = maxBy Ex.depth ts := by induction ts with | nil => rfl | cons t r ih => simp [depthExs, maxBy, ih]
theorem Ex.depth_eq (t : Ex) : t.depth = 1 + maxBy Ex.depth t.kids := by
 obtain ⟨k, m, n, x, i, ts, ls, ks⟩ := t
 rw [Ex.depth, depthExs_max]; rfl
theorem Ex.depth_le_bulk : ∀ (N : Nat) (t : Ex), t.bulk ≤ N → t.depth ≤ t.bulk := by
 intro N
 induction N with
 | zero => intro t h; have := t.bulk_pos; omega
 | succ N ih =>
  intro t hN
  rw [Ex.depth_eq]
  have h1 := t.bulk_kids
  have := maxBy_lt Ex.depth (l := t.kids) (B := sumBy Ex.bulk t.kids) fun i a ha => by
   have := sumBy_mem Ex.bulk ha
   have := ih a (by omega)
   omega
  omega
theorem exDepth1_ok (x : Ex) (hl : x.kids.length ≤ 1048576) (hd : x.depth ≤ 1048576) (hrec : ∀ (i : Nat) (k : Ex), x.kids[i]? = some k → FnOk Tryz.prog 57 [encEx k] (num k.depth)) : ∃ r, (fun v => v = num x.depth) r ∧ FnOk Tryz.prog 57 [encEx x] r := by
 refine fn_ex tt_ok (fn := Tryz.f57) Tryz.func57 rfl Tryz.call57 ?_
 simp only [ltb,startSt,Tryz.ntmps57,List.length_cons,List.length_nil,reduceAdd,reduceSub,List.replicate_succ,List.replicate_zero]
 have hde := x.depth_eq
 simp only [encEx_eq,exCells]
 refine ex_region_w tt_ok 20 [0,2,2] [] rfl rfl fun K hK => ?_
 simp only [ltb,go_sem,reduceLT]
 refine hK _ _ rfl ?_
 simp only [mwb,reduceAdd,reduceEqDiff]
 refine ex_region_w tt_ok 20 [0,0,0,2] [] rfl rfl fun K hK => ?_
 simp only [ltb,go_sem]
 refine hK _ _ rfl ?_
 simp only [mwb,reduceAdd]
 refine ex_seq ?_
 refine ex_region_w tt_ok 20 [0,0,0,0,0,0,1,2,2,2] [] rfl rfl fun K hK => ?_
 try simp only [ltb]
 simp only [length_encExs,go_sem,reduceLT,reduceEqDiff]
 refine hK _ _ rfl ?_
 simp only [mwb,reduceAdd,reduceEqDiff]
 refine ex_block ?_
 refine ex_loopK [9,3] [num 0, num 0] 1 [false,false,true,true,false,false,false,true,true,true] (fun vs => ((x.kids.length : Int) - intOf (vs.headD .undef)).toNat) (fun vs => ∃ (i : Nat), vs = [num i, num (maxBy Ex.depth (x.kids.take i) : Nat)] ∧ i ≤ x.kids.length) (by omega) (by simp only [maskFr,belowV,mkb]) (by simp only [List.all_cons,List.all_nil,belowV,belowB,Bool.and_self,List.take_succ_cons,List.take_nil]) (by rfl) (⟨0, rfl, by omega⟩) fun vs hI => ?_
 obtain ⟨i, rfl, hi⟩ := hI
 simp only [maskFr,putAll,List.set_cons_zero,List.set_cons_succ,mkb]
 refine ex_region_w tt_ok 20 (rp 10 0 [2]) [] rfl rfl fun K hK => ?_
 simp only [ltb,go_sem,reduceLT]
 refine hK _ _ rfl ?_
 simp only [mwb,reduceAdd]
 refine ex_seq ?_
 refine ex_if rfl (fun hc10 => ?_) (fun hc10 => ?_)
 ·have hlt : i < x.kids.length := by simpa using hc10
  obtain ⟨k, hx⟩ : ∃ k, x.kids[i]? = some k := ⟨_, List.getElem?_eq_getElem hlt⟩
  have hk := hrec i k hx
  rw [encEx_eq] at hk
  simp only [exCells] at hk
  have hw := i64_succ i (by omega)
  refine ex_skip ?_
  show Go.Eng.Ex _ _ _ _ _ _
  refine ex_seq ?_
  refine ex_block ?_
  refine ex_region_w tt_ok 20 [0,0,0,0,0,2,0,0,0,0,0,1,1] [] rfl rfl fun K hK => ?_
  try simp only [ltb]
  simp only [get_encExs,hx,encEx_eq,exCells,go_sem,reduceAdd,reduceLT,reduceEqDiff]
  refine hK _ _ rfl ?_
  simp only [mwb,reduceAdd,reduceEqDiff]
  refine ex_last_region_w tt_ok 20 [0,0,0,2,0,0,0,0,0,0,0,0,0,2,2,2,2] [] (by kernel_rfl) rfl rfl fun K hK => ?_
  refine runX_cut 3 fun K1 hK1 => ?_
  simp only [ltb,go_sem,reduceAdd,reduceLT,reduceEqDiff]
  refine callF_ex (⟨_, rfl, hk⟩) ?_
  rintro _ rfl
  try simp only [go_sem]
  refine hK1 _ ?_
  simp only [ltb,go_sem,reduceAdd,reduceLT,reduceEqDiff]
  refine hK _ _ rfl ?_
  simp only [mwb,reduceAdd,reduceEqDiff]
  show Go.Eng.Ex _ _ _ _ _ _
  refine ex_last_region_w tt_ok 20 (rp 9 0 [2,0,0,0,0,0,0,0,2]) [] (by kernel_rfl) rfl rfl fun K hK => ?_
  try simp only [ltb]
  simp only [hw,go_sem,reduceAdd,reduceLT]
  refine hK _ _ rfl ?_
  simp only [mwb,reduceAdd,reduceEqDiff]
  refine ⟨[_, _], ?_, ?_, 1, [false,false,true,true,false,false,false,true,true,true], by omega, by simp only [maskFr,belowV,mkb], by simp only [ltb,List.all_cons,List.all_nil,belowV,belowB,Bool.and_self], by simp only [maskFr,putAll,List.set_cons_zero,List.set_cons_succ,mkb]; rfl⟩
  ·refine ⟨i + 1, ?_, hlt⟩
   rw [maxBy_take_succ Ex.depth hx, ← i64_max]
  ·simp only [intOf,List.headD_cons]; omega
 ·have hnl : ¬ i < x.kids.length := by simpa using hc10
  have hge : i = x.kids.length := by omega
  subst hge
  rw [List.take_length]
  have hw := i64_succ (maxBy Ex.depth x.kids) (by omega)
  have hz : ((maxBy Ex.depth x.kids + 1 : Nat) : Int) = (x.depth : Int) := by omega
  refine ex_exit ?_
  show Go.Eng.Ex _ _ _ _ _ _
  refine ex_region_w tt_ok 20 (0::0::2::(rp 15 0 [1,1])) [] rfl rfl fun K hK => ?_
  try simp only [ltb]
  simp only [hw,hz,go_sem,reduceLT,reduceEqDiff]
  refine hK _ _ rfl ?_
  simp only [mwb,reduceAdd,reduceEqDiff]
  exact ex_ret ⟨.inl rfl, _, rfl, rfl⟩
theorem exDepth_ok : ∀ (N : Nat) (x : Ex), x.bulk ≤ N → N ≤ 1048576 → FnOk Tryz.prog 57 [encEx x] (num x.depth) := by
 intro N
 induction N with
 | zero => intro x h; have := x.bulk_pos; omega
 | succ N ih =>
  intro x hN hb
  have h2 := x.kids_length
  have h4 := Ex.depth_le_bulk _ x (Nat.le_refl _)
  obtain ⟨_, rfl, h⟩ := exDepth1_ok x (by omega) (by omega) fun i k hk => ih k (by
   have h1 := sumBy_mem Ex.bulk hk
   have h3 := x.bulk_kids
   omega) (by omega)
  exact h
end Go.Proofs.YtpjdfcigadnhcaaGreatDoor
end
