/-
  CONTRACTS: the law's own comparing closure, walked by the kit's own words.
  CONTRACTS: slices.SortFunc at uses with the law's own closure.
  THE LAW SyntaxFrees itself.
  THE LAW SyntaxFrees, A: what it does at every argument of the bound, in every world of the shape.
  CLOSING, B: a world for the witness.
-/
import Derived.Test.YtpjdfcigadnhcaaGreatDoorF10
import Derived.Test.YtpjdfcigadnhcaaGreatDoorCards
import Derived.Test.YtpjdfcigadnhcaaGreatDoorTie
import Derived.Lib.LaidTab
set_option linter.all false
section
namespace Go.Proofs.YtpjdfcigadnhcaaGreatDoor
open Go.Proofs Go.Shelf Go.Lib Go.Sort Go.RowKit
theorem two_new (w : World) (o1 o2 : Obj) : (w.alloc o1).alloc o2 = grow w #[o1, o2] := by rw [alloc_eq_grow, alloc_eq_grow, grow_grow]; rfl
set_option maxHeartbeats 4000000 in
set_option maxRecDepth 100000 in
theorem less45 (a b c d : ByteArray) (w : World) : Calls Tryz.prog 45 #[.agg #[.string a, .string b], .agg #[.string c, .string d]] w fun e w' => e = .returned (.bool (Op.bytesLess a.toList c.toList || (a.toList == c.toList) && Op.bytesLess b.toList d.toList)) ∧ w' = grow w #[.cells #[.string a, .string b] 65, .cells #[.string c, .string d] 65] := by
 go_enter Tryz.func45, Tryz.ntmps45
 go_wp2
 all_goals (go_ret; refine ⟨?_, by rw [two_new]⟩; simp_all)
def cf44 (x y : ByteArray × ByteArray) : Int := if (Op.bytesLess x.1.toList y.1.toList || (x.1.toList == y.1.toList) && Op.bytesLess x.2.toList y.2.toList) = true then -1 else 1
set_option maxHeartbeats 4000000 in
set_option maxRecDepth 100000 in
theorem closure44 (a b c d : ByteArray) (w : World) : Calls Tryz.prog 44 #[.agg #[.string a, .string b], .agg #[.string c, .string d]] w fun e w' => e = .returned (.int .i64 (cf44 (a, b) (c, d))) ∧ ∃ q os', w' = grow (w.drewN q) os' := by
 unfold cf44
 dsimp only
 have c1 : ∀ W, Calls Tryz.prog 45 #[.agg #[.string a, .string b], .agg #[.string c, .string d]] W fun e w' => e = .returned (.bool (Op.bytesLess a.toList c.toList || (a.toList == c.toList) && Op.bytesLess b.toList d.toList)) ∧ w' = grow W #[.cells #[.string a, .string b] 65, .cells #[.string c, .string d] 65] := less45 a b c d
 generalize (Op.bytesLess a.toList c.toList || (a.toList == c.toList) && Op.bytesLess b.toList d.toList) = r at c1 ⊢
 cases r
 all_goals
  go_enter Tryz.func44, Tryz.ntmps44
  go_wp2_with (go_at_call 45; refine (c1 _).mono ?_; rintro e w' ⟨rfl, hw⟩; rw [hw])
  go_ret
  refine ⟨by simp, 0, #[.cells #[.string a, .string b] 65, .cells #[.string c, .string d] 65, .cells #[.string a, .string b] 65, .cells #[.string c, .string d] 65], ?_⟩
  rw [two_new, grow_grow]
  rfl
end Go.Proofs.YtpjdfcigadnhcaaGreatDoor
end

section
namespace Go.Proofs.YtpjdfcigadnhcaaGreatDoor
open Go.Eng
variable [Glob]
theorem sortNil44 : FnOk Tryz.prog 43 [.slice [], .sc (.func (.func 44) #[] #[])] (.tup []) := ev_call noOrc_ok noNat_ok 3000 (by kernel_rfl)
theorem ltO44 : ltOf cf44 = ltU := by
 funext x y
 show decide (cf44 x y < 0) = ltU x y
 have e : (x.1.toList == y.1.toList) = decide (x.1 = y.1) := by
  rw [Bool.eq_iff_iff, beq_iff_eq, decide_eq_true_eq]
  exact ⟨tl_eq, fun h => by rw [h]⟩
 unfold cf44 ltU ltS
 rw [e]
 generalize (Op.bytesLess x.1.toList y.1.toList || decide (x.1 = y.1) && Op.bytesLess x.2.toList y.2.toList) = b
 cases b <;> rfl
theorem sortUF_ok (m : List Blk) (b v : Nat) (l : List Us) (hb : m[b]? = some (.rows v 2 (l.map encU))) (hl : l.length ≤ 1048576) :
  FnOkR Tryz.prog 43 [.ms b v 0 l.length, .sc (.func (.func 44) #[] #[])] m fun r m' => r = .sc (.tuple #[]) ∧ ∃ l' : List Us, l'.Perm l ∧ (∀ (i j : Nat) (x y : Us), i < j → l'[i]? = some x → l'[j]? = some y → ltU y x = false) ∧ m' = m.set b (.rows v 2 (l'.map encU)) := by
 rcases Nat.eq_zero_or_pos l.length with h0 | h0
 ·obtain rfl : l = [] := List.length_eq_zero_iff.1 h0
  refine (FnOk.none_rows (m := m) (b := b) (v := v) sortNil44 fun E xs h => ?_).rel.mono fun r m' ⟨h1, h2⟩ => ⟨h1, [], List.Perm.refl _, fun i j x y _ h => by simp at h, by rw [h2, set_same hb]⟩
  obtain ⟨y, ys, rfl, hr, hy⟩ := h.of_cons
  rw [hy.of_nil]
  have := rep_sc hr
  subst this
  exact RepL.cons (.sc _ _) (.nil _)
 ·have h := sortU_ok 44 cf44 (by rw [ltO44]; exact lin_swo lin_us) Tryz.call44 (fun x y W => closure44 x.1 x.2 y.1 y.2 W) m b v l hb h0 hl
  rw [ltO44] at h
  exact h
end Go.Proofs.YtpjdfcigadnhcaaGreatDoor
end

section
namespace Go.Proofs.YtpjdfcigadnhcaaGreatDoor
open Go.Eng
open Nat (reduceAdd reduceLT reduceLeDiff reduceMul reduceEqDiff reduceSub)
variable [Glob]
set_option maxHeartbeats 4000000
set_option maxRecDepth 100000
theorem compactS_at (m : List Blk) (b v : Nat) (l : List ByteArray) (n : Nat) (hn : n = l.length) (hb : b < m.length) (hbl : m.all (belowB m.length) = true) (hl : l.length ≤ 1048576) (hm : m[b]? = some (.rows v 1 (l.map str))) :
  FnOkS Tryz.prog 46 [.ms b v 0 n] m (.ms b v 0 (dd l).length) (m.set b (.rows v 1 ((dd l).map str))) := by
 have h := compactS_ok m b v hb hbl l hl
 rw [set_same hm, ← hn] at h
 exact h
theorem compactU_at (m : List Blk) (b v : Nat) (l : List Us) (n : Nat) (hn : n = l.length) (hb : b < m.length) (hbl : m.all (belowB m.length) = true) (hl : l.length ≤ 1048576) (hm : m[b]? = some (.rows v 2 (l.map encU))) :
  FnOkS Tryz.prog 47 [.ms b v 0 n] m (.ms b v 0 (dd l).length) (m.set b (.rows v 2 ((dd l).map encU))) := by
 have h := compactU_ok m b v hb hbl l hl
 rw [set_same hm, ← hn] at h
 exact h
theorem frees_law (haw : FnOk Tryz.prog 10 [] (bl true)) (t u : Ty) (x : ByteArray) (ht : t.wt ≤ 1048576) (hu : u.wt ≤ 1048576) : FnOk Tryz.prog 9 [encTy t, encTy u, str x] (bl true) := by
 have w1 := t.size_le_wt
 have w2 := u.size_le_wt
 have hfew := fewTypes_ok 200 [t, u] (by intro v hv; simp at hv; rcases hv with rfl | rfl <;> omega) (by simp)
 obtain ⟨_, ⟨cc, rfl, hcc⟩, hct⟩ := rcheckType_tot t (by omega)
 have hsum : sumBy Ty.size [t, u] = t.size + u.size := by simp [sumBy]
 simp only [encTys] at hfew
 rw [hsum] at hfew
 have hfree := free_ok t ht
 have hfreeu := free_ok u hu
 have hmn : ∀ (v : Ty), v.wt ≤ 1048576 → ∀ w ∈ v.nodes, w.name.size ≤ 1048576 := fun v hv w hw => by
  have h1 := Ty.wt_nodes hw
  have h2 := w.wt_eq
  omega
 rw [free_eq t (hmn t ht)] at hfree
 rw [free_eq u (hmn u hu)] at hfreeu
 obtain ⟨vm, hmt⟩ := mentL_ok t (by omega)
 have hmu := ment_ok u (by omega)
 refine fn_ok tt_ok (fn := Tryz.f9) Tryz.func9 rfl Tryz.call9 ?_
 simp only [ltb,startSt,Tryz.ntmps9,List.length_cons,List.length_nil,reduceAdd,reduceSub,List.replicate_succ,List.replicate_zero]
 have eT : ∀ v : Ty, encTy v = .agg (tyCells v) := encTy_eq
 simp only [encTy_eq,tyCells] at hfew hct hfree hfreeu hmt hmu ⊢
 refine tri_seq_region tt_ok fun K hK => ?_
 simp only [go_sem,reduceIte,reduceAdd,reduceLT,reduceLeDiff,reduceMul,reduceEqDiff,reduceSub,reduceCtorEq]
 refine hK _ ?_
 refine tri_seq ?_
 refine tri_seq_region tt_ok fun K hK => ?_
 simp only [go_sem,reduceIte,reduceAdd,reduceLT,reduceLeDiff,reduceMul,reduceEqDiff,reduceSub,reduceCtorEq]
 refine .inl ⟨_, _, by simp only [memAfter_bl,go_sem,reduceIte,reduceAdd,reduceLT,reduceLeDiff,reduceMul,reduceEqDiff,reduceSub,reduceCtorEq,List.take_length], haw, ?_⟩
 try simp only [memAfter_bl,go_sem,reduceIte,reduceAdd,reduceLT,reduceLeDiff,reduceMul,reduceEqDiff,reduceSub,reduceCtorEq]
 refine hK _ ?_
 refine tri_cond rfl (tri_skip ?_)
 show Tri _ _ _ _ _ _
 refine tri_seq ?_
 by_cases hs200 : t.size + u.size ≤ 200
 ·have hd : decide (((t.size + u.size : Nat) : Int) ≤ 200) = true := decide_eq_true (by omega)
  rw [hd] at hfew
  refine tri_seq_region tt_ok fun K hK => ?_
  simp only [go_sem,reduceIte,reduceAdd,reduceLT,reduceLeDiff,reduceMul,reduceEqDiff,reduceSub,reduceCtorEq]
  refine .inl ⟨_, _, by simp only [memAfter_bl,go_sem,reduceIte,reduceAdd,reduceLT,reduceLeDiff,reduceMul,reduceEqDiff,reduceSub,reduceCtorEq,List.take_length], hfew, ?_⟩
  try simp only [memAfter_bl,go_sem,reduceIte,reduceAdd,reduceLT,reduceLeDiff,reduceMul,reduceEqDiff,reduceSub,reduceCtorEq]
  refine .inl ⟨_, _, by simp only [memAfter_nil,go_sem,reduceIte,reduceAdd,reduceLT,reduceLeDiff,reduceMul,reduceEqDiff,reduceSub,reduceCtorEq,List.take_length], hct, ?_⟩
  try simp only [memAfter_nil,go_sem,reduceIte,reduceAdd,reduceLT,reduceLeDiff,reduceMul,reduceEqDiff,reduceSub,reduceCtorEq]
  have hne : ∀ c : Int, ∀ X Y : Operand, lift2 Tryz.prog (opB .neq 40 X Y) (num c) (num 0) = some (bl (!decide (c = 0))) := fun c X Y => by simp only [go_sem]
  by_cases hc0 : cc = 0
  ·have hl := hcc hc0
   subst hc0
   refine hK _ ?_
   refine tri_cond rfl (tri_skip ?_)
   show Tri _ _ _ _ _ _
   refine tri_mask 2 [false,false,true,true,true] (by omega) (by simp only [maskFr,belowV,belowL,belowB,reduceLT,mkb]) (by simp only [maskFr,belowV,belowL,belowB,reduceLT,mkb]) ?_
   simp only [maskFr,belowV,belowL,belowB,reduceLT,mkb]
   obtain ⟨G, hG⟩ : ∃ G, G = gathT ltS (nmOf 9) t := ⟨_, rfl⟩
   rw [← hG] at hfree
   have hGl : G.length ≤ 200 := by rw [hG]; have := gathT_length (lt := ltS) (nmOf_len 9) t; omega
   have hu0 : usesOf x u t 0 = gathT ltU usOf t := by simp [usesOf]
   have hn0 : namesOf x u t 0 = [] := rfl
   have nlen := fun i => namesOf_length x u t i (by omega) (by omega)
   have ulen := fun i => usesOf_length x u t i (by omega) (by omega)
   rw [← hu0] at hmt
   refine tri_seq_region tt_ok fun K hK => ?_
   simp only [go_sem,reduceIte,reduceAdd,reduceLT,reduceLeDiff,reduceMul,reduceEqDiff,reduceSub,reduceCtorEq]
   refine .inl ⟨_, _, by simp only [memAfter_nil,go_sem,reduceIte,reduceAdd,reduceLT,reduceLeDiff,reduceMul,reduceEqDiff,reduceSub,reduceCtorEq,List.take_length], hfree, ?_⟩
   try simp only [memAfter_nil,go_sem,reduceIte,reduceAdd,reduceLT,reduceLeDiff,reduceMul,reduceEqDiff,reduceSub,reduceCtorEq]
   refine hK _ ?_
   refine tri_seq_region tt_ok fun K hK => ?_
   simp only [go_sem,reduceIte,reduceAdd,reduceLT,reduceLeDiff,reduceMul,reduceEqDiff,reduceSub,reduceCtorEq]
   refine hK _ ?_
   refine tri_seq_region tt_ok fun K hK => ?_
   simp only [go_sem,reduceIte,reduceAdd,reduceLT,reduceLeDiff,reduceMul,reduceEqDiff,reduceSub,reduceCtorEq]
   refine .inr <| .inl ⟨_, _, FnOkS.live (by simp only [go_sem,reduceIte,reduceAdd,reduceLT,reduceLeDiff,reduceMul,reduceEqDiff,reduceSub,reduceCtorEq,List.take_length]) (hmt) rfl _, ?_⟩
   try simp only [go_sem,reduceIte,reduceAdd,reduceLT,reduceLeDiff,reduceMul,reduceEqDiff,reduceSub,reduceCtorEq]
   refine hK _ ?_
   refine tri_nilMs 8 0 1 rfl ?_
   simp only [ltb,List.set_cons_zero,List.set_cons_succ,List.length_cons,List.length_nil,reduceAdd]
   refine tri_seq ?_
   refine tri_seq_region tt_ok fun K hK => ?_
   simp only [List.length_map,go_sem,reduceIte,reduceAdd,reduceLT,reduceLeDiff,reduceMul,reduceEqDiff,reduceSub,reduceCtorEq]
   refine hK _ ?_
   refine tri_block (tri_loop_inv (fun N st => ∃ (i vn vu : Nat), N = G.length - i ∧ i ≤ G.length ∧
    st = { fr := [.undef, .undef, str x, .ptr 0 0, .ptr 1 0, .undef, .undef, .undef, .ms 3 vn 0 (namesOf x u t i).length, .ms 2 vu 0 (usesOf x u t i).length, .undef, .undef, .undef, .undef, .undef, .undef, .undef, .undef, .undef, .undef, .undef, .undef, .undef, .undef, .undef, .undef, .undef, .undef, .undef, .slice (G.map str), num G.length, num i] ++ List.replicate 41 .undef, mem := [.box [num t.kind, str t.mod, str t.name, .slice (encTys t.args), .slice (encFds t.flds)], .box [num u.kind, str u.mod, str u.name, .slice (encTys u.args), .slice (encFds u.flds)], .rows vu 2 ((usesOf x u t i).map encU), .rows vn 1 ((namesOf x u t i).map str)] }) G.length ?_ ?_)
   ·exact ⟨4, (false::false::true::true::true::false::false::false::true::true::(rp 19 false [true,true,true])), by omega, by simp only [maskFr,belowV,belowL,belowB,reduceLT,mkb], by simp only [maskFr,belowV,belowL,belowB,reduceLT,mkb], 0, 0, vm, rfl, Nat.zero_le _, by simp only [maskFr,belowV,belowL,belowB,reduceLT,hn0,mkb]; rfl⟩
   ·rintro N' st ⟨i, vn, vu, rfl, hi, rfl⟩
    simp only [ltb,List.replicate_succ,List.replicate_zero]
    by_cases hlt : i < G.length
    ·have hd3 := lt_dec hlt
     obtain ⟨z, hz⟩ : ∃ z, G[i]? = some z := ⟨_, List.getElem?_eq_getElem hlt⟩
     have hz' : (gathT ltS (nmOf 9) t)[i]? = some z := by rw [← hG]; exact hz
     refine tri_seq_region tt_ok fun K hK => ?_
     simp only [hd3,go_sem,reduceIte,reduceAdd,reduceLT,reduceLeDiff,reduceMul,reduceEqDiff,reduceSub,reduceCtorEq]
     refine hK _ ?_
     refine tri_seq (tri_cond rfl (tri_skip ?_))
     show Tri _ _ _ _ _ _
     refine tri_seq (tri_block ?_)
     refine tri_seq_region tt_ok fun K hK => ?_
     simp only [List.getElem?_map,hz,go_sem,reduceIte,reduceAdd,reduceLT,reduceLeDiff,reduceMul,reduceEqDiff,reduceSub,reduceCtorEq]
     refine hK _ ?_
     refine tri_seq_region tt_ok fun K hK => ?_
     simp only [go_sem,reduceIte,reduceAdd,reduceLT,reduceLeDiff,reduceMul,reduceEqDiff,reduceSub,reduceCtorEq]
     refine hK _ ?_
     have hw := i64_succ i (by omega)
     have gl1 := gathT_length (lt := ltS) (nmOf_len 9) u
     have gl2 := gathT_length (lt := ltU) usOf_len u
     have n1 := nlen i
     have n2 := ulen i
     have hA : (namesOf x u t i).length + (gathT ltS (nmOf 9) u).length ≤ 34359738368 := by omega
     have hB : (usesOf x u t i).length + (gathT ltU usOf u).length ≤ 34359738368 := by omega
     have hC : (namesOf x u t i).length + 1 ≤ 34359738368 := by omega
     have hF : ∀ l : List Us, firstOk (l.map encU) 0 2 = true := fun l => firstMap l encU 2 fun _ => rfl
     have hFs : ∀ l : List ByteArray, firstOk (l.map str) 0 1 = true := fun l => firstMap l str 1 fun _ => rfl
     cases hq : (z.toList == x.toList) with
     | true =>
      have hzx : z = x := tl_eq (eq_of_beq hq)
      have en : namesOf x u t (i + 1) = namesOf x u t i ++ gathT ltS (nmOf 9) u := by rw [namesOf_succ hz', if_pos hzx]
      have eu : usesOf x u t (i + 1) = usesOf x u t i ++ gathT ltU usOf u := by rw [usesOf_succ hz', if_pos hzx]
      refine tri_cond rfl ?_
      refine tri_seq_region tt_ok fun K hK => ?_
      simp only [go_sem,reduceIte,reduceAdd,reduceLT,reduceLeDiff,reduceMul,reduceEqDiff,reduceSub,reduceCtorEq]
      refine .inl ⟨_, _, by simp only [memAfter_nil,List.length_map,hA,hFs,go_sem,reduceIte,reduceAdd,reduceLT,reduceLeDiff,reduceMul,reduceEqDiff,reduceSub,reduceCtorEq,List.take_length], hfreeu, ?_⟩
      try simp only [memAfter_nil,List.length_map,hA,hFs,go_sem,reduceIte,reduceAdd,reduceLT,reduceLeDiff,reduceMul,reduceEqDiff,reduceSub,reduceCtorEq]
      refine hK _ ?_
      refine tri_last_region tt_ok fun K hK => ?_
      simp only [go_sem,reduceIte,reduceAdd,reduceLT,reduceLeDiff,reduceMul,reduceEqDiff,reduceSub,reduceCtorEq]
      refine .inl ⟨_, _, by simp only [memAfter_nil,List.length_map,hB,hF,go_sem,reduceIte,reduceAdd,reduceLT,reduceLeDiff,reduceMul,reduceEqDiff,reduceSub,reduceCtorEq,List.take_length], hmu, ?_⟩
      try simp only [memAfter_nil,List.length_map,hB,hF,go_sem,reduceIte,reduceAdd,reduceLT,reduceLeDiff,reduceMul,reduceEqDiff,reduceSub,reduceCtorEq]
      refine hK _ ?_
      show Tri _ _ _ _ _ _
      refine tri_last_region tt_ok fun K hK => ?_
      simp only [hw,go_sem,reduceIte,reduceAdd,reduceLT,reduceLeDiff,reduceMul,reduceEqDiff,reduceSub,reduceCtorEq]
      refine hK _ ?_
      refine ⟨G.length - (i + 1), by omega, 4, (false::false::true::true::true::false::false::false::true::true::(rp 19 false [true,true,true])), by omega, by simp only [maskFr,belowV,belowL,belowB,reduceLT,mkb], by simp only [maskFr,belowV,belowL,belowB,reduceLT,mkb], i + 1, vn + 1, vu + 1, rfl, hlt, ?_⟩
      simp only [maskFr,belowV,belowL,belowB,reduceLT,en,eu,List.map_append,List.length_append,List.length_map,mkb] <;> rfl
     | false =>
      have hzx : ¬ z = x := fun e => by rw [e, beq_self_eq_true] at hq; cases hq
      have en : namesOf x u t (i + 1) = namesOf x u t i ++ [z] := by rw [namesOf_succ hz', if_neg hzx]
      have eu : usesOf x u t (i + 1) = usesOf x u t i := by rw [usesOf_succ hz', if_neg hzx, List.append_nil]
      refine tri_cond rfl ?_
      refine tri_last_region tt_ok fun K hK => ?_
      simp only [List.length_map,hC,go_sem,reduceIte,reduceAdd,reduceLT,reduceLeDiff,reduceMul,reduceEqDiff,reduceSub,reduceCtorEq]
      refine hK _ ?_
      show Tri _ _ _ _ _ _
      refine tri_last_region tt_ok fun K hK => ?_
      simp only [hw,go_sem,reduceIte,reduceAdd,reduceLT,reduceLeDiff,reduceMul,reduceEqDiff,reduceSub,reduceCtorEq]
      refine hK _ ?_
      refine ⟨G.length - (i + 1), by omega, 4, (false::false::true::true::true::false::false::false::true::true::(rp 19 false [true,true,true])), by omega, by simp only [maskFr,belowV,belowL,belowB,reduceLT,mkb], by simp only [maskFr,belowV,belowL,belowB,reduceLT,mkb], i + 1, vn + 1, vu, rfl, hlt, ?_⟩
      simp only [maskFr,belowV,belowL,belowB,reduceLT,en,eu,List.map_append,List.length_append,List.length_map,mkb] <;> rfl
    ·have hd3 := ge_dec hlt
     refine tri_seq_region tt_ok fun K hK => ?_
     simp only [hd3,go_sem,reduceIte,reduceAdd,reduceLT,reduceLeDiff,reduceMul,reduceEqDiff,reduceSub,reduceCtorEq]
     refine hK _ ?_
     refine tri_seq (tri_cond rfl (tri_exit ?_))
     obtain rfl : i = G.length := by omega
     show Tri _ _ _ _ _ _
     have n1 := nlen G.length
     have n2 := ulen G.length
     refine tri_seq_region tt_ok fun K hK => ?_
     simp only [go_sem,reduceIte,reduceAdd,reduceLT,reduceLeDiff,reduceMul,reduceEqDiff,reduceSub,reduceCtorEq]
     refine .inr <| .inr <| .inl ⟨_, sortS_ok _ 3 _ _ rfl (by omega), ?_⟩
     rintro r m' ⟨rfl, ln, hnp, hns, rfl⟩
     have hnl : ln.length = (namesOf x u t G.length).length := hnp.length_eq
     simp only [List.set_cons_zero,List.set_cons_succ,go_sem,reduceIte,reduceAdd,reduceLT,reduceLeDiff,reduceMul,reduceEqDiff,reduceSub,reduceCtorEq]
     refine hK _ ?_
     refine tri_seq_region tt_ok fun K hK => ?_
     simp only [go_sem,reduceIte,reduceAdd,reduceLT,reduceLeDiff,reduceMul,reduceEqDiff,reduceSub,reduceCtorEq]
     refine .inr <| .inr <| .inl ⟨_, sortUF_ok _ 2 _ _ rfl (by omega), ?_⟩
     rintro r m' ⟨rfl, lu, hup, hus, rfl⟩
     have hul : lu.length = (usesOf x u t G.length).length := hup.length_eq
     simp only [List.set_cons_zero,List.set_cons_succ,go_sem,reduceIte,reduceAdd,reduceLT,reduceLeDiff,reduceMul,reduceEqDiff,reduceSub,reduceCtorEq]
     refine hK _ ?_
     have nlaw := names_law hl (by rw [← hG]; exact hnp) hns
     have ulaw := uses_law hl (by rw [← hG]; exact hup) hus
     have hsz := Ty.subst_size [x] [u] (B := 200) (by omega) (fun v hv => by simp only [List.mem_cons,List.not_mem_nil,or_false] at hv; subst hv; omega) t
     have hsub := subst_ok [x] [u] (by simp) (by simp) (fun v hv => by simp only [List.mem_cons,List.not_mem_nil,or_false] at hv; subst hv; omega) t.size t (Nat.le_refl _) (by omega)
     obtain ⟨T, hT⟩ : ∃ T, T = t.subst [x] [u] := ⟨_, rfl⟩
     rw [← hT] at nlaw ulaw hsz hsub
     have hTn : ∀ w ∈ T.nodes, w.name.size ≤ 1048576 := fun w hw => by
      rw [hT] at hw
      rcases subst_names x u t w hw with ⟨q, hq, e⟩ | h1
      ·rw [e]; exact hmn t ht q hq
      ·exact hmn u hu w h1
     have hfT := free_okN T (by omega) hTn
     rw [free_eq T hTn, ← nlaw] at hfT
     have hmT := ment_ok T (by omega)
     rw [← ulaw] at hmT
     simp only [encTys,List.map_cons,List.map_nil,encTy_eq,tyCells] at hsub hfT hmT
     refine tri_seq_region tt_ok fun K hK => ?_
     simp only [go_sem,reduceIte,reduceAdd,reduceLT,reduceLeDiff,reduceMul,reduceEqDiff,reduceSub,reduceCtorEq]
     have hma : ∀ (mem : List Blk) (keys : List (Nat × Nat)), memAfter mem keys (.agg [num T.kind, str T.mod, str T.name, .slice (encTys T.args), .slice (encFds T.flds)]) = frzAll mem keys := fun _ _ => rfl
     refine .inl ⟨_, _, by simp only [memAfter_nil,hma,frzAll,frz1,List.foldl_cons,List.foldl_nil,go_sem,reduceIte,reduceAdd,reduceLT,reduceLeDiff,reduceMul,reduceEqDiff,reduceSub,reduceCtorEq,List.take_length], hsub, ?_⟩
     try simp only [memAfter_nil,hma,frzAll,frz1,List.foldl_cons,List.foldl_nil,go_sem,reduceIte,reduceAdd,reduceLT,reduceLeDiff,reduceMul,reduceEqDiff,reduceSub,reduceCtorEq]
     refine hK _ ?_
     have d1 := dd_length ln
     have d2 := dd_length lu
     obtain ⟨_, rfl, hse⟩ := sEqual_ex (dd ln) (dd ln) (by omega)
     obtain ⟨_, rfl, hue⟩ := useEq_ex (dd lu) (dd lu) (by omega)
     rw [decide_eq_true rfl] at hse hue
     refine tri_seq_region tt_ok fun K hK => ?_
     simp only [go_sem,reduceIte,reduceAdd,reduceLT,reduceLeDiff,reduceMul,reduceEqDiff,reduceSub,reduceCtorEq]
     refine .inl ⟨_, _, by simp only [memAfter_nil,go_sem,reduceIte,reduceAdd,reduceLT,reduceLeDiff,reduceMul,reduceEqDiff,reduceSub,reduceCtorEq,List.take_length], hfT, ?_⟩
     try simp only [memAfter_nil,go_sem,reduceIte,reduceAdd,reduceLT,reduceLeDiff,reduceMul,reduceEqDiff,reduceSub,reduceCtorEq]
     refine .inr <| .inl ⟨_, _, compactS_at _ 3 vn ln _ hnl.symm (by simp) rfl (by omega) rfl, ?_⟩
     simp only [List.set_cons_zero,List.set_cons_succ,go_sem,reduceIte,reduceAdd,reduceLT,reduceLeDiff,reduceMul,reduceEqDiff,reduceSub,reduceCtorEq]
     refine .inl ⟨_, _, by simp only [List.length_map,take_len_map,Nat.zero_add,Nat.le_refl,true_and,and_self,go_sem,reduceIte,reduceAdd,reduceLT,reduceLeDiff,reduceMul,reduceEqDiff,reduceSub,reduceCtorEq,List.take_length], hse, ?_⟩
     simp only [memAfter_bl,go_sem,reduceIte,reduceAdd,reduceLT,reduceLeDiff,reduceMul,reduceEqDiff,reduceSub,reduceCtorEq]
     refine .inl ⟨_, _, by simp only [go_sem,reduceIte,reduceAdd,reduceLT,reduceLeDiff,reduceMul,reduceEqDiff,reduceSub,reduceCtorEq,List.take_length], hmT, ?_⟩
     simp only [memAfter_nil,go_sem,reduceIte,reduceAdd,reduceLT,reduceLeDiff,reduceMul,reduceEqDiff,reduceSub,reduceCtorEq]
     refine .inr <| .inl ⟨_, _, compactU_at _ 2 vu lu _ hul.symm (by simp) rfl (by omega) rfl, ?_⟩
     simp only [List.set_cons_zero,List.set_cons_succ,go_sem,reduceIte,reduceAdd,reduceLT,reduceLeDiff,reduceMul,reduceEqDiff,reduceSub,reduceCtorEq]
     refine .inl ⟨_, _, by simp only [List.length_map,take_len_map,Nat.zero_add,Nat.le_refl,true_and,and_self,go_sem,reduceIte,reduceAdd,reduceLT,reduceLeDiff,reduceMul,reduceEqDiff,reduceSub,reduceCtorEq,List.take_length], hue, ?_⟩
     simp only [memAfter_bl,go_sem,reduceIte,reduceAdd,reduceLT,reduceLeDiff,reduceMul,reduceEqDiff,reduceSub,reduceCtorEq]
     refine hK _ ?_
     exact tri_ret ⟨.inl rfl, rfl⟩
  ·have hd2 : decide (cc = 0) = false := decide_eq_false hc0
   simp only [hd2,go_sem,reduceIte,reduceAdd,reduceLT,reduceLeDiff,reduceMul,reduceEqDiff,reduceSub,reduceCtorEq]
   refine hK _ ?_
   refine tri_cond rfl ?_
   refine tri_seq_region tt_ok fun K hK => ?_
   simp only [go_sem,reduceIte,reduceAdd,reduceLT,reduceLeDiff,reduceMul,reduceEqDiff,reduceSub,reduceCtorEq]
   refine hK _ ?_
   exact tri_ret ⟨.inl rfl, rfl⟩
 ·have hd : decide (((t.size + u.size : Nat) : Int) ≤ 200) = false := decide_eq_false (by omega)
  rw [hd] at hfew
  refine tri_seq_region tt_ok fun K hK => ?_
  simp only [go_sem,reduceIte,reduceAdd,reduceLT,reduceLeDiff,reduceMul,reduceEqDiff,reduceSub,reduceCtorEq]
  refine .inl ⟨_, _, by simp only [memAfter_bl,go_sem,reduceIte,reduceAdd,reduceLT,reduceLeDiff,reduceMul,reduceEqDiff,reduceSub,reduceCtorEq,List.take_length], hfew, ?_⟩
  try simp only [memAfter_bl,go_sem,reduceIte,reduceAdd,reduceLT,reduceLeDiff,reduceMul,reduceEqDiff,reduceSub,reduceCtorEq]
  refine hK _ ?_
  refine tri_cond rfl ?_
  refine tri_seq_region tt_ok fun K hK => ?_
  simp only [go_sem,reduceIte,reduceAdd,reduceLT,reduceLeDiff,reduceMul,reduceEqDiff,reduceSub,reduceCtorEq]
  refine hK _ ?_
  exact tri_ret ⟨.inl rfl, rfl⟩
end Go.Proofs.YtpjdfcigadnhcaaGreatDoor
end

section
namespace Go.Proofs.YtpjdfcigadnhcaaGreatDoor.lawSyntaxFrees
open Go.Eng
set_option maxRecDepth 100000
open Go.ChangeShapes Go.WideShapes Go.ChangeAt Go.RowKit
theorem contract (H : Type) (enc : TypeId × Value → H) (W : World) (args : Array Value) (ds gs : List (DataW H)) (before : List MemPlace) (base : Nat)
  (hok : ∀ (j : Nat) t v, Tryz.f9.params[j]? = some t → args[j]? = some v → Value.okWide Tryz.prog W .any base t v)
  (hW : DataW.Whole enc Tryz.prog Tryz.f9.params.toList Rows.syntaxFreesSpec.vars false W args.toList ds gs before) (hb : Rows.uptoBulkAll (ds ++ gs) ≤ 1048576) (hS : W.ShapedOpen Tryz.prog) :
  Calls Tryz.prog 9 args W fun e W' => ∃ v, e = .returned v ∧ Rows.syntaxFreesSpec.post enc Tryz.prog Tryz.f9 false true false false W args v W' := by
 have hW' := hW
 have hlt := hW.lt
 obtain ⟨p, q, hA0, hV, rfl, hfz, hnd⟩ := hW
 have hA : DataW.TrodAll enc Tryz.prog W 0 (fun _ => true) true Tryz.f9.params.toList args.toList ds p := hA0
 rw [Tryz.params9] at hA
 obtain ⟨v0, vs0, d0, ds0, p0, q0, hargs, rfl, rfl, h0, r0⟩ := trodAll_cons hA
 obtain ⟨v1, vs1, d1, ds1, p1, q1, rfl, rfl, rfl, h1, r1⟩ := trodAll_cons r0
 obtain ⟨v2, vs2, d2, ds2, p2, q2, rfl, rfl, rfl, h2, r2⟩ := trodAll_cons r1
 obtain ⟨rfl, rfl, rfl⟩ := trodAll_nil r2
 obtain rfl : args = #[v0, v1, v2] := by cases args; simp_all
 obtain ⟨rfl, rfl⟩ := trodVars_none hV
 rw [Tryz.params9] at hok
 obtain ⟨s2, rfl⟩ := okWide_string Tryz.underlying9 (hok 2 9 v2 rfl rfl)
 clear hok
 clear hA0 hA r0 r1 r2 hargs hV
 simp only [List.append_nil] at hW' hlt
 simp only [ltb,List.append_nil,Rows.uptoBulkAll] at hb
 have h0' := h0
 have h1' := h1
 have h2' := h2
 obtain ⟨f0, h0⟩ := h0
 obtain ⟨f1, h1⟩ := h1
 have main : Calls Tryz.prog 9 #[v0, v1, .string s2] W fun e W' => e = .returned (.bool true) ∧ Below W.heap.size W W' := by
  obtain ⟨n, hn⟩ := maxLen_at hS
  have go : ∀ (G : Glob) (hG : G.g = some 0) (hg : @Gl G W.cell?), @FnOk G Tryz.prog 10 [] tru → Calls Tryz.prog 9 #[v0, v1, .string s2] W fun e W' => e = .returned (.bool true) ∧ Below W.heap.size W W' := fun G hG hg haw => by
   obtain ⟨x0, hx0, b0⟩ := rd_ty (F := W.cell?) (hg := hg) rfl _ h0
   obtain ⟨x1, hx1, b1⟩ := rd_ty (F := W.cell?) (hg := hg) rfl _ h1
   rw [encTy_eq] at hx0
   rw [encTy_eq] at hx1
   have hc := frees_law haw x0 x1 s2 (by omega) (by omega)
   refine (hc.2 W.cell? hg W #[v0, v1, .string s2] (fun _ _ h => h) ?_).mono fun o W' h => ?_
   ·simp only [encTy_eq]
    exact .cons (rep_one (by simp [tyCells]) hx0) (.cons (rep_one (by simp [tyCells]) hx1) (.cons (.sc _ _) (.nil _)))
   ·obtain ⟨F', x, rfl, -, -, -, ⟨hg', hx⟩, hbel⟩ := h
    obtain rfl := rep_sc hx
    exact ⟨rfl, hbel⟩
  by_cases hge : 4 ≤ n
  ·exact go (gGe n hge) rfl (@Gl.mk (gGe n hge) _ (fun g hg => by cases hg; exact hn) (fun g cs j x h => by cases h)) (awake_ge n hge)
  ·by_cases he3 : n = 3
   ·subst he3
    exact go gEq rfl (@Gl.mk gEq _ (fun g hg => by cases hg; exact hn) (fun g cs j x h => by cases h)) awake_eq
   ·have hl : n < 3 := by omega
    exact go (gLt n hl) rfl (@Gl.mk (gLt n hl) _ (fun g hg => by cases hg; exact hn) (fun g cs j x h => by cases h)) (awake_lt n hl)
 refine main.mono fun e W' ⟨he, hbel⟩ => ?_
 subst he
 have hlaid : laidOutB Tryz.prog = true := by kernel_rfl
 refine ⟨_, rfl, post_kept (pa := p0 ++ (p1 ++ (p2 ++ []))) (pv := []) hW' (fun _ _ _ => trodAll_cons_mk (shut_bool Tryz.underlying4 _) trodAll_mk0) (fun sp hsp => ?_) (fun _ _ => rfl) (by simp)
  hbel (ok_one (by kernel_rfl) rfl (okWide_bool_mk Tryz.underlying4 _))⟩
 ·refine trodAll_cons_mk (WideElems.Trod_stays hlaid (by kernel_rfl) (of_decide_eq_true (by kernel_rfl)) h0' (fun x hx => hbel.same (hlt x (by simp [hx]))) (fun x hx => hsp x (by simp [hx])))
   (trodAll_cons_mk (WideElems.Trod_stays hlaid (by kernel_rfl) (of_decide_eq_true (by kernel_rfl)) h1' (fun x hx => hbel.same (hlt x (by simp [hx]))) (fun x hx => hsp x (by simp [hx])))
   (trodAll_cons_mk (WideElems.Trod_stays hlaid (by kernel_rfl) (of_decide_eq_true (by kernel_rfl)) h2' (fun x hx => hbel.same (hlt x (by simp [hx]))) (fun x hx => hsp x (by simp [hx])))
   trodAll_mk0))
end Go.Proofs.YtpjdfcigadnhcaaGreatDoor.lawSyntaxFrees
end

section
namespace Go.Proofs.YtpjdfcigadnhcaaGreatDoor
open Go.ChangeShapes Go.WideShapes Go.ChangeAt Go.RowKit
theorem own : ownKnob Tryz.prog.godebug = none := by kernel_rfl
def wTy : Value := .agg #[.int .i64 0, .string ⟨#[]⟩, .string ⟨#[]⟩, .slice none 0 0, .slice none 0 0]
def dTy (H : Type) : DataW H := .agg [.lit (.int .i64 0), .lit (.string []), .lit (.string []), .nil, .nil]
def layAs (cs : Array Value) : Obj → Obj
 | .cells _ t frozen => .cells cs t frozen
 | o => o
def accZ : List Nat := [128,191,160,191,128,159,144,191,128,143,0,0,0,0,0,0,0,0,0,0,0,0,0,0,0,0,0,0,0,0,0,0]
noncomputable def laidWorld (os : Os) : World :=
 { World.holding Tryz.prog os ⟨#[], #[], []⟩ with heap := ((World.holding Tryz.prog os ⟨#[], #[], []⟩).heap.modify 1 (layAs ⟨Pinned.utf8FirstZ.map fun n => Value.int .u8 (Int.ofNat n)⟩)).modify 2 (layAs ⟨accZ.map fun n => Value.int .u8 (Int.ofNat n)⟩) }
end Go.Proofs.YtpjdfcigadnhcaaGreatDoor
end
