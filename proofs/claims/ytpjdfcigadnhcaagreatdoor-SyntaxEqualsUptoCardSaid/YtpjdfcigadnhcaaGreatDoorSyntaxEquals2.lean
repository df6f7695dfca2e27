/-
  CONTRACTS: transparent, in both halves; the sizes of declarations and modules.
  CONTRACTS: ModuleSize: the program's.
  CONTRACTS: ModuleSize: the reference's.
  CONTRACTS: fewTypes and the law SyntaxSizes itself.
-/
import Derived.Test.YtpjdfcigadnhcaaGreatDoorSyntaxEquals1
set_option linter.all false
section
namespace Go.Proofs.YtpjdfcigadnhcaaGreatDoor
open Go.Eng
variable [Glob]
set_option maxRecDepth 100000
set_option maxHeartbeats 2000000
attribute [local irreducible] runM stepM valD
def dcCells (d : Dc) : List V := [num d.kind, str d.name, bl d.exported, bl d.deprecated, str d.note, .slice (d.params.map encPm)] ++ tyCells d.lower ++ tyCells d.upper ++ tyCells d.type ++ exCells d.expr ++ [str d.mod, str d.target]
theorem encDc_eq (d : Dc) : encDc d = .agg (dcCells d) := rfl
noncomputable def Dc.clear (d : Dc) : Bool := eqb d.lower d.upper && eqb d.upper d.type
theorem Dc.clear_ref (d : Dc) : (eqb d.lower d.type && eqb d.upper d.type) = d.clear := by
  rw [Bool.eq_iff_iff]
  simp only [Dc.clear, Bool.and_eq_true, eqb_iff]
  exact ⟨fun h => ⟨h.1.trans h.2.symm, h.2⟩, fun h => ⟨h.1.trans h.2, h.2⟩⟩
noncomputable def Dc.size (d : Dc) : Nat :=
  1 + d.params.length + (if d.kind = 0 then d.type.size + (if d.clear = true then 0 else d.lower.size + d.upper.size)
    else if d.kind = 1 then d.type.size + d.expr.size + sumBy (fun p => p.bound.size) d.params else 0)
def Dc.bulk (d : Dc) : Nat := 1 + d.params.length + sumBy (fun p => p.bound.size) d.params + d.lower.size + d.upper.size + d.type.size + d.expr.bulk
theorem Dc.bulk_pos (d : Dc) : 0 < d.bulk := by unfold Dc.bulk; omega
theorem Dc.size_le (d : Dc) : d.size ≤ d.bulk := by
  have := Ex.size_le_bulk _ d.expr (Nat.le_refl _)
  unfold Dc.size Dc.bulk
  split
  · split <;> omega
  · split <;> omega
noncomputable def Md.size (m : Md) : Nat := 1 + m.imports.length + sumBy Dc.size m.decls
def Md.bulk (m : Md) : Nat := 1 + m.imports.length + sumBy Dc.bulk m.decls

theorem sclear_ok (d : Dc) (hd : d.bulk ≤ 1048576) : FnOk Tryz.prog 55 [encDc d] (bl d.clear) := by
  unfold Dc.bulk at hd
  have hA := seqTy_ok d.lower.size d.lower d.upper (Nat.le_refl _) (by omega)
  have hB := seqTy_ok d.upper.size d.upper d.type (Nat.le_refl _) (by omega)
  rw [encTy_eq, encTy_eq] at hA hB
  simp only [tyCells] at hA hB
  refine fn_ok tt_ok (fn := Tryz.f55) Tryz.func55 rfl Tryz.call55 ?_
  simp only [startSt, Tryz.ntmps55, List.length_cons, List.length_nil, Nat.reduceAdd, Nat.reduceSub, List.replicate_succ, List.replicate_zero, List.cons_append, List.nil_append]
  rw [encDc_eq]
  simp only [dcCells, tyCells, exCells, List.cons_append, List.nil_append]
  refine tri_seq_region tt_ok fun K hK => ?_
  simp only [runOps, stepOp, wantedV, opV, St.eval, St.put, absV, cellsV, oneV, List.all_cons, List.all_nil, Bool.and_self, Value.oneCell', if_true, if_false, setMem, List.length_nil, Nat.lt_irrefl, List.nil_append, List.set_cons_zero, List.set_cons_succ, List.getD_cons_zero]
  refine hK _ ?_
  clear hK K
  unfold Dc.clear
  cases h1 : eqb d.lower d.upper with
  | false =>
    rw [h1] at hA
    refine tri_seq_region tt_ok fun K hK => ?_
    simp only [runOps, stepOp, wantedV, opV, St.eval, St.put, absV, if_true, List.length_cons, List.length_nil, List.nil_append, List.append_nil, List.set_cons_zero, List.set_cons_succ, List.getD_cons_zero, List.getD_cons_succ, List.map_nil, List.map_cons, fieldV, tOff, fieldAt, loadV, pickCells, List.drop_zero, List.drop_succ_cons, List.take_succ_cons, List.take_zero, List.getElem?_cons_zero, List.getElem?_cons_succ, List.head?_cons, Nat.zero_add, Nat.reduceAdd, Nat.reduceLeDiff, V.cells, calleeOf, Option.bind_some, List.getElem?_toArray, rowOf, tt25, tt75]
    refine .inl ⟨_, _, by simp only [purL, pur1, purCells, purCell, nilS], hA, ?_⟩
    try simp only [St.put, if_false, List.append_nil, List.set_cons_zero, List.set_cons_succ, List.getD_cons_zero, List.getD_cons_succ, List.getElem?_cons_zero, List.getElem?_cons_succ, Bool.false_eq_true, memAfter_nil, List.flatMap_cons, List.flatMap_nil, ref1, refCell, ev_ft]
    refine hK _ ?_
    clear hK K
    exact tri_ret ⟨.inl rfl, rfl⟩
  | true =>
    rw [h1] at hA
    refine tri_seq_region tt_ok fun K hK => ?_
    simp only [runOps, stepOp, wantedV, opV, St.eval, St.put, absV, if_true, List.length_cons, List.length_nil, List.nil_append, List.append_nil, List.set_cons_zero, List.set_cons_succ, List.getD_cons_zero, List.getD_cons_succ, List.map_nil, List.map_cons, fieldV, tOff, fieldAt, loadV, pickCells, List.drop_zero, List.drop_succ_cons, List.take_succ_cons, List.take_zero, List.getElem?_cons_zero, List.getElem?_cons_succ, List.head?_cons, Nat.zero_add, Nat.reduceAdd, Nat.reduceLeDiff, V.cells, calleeOf, Option.bind_some, List.getElem?_toArray, rowOf, tt25, tt75]
    refine .inl ⟨_, _, by simp only [purL, pur1, purCells, purCell, nilS], hA, ?_⟩
    try simp only [St.put, if_true, List.length_cons, List.length_nil, List.append_nil, List.set_cons_zero, List.set_cons_succ, List.getD_cons_zero, List.getD_cons_succ, List.drop_zero, List.drop_succ_cons, List.take_succ_cons, List.take_zero, List.getElem?_cons_zero, List.getElem?_cons_succ, Nat.zero_add, Nat.reduceAdd, Nat.reduceLeDiff, beq_self_eq_true, memAfter_nil, List.flatMap_cons, List.flatMap_nil, ref1, refCell]
    refine .inl ⟨_, _, by simp only [purL, pur1, purCells, purCell, nilS], hB, ?_⟩
    try simp only [St.put, if_true, List.append_nil, List.set_cons_zero, List.set_cons_succ, List.getD_cons_zero, List.getD_cons_succ, memAfter_nil, List.flatMap_cons, List.flatMap_nil, ref1, refCell]
    refine hK _ ?_
    clear hK K
    exact tri_ret ⟨.inl rfl, rfl⟩
theorem rclear_ok (d : Dc) (hd : d.bulk ≤ 1048576) : FnOk Tryz.prog 50 [encDc d] (bl d.clear) := by
  unfold Dc.bulk at hd
  have hA := reqTy_ok d.lower.size d.lower d.type (Nat.le_refl _) (by omega)
  have hB := reqTy_ok d.upper.size d.upper d.type (Nat.le_refl _) (by omega)
  rw [encTy_eq, encTy_eq] at hA hB
  simp only [tyCells] at hA hB
  rw [← Dc.clear_ref]
  refine fn_ok tt_ok (fn := Tryz.f50) Tryz.func50 rfl Tryz.call50 ?_
  simp only [startSt, Tryz.ntmps50, List.length_cons, List.length_nil, Nat.reduceAdd, Nat.reduceSub, List.replicate_succ, List.replicate_zero, List.cons_append, List.nil_append]
  rw [encDc_eq]
  simp only [dcCells, tyCells, exCells, List.cons_append, List.nil_append]
  refine tri_seq_region tt_ok fun K hK => ?_
  simp only [runOps, stepOp, wantedV, opV, St.eval, St.put, absV, cellsV, oneV, List.all_cons, List.all_nil, Bool.and_self, Value.oneCell', if_true, if_false, setMem, List.length_nil, Nat.lt_irrefl, List.nil_append, List.set_cons_zero, List.set_cons_succ, List.getD_cons_zero]
  refine hK _ ?_
  clear hK K
  cases h1 : eqb d.lower d.type with
  | false =>
    rw [h1] at hA
    refine tri_seq_region tt_ok fun K hK => ?_
    simp only [runOps, stepOp, wantedV, opV, St.eval, St.put, absV, if_true, List.length_cons, List.length_nil, List.nil_append, List.append_nil, List.set_cons_zero, List.set_cons_succ, List.getD_cons_zero, List.getD_cons_succ, List.map_nil, List.map_cons, fieldV, tOff, fieldAt, loadV, pickCells, List.drop_zero, List.drop_succ_cons, List.take_succ_cons, List.take_zero, List.getElem?_cons_zero, List.getElem?_cons_succ, List.head?_cons, Nat.zero_add, Nat.reduceAdd, Nat.reduceLeDiff, V.cells, calleeOf, Option.bind_some, List.getElem?_toArray, rowOf, tt25, tt75]
    refine .inl ⟨_, _, by simp only [purL, pur1, purCells, purCell, nilS], hA, ?_⟩
    try simp only [St.put, if_false, List.append_nil, List.set_cons_zero, List.set_cons_succ, List.getD_cons_zero, List.getD_cons_succ, List.getElem?_cons_zero, List.getElem?_cons_succ, Bool.false_eq_true, memAfter_nil, List.flatMap_cons, List.flatMap_nil, ref1, refCell, ev_ft]
    refine hK _ ?_
    clear hK K
    exact tri_ret ⟨.inl rfl, rfl⟩
  | true =>
    rw [h1] at hA
    refine tri_seq_region tt_ok fun K hK => ?_
    simp only [runOps, stepOp, wantedV, opV, St.eval, St.put, absV, if_true, List.length_cons, List.length_nil, List.nil_append, List.append_nil, List.set_cons_zero, List.set_cons_succ, List.getD_cons_zero, List.getD_cons_succ, List.map_nil, List.map_cons, fieldV, tOff, fieldAt, loadV, pickCells, List.drop_zero, List.drop_succ_cons, List.take_succ_cons, List.take_zero, List.getElem?_cons_zero, List.getElem?_cons_succ, List.head?_cons, Nat.zero_add, Nat.reduceAdd, Nat.reduceLeDiff, V.cells, calleeOf, Option.bind_some, List.getElem?_toArray, rowOf, tt25, tt75]
    refine .inl ⟨_, _, by simp only [purL, pur1, purCells, purCell, nilS], hA, ?_⟩
    try simp only [St.put, if_true, List.length_cons, List.length_nil, List.append_nil, List.set_cons_zero, List.set_cons_succ, List.getD_cons_zero, List.getD_cons_succ, List.drop_zero, List.drop_succ_cons, List.take_succ_cons, List.take_zero, List.getElem?_cons_zero, List.getElem?_cons_succ, Nat.zero_add, Nat.reduceAdd, Nat.reduceLeDiff, beq_self_eq_true, memAfter_nil, List.flatMap_cons, List.flatMap_nil, ref1, refCell]
    refine .inl ⟨_, _, by simp only [purL, pur1, purCells, purCell, nilS], hB, ?_⟩
    try simp only [St.put, if_true, List.append_nil, List.set_cons_zero, List.set_cons_succ, List.getD_cons_zero, List.getD_cons_succ, memAfter_nil, List.flatMap_cons, List.flatMap_nil, ref1, refCell]
    refine hK _ ?_
    clear hK K
    exact tri_ret ⟨.inl rfl, rfl⟩
end Go.Proofs.YtpjdfcigadnhcaaGreatDoor
end

section
namespace Go.Proofs.YtpjdfcigadnhcaaGreatDoor
open Go.Eng
variable [Glob]
set_option maxRecDepth 100000
set_option maxHeartbeats 4000000
attribute [local irreducible] runM stepM valD
theorem i64_c (x : Int) (n : Nat) (h : x = n) (hb : n ≤ 1152921504606846976) : IntKind.i64.wrap x = (n : Int) := by rw [h, i64_nat n hb]
def mdCells (m : Md) : List V := [str m.path, .slice (m.imports.map encIm), .slice (m.decls.map encDc)]
theorem encMd_eq (m : Md) : encMd m = .agg (mdCells m) := rfl
theorem get_decls (l : List Dc) (i : Nat) {d : Dc} (h : l[i]? = some d) : (l.map encDc)[i]? = some (.agg (dcCells d)) := by rw [List.getElem?_map, h]; rfl
theorem get_params (l : List Pm) (i : Nat) {p : Pm} (h : l[i]? = some p) : (l.map encPm)[i]? = some (.agg ([str p.name, num p.variance] ++ tyCells p.bound)) := by rw [List.getElem?_map, h]; rfl

theorem smsize_ok (m : Md) (hm : m.bulk ≤ 1048576) : FnOk Tryz.prog 19 [encMd m] (num m.size) := by
  unfold Md.bulk at hm
  have hdl := length_le_sum Dc.bulk Dc.bulk_pos m.decls
  have hle : ∀ i, sumBy Dc.size (m.decls.take i) ≤ 1048576 := fun i => by
    have h1 := sumBy_take_le Dc.bulk m.decls i
    have h2 : ∀ l : List Dc, sumBy Dc.size l ≤ sumBy Dc.bulk l := fun l => by
      induction l with
      | nil => simp [sumBy]
      | cons a r ih => have := Dc.size_le a; simp only [sumBy]; omega
    have := h2 (m.decls.take i); omega
  refine fn_ok tt_ok (fn := Tryz.f19) Tryz.func19 rfl Tryz.call19 ?_
  simp only [startSt, Tryz.ntmps19, List.length_cons, List.length_nil, Nat.reduceAdd, Nat.reduceSub, List.replicate_succ, List.replicate_zero, List.cons_append, List.nil_append]
  rw [encMd_eq]
  simp only [mdCells]
  refine tri_seq_region tt_ok fun K hK => ?_
  simp only [runOps, stepOp, wantedV, opV, St.eval, St.put, absV, cellsV, oneV, List.all_cons, List.all_nil, Bool.and_self, Value.oneCell', if_true, if_false, setMem, List.length_nil, Nat.lt_irrefl, List.nil_append, List.set_cons_zero, List.set_cons_succ, List.getD_cons_zero]
  refine hK _ ?_
  clear hK K
  refine tri_seq_region tt_ok fun K hK => ?_
  simp only [List.length_map, runOps, stepOp, wantedV, opV, St.eval, St.put, absV, if_true, if_false, List.length_cons, List.length_nil, List.set_cons_zero, List.set_cons_succ, List.getD_cons_zero, List.getD_cons_succ, tElem, List.map_nil, List.map_cons, fieldV, tOff, fieldAt, loadV, pickCells, List.drop_zero, List.drop_succ_cons, List.take_succ_cons, List.take_zero, List.getElem?_cons_zero, List.getElem?_cons_succ, List.head?_cons, Nat.zero_add, Nat.reduceAdd, Nat.reduceLeDiff, Bool.false_eq_true, lenV, ev_add, List.getElem?_toArray, nilLen, ev_len1, gnCmp, tt30, tt33]
  refine hK _ ?_
  clear hK K
  have hw1 := i64_c (1 + (m.imports.length : Int)) (1 + m.imports.length) (by omega) (by omega)
  rw [hw1]
  refine tri_seq ?_
  refine tri_seq_region tt_ok fun K hK => ?_
  simp only [List.length_map, runOps, stepOp, wantedV, opV, St.eval, St.put, absV, if_true, if_false, List.length_cons, List.length_nil, List.set_cons_zero, List.set_cons_succ, List.getD_cons_zero, List.getD_cons_succ, tElem, List.map_nil, List.map_cons, fieldV, tOff, fieldAt, loadV, pickCells, List.drop_zero, List.drop_succ_cons, List.take_succ_cons, List.take_zero, List.getElem?_cons_zero, List.getElem?_cons_succ, List.head?_cons, Nat.zero_add, Nat.le_refl, Bool.false_eq_true, lenV, List.getElem?_toArray, ev_len1, tt31, tt33]
  refine hK _ ?_
  clear hK K
  refine tri_block (tri_loop_inv (fun N st => ∃ (i : Nat), N = m.decls.length - i ∧ i ≤ m.decls.length ∧
    st = { fr := [.undef, .undef, .undef, num ((1 + m.imports.length + sumBy Dc.size (m.decls.take i) : Nat)), .undef, .undef, .undef, .undef, .undef, .undef, .undef, .undef, .undef, .slice (m.decls.map encDc), num m.decls.length, num i] ++ List.replicate 56 .undef, mem := [] }) m.decls.length ?_ ?_)
  · exact ⟨0, [false, false, false, true, false, false, false, false, false, false, false, false, false, true, true, true], by omega, by simp only [maskFr, if_true, if_false, Bool.false_eq_true, List.all_cons, List.all_nil, belowV, Bool.and_self], rfl, 0, by omega, by omega, rfl⟩
  · rintro N' st ⟨i, rfl, hi, rfl⟩
    simp only [List.replicate_succ, List.replicate_zero, List.cons_append, List.nil_append]
    by_cases hlt : i < m.decls.length
    · have hd := lt_dec hlt
      refine tri_seq_region tt_ok fun K hK => ?_
      simp only [hd, runOps, stepOp, wantedV, opV, St.eval, St.put, List.set_cons_zero, List.set_cons_succ, List.getD_cons_zero, List.getD_cons_succ, ev_lss, nilLen, gnCmp]
      refine hK _ ?_
      clear hK K
      refine tri_seq (tri_cond rfl (tri_skip ?_))
      refine tri_seq (tri_block ?_)
      obtain ⟨d, hdd⟩ : ∃ d, m.decls[i]? = some d := ⟨_, List.getElem?_eq_getElem hlt⟩
      have hds := sumBy_mem Dc.bulk hdd
      have hdb : d.bulk = 1 + d.params.length + sumBy (fun p => p.bound.size) d.params + d.lower.size + d.upper.size + d.type.size + d.expr.bulk := rfl
      have hts := sumBy_take_succ Dc.size hdd
      have hsz := d.size_le
      have hT := stsize_ok d.type (by omega)
      have hL := stsize_ok d.lower (by omega)
      have hU := stsize_ok d.upper (by omega)
      have hE := sesize_ok d.expr (by omega)
      have hC := sclear_ok d (by omega)
      have hse := Ex.size_le_bulk _ d.expr (Nat.le_refl _)
      have hln := hle (i + 1)
      have hl0 := hle i
      rw [encTy_eq] at hT hL hU
      rw [encEx_eq] at hE
      rw [encDc_eq] at hC
      simp only [tyCells, exCells, dcCells, List.cons_append, List.nil_append] at hT hL hU hE hC
      have hdc := get_decls m.decls i hdd
      simp only [tyCells, exCells, dcCells, List.cons_append, List.nil_append] at hdc
      have hw2 := i64_succ i (by omega)
      have hw3 := i64_c (1 + (d.params.length : Int)) (1 + d.params.length) (by omega) (by omega)
      have hw4 := i64_c (((1 + m.imports.length + sumBy Dc.size (m.decls.take i) : Nat) : Int) + ((1 + d.params.length : Nat) : Int)) (1 + m.imports.length + sumBy Dc.size (m.decls.take i) + (1 + d.params.length)) (by omega) (by omega)
      obtain ⟨S, hS⟩ : ∃ S, S = 1 + m.imports.length + sumBy Dc.size (m.decls.take i) + (1 + d.params.length) := ⟨_, rfl⟩
      rw [← hS] at hw4
      refine tri_seq_region tt_ok fun K hK => ?_
      simp only [hdc, runOps, stepOp, wantedV, opV, St.eval, St.put, cellsV, oneV, List.all_cons, List.all_nil, Bool.and_self, Value.oneCell', if_true, if_false, setMem, List.length_cons, List.length_nil, Nat.lt_irrefl, List.nil_append, List.set_cons_zero, List.set_cons_succ, List.getD_cons_zero, List.getD_cons_succ, tElem, tSize, List.map_nil, List.map_cons, loadV, pickCells, List.take_succ_cons, List.take_zero, List.getElem?_cons_zero, List.head?_cons, Nat.zero_add, Nat.reduceAdd, Nat.le_refl, Int.natCast_nonneg, indexV, indexAt, Int.toNat_natCast, V.cells, storeV, spliceL, tt31, tt75]
      refine hK _ ?_
      clear hK K
      refine tri_seq_region tt_ok fun K hK => ?_
      simp only [List.length_map, hw3, hw4, runOps, stepOp, wantedV, opV, St.eval, St.put, absV, if_true, if_false, List.length_cons, List.length_nil, List.set_cons_zero, List.set_cons_succ, List.getD_cons_zero, List.getD_cons_succ, tElem, List.map_nil, List.map_cons, fieldV, tOff, fieldAt, loadV, pickCells, List.drop_zero, List.drop_succ_cons, List.take_succ_cons, List.take_zero, List.getElem?_cons_zero, List.getElem?_cons_succ, List.head?_cons, Nat.zero_add, Nat.reduceAdd, Nat.reduceLeDiff, Bool.false_eq_true, lenV, ev_add, List.getElem?_toArray, nilLen, ev_len1, gnCmp, tt73, tt75]
      refine hK _ ?_
      clear hK K
      refine tri_seq_region tt_ok fun K hK => ?_
      simp only [runOps, stepOp, wantedV, opV, St.eval, St.put, if_true, if_false, List.length_cons, List.length_nil, List.set_cons_zero, List.set_cons_succ, List.getD_cons_zero, List.getD_cons_succ, fieldV, tOff, fieldAt, loadV, pickCells, List.drop_zero, List.take_succ_cons, List.take_zero, List.getElem?_cons_zero, List.head?_cons, Nat.zero_add, Nat.add_zero, Nat.reduceAdd, Nat.reduceLeDiff, Bool.false_eq_true, tt3, tt75]
      refine hK _ ?_
      clear hK K
      refine tri_block ?_
      by_cases h0 : d.kind = 0
      · have d0 : decide (d.kind = 0) = true := decide_eq_true h0
        refine tri_seq_region tt_ok fun K hK => ?_
        simp only [d0, runOps, stepOp, wantedV, opV, St.eval, St.put, absV, List.set_cons_zero, List.set_cons_succ, List.getD_cons_zero, List.getD_cons_succ, ev_eql, nilLen, gnCmp]
        refine hK _ ?_
        clear hK K
        refine tri_cond rfl ?_
        show Tri _ _ _ _ _ _
        refine tri_seq_region tt_ok fun K hK => ?_
        simp only [runOps, stepOp, wantedV, opV, St.eval, St.put, if_true, List.length_cons, List.length_nil, List.nil_append, List.append_nil, List.set_cons_zero, List.set_cons_succ, List.getD_cons_zero, List.getD_cons_succ, List.map_nil, List.map_cons, fieldV, tOff, fieldAt, loadV, pickCells, List.drop_zero, List.drop_succ_cons, List.take_succ_cons, List.take_zero, List.getElem?_cons_zero, List.getElem?_cons_succ, List.head?_cons, Nat.zero_add, Nat.reduceAdd, Nat.reduceLeDiff, calleeOf, nilLen, gnCmp, tt25, tt75]
        refine .inl ⟨_, _, by simp only [purL, pur1, purCells, purCell, nilS], hT, ?_⟩
        try simp only [St.put, List.append_nil, List.set_cons_zero, List.set_cons_succ, List.getD_cons_zero, List.getD_cons_succ, ev_add, memAfter_nil, List.flatMap_cons, List.flatMap_nil, ref1, refCell]
        refine hK _ ?_
        clear hK K
        have hw5 := i64_c ((S : Int) + (d.type.size : Int)) (S + d.type.size) (by omega) (by omega)
        rw [hw5]
        cases hcl : d.clear with
        | true =>
          have hdz : d.size = 1 + d.params.length + d.type.size := by unfold Dc.size; rw [if_pos h0, if_pos hcl, Nat.add_zero]
          rw [hcl] at hC
          refine tri_seq_region tt_ok fun K hK => ?_
          simp only [runOps, stepOp, wantedV, opV, St.eval, St.put, if_true, List.length_cons, List.length_nil, List.nil_append, List.append_nil, List.set_cons_zero, List.set_cons_succ, List.getD_cons_zero, List.getD_cons_succ, List.map_nil, List.map_cons, loadV, pickCells, List.drop_zero, List.take_succ_cons, List.take_zero, List.getElem?_cons_zero, List.head?_cons, Nat.zero_add, Nat.reduceAdd, Nat.le_refl, calleeOf, tt75]
          refine .inl ⟨_, _, by simp only [purL, pur1, purCells, purCell, nilS], hC, ?_⟩
          try simp only [St.put, List.append_nil, List.set_cons_zero, List.set_cons_succ, List.getD_cons_zero, List.getD_cons_succ, ev_not, Bool.not_true, memAfter_nil, List.flatMap_cons, List.flatMap_nil, ref1, refCell]
          refine hK _ ?_
          clear hK K
          refine tri_cond rfl (tri_skip ?_)
          show Tri _ _ _ _ _ _
          refine tri_last_region tt_ok fun K hK => ?_
          simp only [runOps, stepOp, wantedV, opV, St.eval, St.put, absV, List.set_cons_zero, List.set_cons_succ, List.getD_cons_zero, List.getD_cons_succ, ev_add, nilLen, gnCmp]
          refine hK _ ?_
          clear hK K
          rw [hw2]
          have hfin : S + d.type.size = 1 + m.imports.length + sumBy Dc.size (m.decls.take (i + 1)) := by omega
          rw [hfin]
          exact ⟨m.decls.length - (i + 1), by omega, 0, [false, false, false, true, false, false, false, false, false, false, false, false, false, true, true, true], by omega, by simp only [maskFr, if_true, if_false, Bool.false_eq_true, List.all_cons, List.all_nil, belowV, Bool.and_self], rfl, i + 1, rfl, hlt, by simp [maskFr]⟩
        | false =>
          have hdz : d.size = 1 + d.params.length + (d.type.size + (d.lower.size + d.upper.size)) := by unfold Dc.size; rw [if_pos h0, if_neg (by rw [hcl]; simp)]
          rw [hcl] at hC
          refine tri_seq_region tt_ok fun K hK => ?_
          simp only [runOps, stepOp, wantedV, opV, St.eval, St.put, if_true, List.length_cons, List.length_nil, List.nil_append, List.append_nil, List.set_cons_zero, List.set_cons_succ, List.getD_cons_zero, List.getD_cons_succ, List.map_nil, List.map_cons, loadV, pickCells, List.drop_zero, List.take_succ_cons, List.take_zero, List.getElem?_cons_zero, List.head?_cons, Nat.zero_add, Nat.reduceAdd, Nat.le_refl, calleeOf, tt75]
          refine .inl ⟨_, _, by simp only [purL, pur1, purCells, purCell, nilS], hC, ?_⟩
          try simp only [St.put, List.append_nil, List.set_cons_zero, List.set_cons_succ, List.getD_cons_zero, List.getD_cons_succ, ev_not, Bool.not_false, memAfter_nil, List.flatMap_cons, List.flatMap_nil, ref1, refCell]
          refine hK _ ?_
          clear hK K
          refine tri_cond rfl ?_
          show Tri _ _ _ _ _ _
          refine tri_last_mixed tt_ok mixed_ok [⟨.n, 0, [], []⟩, ⟨.n, 0, [], []⟩, ⟨.r, 0, [], []⟩, ⟨.n, 0, [], []⟩, ⟨.n, 0, [], []⟩, ⟨.r, 0, [], []⟩, ⟨.n, 0, [], []⟩, ⟨.n, 0, [], []⟩, ⟨.n, 0, [], []⟩, ⟨.n, 0, [], []⟩] 0 (by kernel_rfl) fun K hK => ?_
          simp only [wantedV, opV, St.eval, St.put, if_true, List.length_cons, List.length_nil, List.nil_append, List.append_nil, List.set_cons_zero, List.set_cons_succ, List.getD_cons_zero, List.getD_cons_succ, List.map_nil, List.map_cons, fieldV, tOff, fieldAt, loadV, pickCells, List.drop_zero, List.drop_succ_cons, List.take_succ_cons, List.take_zero, List.getElem?_cons_zero, List.getElem?_cons_succ, Nat.zero_add, Nat.reduceAdd, Nat.reduceLeDiff, V.cells, calleeOf, rowOf, gnCmp, tt25, tt75, runM, List.drop_succ_cons, List.drop_zero, stepM, valD, val1, maskB, List.replicate, Nat.reduceAdd]
          refine ⟨_, _, by simp only [purL, pur1, purCells, purCell, nilS], .inl (hL), ?_⟩
          try simp only [St.put, if_true, List.length_cons, List.length_nil, List.set_cons_zero, List.set_cons_succ, List.getD_cons_zero, List.getD_cons_succ, List.drop_zero, List.drop_succ_cons, List.take_succ_cons, List.take_zero, List.getElem?_cons_zero, Nat.zero_add, Nat.reduceAdd, Nat.reduceLeDiff, List.drop_succ_cons, List.drop_zero, Nat.reduceAdd]
          refine ⟨_, _, by simp only [purL, pur1, purCells, purCell, nilS], .inl (hU), ?_⟩
          try simp only [St.put, List.set_cons_zero, List.set_cons_succ, List.getD_cons_zero, List.getD_cons_succ, ev_add]
          refine hK _ ?_
          clear hK K
          have hw6 := i64_c ((d.lower.size : Int) + (d.upper.size : Int)) (d.lower.size + d.upper.size) (by omega) (by omega)
          rw [hw6]
          have hw7 := i64_c (((S + d.type.size : Nat) : Int) + ((d.lower.size + d.upper.size : Nat) : Int)) (S + d.type.size + (d.lower.size + d.upper.size)) (by omega) (by omega)
          rw [hw7]
          show Tri _ _ _ _ _ _
          refine tri_last_region tt_ok fun K hK => ?_
          simp only [runOps, stepOp, wantedV, opV, St.eval, St.put, absV, List.set_cons_zero, List.set_cons_succ, List.getD_cons_zero, List.getD_cons_succ, ev_add, nilLen, gnCmp]
          refine hK _ ?_
          clear hK K
          rw [hw2]
          have hfin : S + d.type.size + (d.lower.size + d.upper.size) = 1 + m.imports.length + sumBy Dc.size (m.decls.take (i + 1)) := by omega
          rw [hfin]
          exact ⟨m.decls.length - (i + 1), by omega, 0, [false, false, false, true, false, false, false, false, false, false, false, false, false, true, true, true], by omega, by simp only [maskFr, if_true, if_false, Bool.false_eq_true, List.all_cons, List.all_nil, belowV, Bool.and_self], rfl, i + 1, rfl, hlt, by simp [maskFr]⟩
      · have d0 : decide (d.kind = 0) = false := decide_eq_false h0
        refine tri_seq_region tt_ok fun K hK => ?_
        simp only [d0, runOps, stepOp, wantedV, opV, St.eval, St.put, absV, List.set_cons_zero, List.set_cons_succ, List.getD_cons_zero, List.getD_cons_succ, ev_eql, nilLen, gnCmp]
        refine hK _ ?_
        clear hK K
        refine tri_cond rfl ?_
        show Tri _ _ _ _ _ _
        by_cases h1 : d.kind = 1
        · have d1 : decide (d.kind = 1) = true := decide_eq_true h1
          have hdz : d.size = 1 + d.params.length + (d.type.size + d.expr.size + sumBy (fun p => p.bound.size) d.params) := by unfold Dc.size; rw [if_neg h0, if_pos h1]
          refine tri_seq_region tt_ok fun K hK => ?_
          simp only [d1, runOps, stepOp, wantedV, opV, St.eval, St.put, absV, List.set_cons_zero, List.set_cons_succ, List.getD_cons_zero, List.getD_cons_succ, ev_eql, nilLen, gnCmp]
          refine hK _ ?_
          clear hK K
          refine tri_cond rfl ?_
          show Tri _ _ _ _ _ _
          refine tri_seq_mixed tt_ok mixed_ok [⟨.n, 0, [], []⟩, ⟨.n, 0, [], []⟩, ⟨.r, 0, [], []⟩, ⟨.n, 0, [], []⟩, ⟨.n, 0, [], []⟩, ⟨.r, 0, [], []⟩, ⟨.n, 0, [], []⟩, ⟨.n, 0, [], []⟩, ⟨.n, 0, [], []⟩, ⟨.n, 0, [], []⟩] 0 (by kernel_rfl) fun K hK => ?_
          simp only [wantedV, opV, St.eval, St.put, if_true, List.length_cons, List.length_nil, List.nil_append, List.append_nil, List.set_cons_zero, List.set_cons_succ, List.getD_cons_zero, List.getD_cons_succ, List.map_nil, List.map_cons, fieldV, tOff, fieldAt, loadV, pickCells, List.drop_zero, List.drop_succ_cons, List.take_succ_cons, List.take_zero, List.getElem?_cons_zero, List.getElem?_cons_succ, Nat.zero_add, Nat.reduceAdd, Nat.reduceLeDiff, V.cells, calleeOf, rowOf, gnCmp, tt25, tt29, tt75, runM, List.drop_succ_cons, List.drop_zero, stepM, valD, val1, maskB, List.replicate, Nat.reduceAdd]
          refine ⟨_, _, by simp only [purL, pur1, purCells, purCell, nilS], .inl (hT), ?_⟩
          try simp only [St.put, if_true, List.length_cons, List.length_nil, List.set_cons_zero, List.set_cons_succ, List.getD_cons_zero, List.getD_cons_succ, List.drop_zero, List.drop_succ_cons, List.take_succ_cons, List.take_zero, List.getElem?_cons_zero, Nat.zero_add, Nat.reduceAdd, Nat.reduceLeDiff, List.drop_succ_cons, List.drop_zero, Nat.reduceAdd]
          refine ⟨_, _, by simp only [purL, pur1, purCells, purCell, nilS], .inl (hE), ?_⟩
          try simp only [St.put, List.set_cons_zero, List.set_cons_succ, List.getD_cons_zero, List.getD_cons_succ, ev_add]
          refine hK _ ?_
          clear hK K
          have hw5 := i64_c ((d.type.size : Int) + (d.expr.size : Int)) (d.type.size + d.expr.size) (by omega) (by omega)
          rw [hw5]
          have hw6 := i64_c ((S : Int) + ((d.type.size + d.expr.size : Nat) : Int)) (S + (d.type.size + d.expr.size)) (by omega) (by omega)
          rw [hw6]
          obtain ⟨S1, hS1⟩ : ∃ S1, S1 = S + (d.type.size + d.expr.size) := ⟨_, rfl⟩
          rw [← hS1]
          refine tri_seq_region tt_ok fun K hK => ?_
          simp only [List.length_map, runOps, stepOp, wantedV, opV, St.eval, St.put, absV, if_true, if_false, List.length_cons, List.length_nil, List.set_cons_zero, List.set_cons_succ, List.getD_cons_zero, List.getD_cons_succ, tElem, List.map_nil, List.map_cons, fieldV, tOff, fieldAt, loadV, pickCells, List.drop_zero, List.drop_succ_cons, List.take_succ_cons, List.take_zero, List.getElem?_cons_zero, List.getElem?_cons_succ, List.head?_cons, Nat.zero_add, Nat.reduceAdd, Nat.reduceLeDiff, Bool.false_eq_true, lenV, List.getElem?_toArray, ev_len1, tt73, tt75]
          refine hK _ ?_
          clear hK K
          refine tri_block (tri_loop_inv (fun N st => ∃ (j : Nat), N = d.params.length - j ∧ j ≤ d.params.length ∧
            st = { fr := [.undef, .undef, .undef, num ((S1 + sumBy (fun p => p.bound.size) (d.params.take j) : Nat)), .undef, .undef, .undef, .undef, .undef, .undef, .undef, .undef, .undef, .slice (m.decls.map encDc), num m.decls.length, num i] ++ List.replicate 42 .undef ++ [.slice (d.params.map encPm), num d.params.length, num j] ++ List.replicate 11 .undef, mem := [] }) d.params.length ?_ ?_)
          · exact ⟨0, [false, false, false, true, false, false, false, false, false, false, false, false, false, true, true, true] ++ List.replicate 42 false ++ [true, true, true], by omega, by simp only [List.replicate_succ, List.replicate_zero, List.cons_append, List.nil_append, maskFr, if_true, if_false, Bool.false_eq_true, List.all_cons, List.all_nil, belowV, Bool.and_self], rfl, 0, by omega, by omega, rfl⟩
          · rintro N' st ⟨j, rfl, hj, rfl⟩
            simp only [List.replicate_succ, List.replicate_zero, List.cons_append, List.nil_append]
            by_cases hlt2 : j < d.params.length
            · have hd2 := lt_dec hlt2
              obtain ⟨p, hp⟩ : ∃ p, d.params[j]? = some p := ⟨_, List.getElem?_eq_getElem hlt2⟩
              have hps := sumBy_mem (fun p : Pm => p.bound.size) hp
              have hpt := sumBy_take_succ (fun p : Pm => p.bound.size) hp
              have hpl := sumBy_take_le (fun p : Pm => p.bound.size) d.params (j + 1)
              have hP := stsize_ok p.bound (by omega)
              rw [encTy_eq] at hP
              simp only [tyCells] at hP
              have hpc := get_params d.params j hp
              simp only [tyCells, List.cons_append, List.nil_append] at hpc
              have hw7 := i64_c (((S1 + sumBy (fun p => p.bound.size) (d.params.take j) : Nat) : Int) + (p.bound.size : Int)) (S1 + sumBy (fun p => p.bound.size) (d.params.take (j + 1))) (by omega) (by omega)
              have hw8 := i64_succ j (by omega)
              refine tri_seq_region tt_ok fun K hK => ?_
              simp only [hd2, runOps, stepOp, wantedV, opV, St.eval, St.put, List.set_cons_zero, List.set_cons_succ, List.getD_cons_zero, List.getD_cons_succ, ev_lss, nilLen, gnCmp]
              refine hK _ ?_
              clear hK K
              refine tri_seq (tri_cond rfl (tri_skip ?_))
              refine tri_seq (tri_block ?_)
              refine tri_seq_region tt_ok fun K hK => ?_
              simp only [hpc, runOps, stepOp, wantedV, opV, St.eval, St.put, cellsV, oneV, List.all_cons, List.all_nil, Bool.and_self, Value.oneCell', if_true, if_false, setMem, List.length_cons, List.length_nil, Nat.lt_irrefl, List.nil_append, List.set_cons_zero, List.set_cons_succ, List.getD_cons_zero, List.getD_cons_succ, tElem, tSize, List.map_nil, List.map_cons, loadV, pickCells, List.take_succ_cons, List.take_zero, List.getElem?_cons_zero, List.head?_cons, Nat.zero_add, Nat.reduceAdd, Nat.le_refl, Int.natCast_nonneg, indexV, indexAt, Int.toNat_natCast, V.cells, storeV, spliceL, tt73, tt77]
              refine hK _ ?_
              clear hK K
              refine tri_last_region tt_ok fun K hK => ?_
              simp only [runOps, stepOp, wantedV, opV, St.eval, St.put, if_true, List.length_cons, List.length_nil, List.nil_append, List.append_nil, List.set_cons_zero, List.set_cons_succ, List.getD_cons_zero, List.getD_cons_succ, List.map_nil, List.map_cons, fieldV, tOff, fieldAt, loadV, pickCells, List.drop_zero, List.drop_succ_cons, List.take_succ_cons, List.take_zero, List.getElem?_cons_zero, List.getElem?_cons_succ, List.head?_cons, Nat.zero_add, Nat.reduceAdd, Nat.le_refl, calleeOf, nilLen, gnCmp, tt25, tt77]
              refine .inl ⟨_, _, by simp only [purL, pur1, purCells, purCell, nilS], hP, ?_⟩
              try simp only [St.put, List.append_nil, List.set_cons_zero, List.set_cons_succ, List.getD_cons_zero, List.getD_cons_succ, ev_add, memAfter_nil, List.flatMap_cons, List.flatMap_nil, ref1, refCell]
              refine hK _ ?_
              clear hK K
              rw [hw7]
              show Tri _ _ _ _ _ _
              refine tri_last_region tt_ok fun K hK => ?_
              simp only [runOps, stepOp, wantedV, opV, St.eval, St.put, absV, List.set_cons_zero, List.set_cons_succ, List.getD_cons_zero, List.getD_cons_succ, ev_add, nilLen, gnCmp]
              refine hK _ ?_
              clear hK K
              rw [hw8]
              exact ⟨d.params.length - (j + 1), by omega, 0, [false, false, false, true, false, false, false, false, false, false, false, false, false, true, true, true] ++ List.replicate 42 false ++ [true, true, true], by omega, by simp only [List.replicate_succ, List.replicate_zero, List.cons_append, List.nil_append, maskFr, if_true, if_false, Bool.false_eq_true, List.all_cons, List.all_nil, belowV, Bool.and_self], rfl, j + 1, rfl, hlt2, by simp [maskFr]⟩
            · have hd2 := ge_dec hlt2
              have hje : j = d.params.length := by omega
              subst hje
              refine tri_seq_region tt_ok fun K hK => ?_
              simp only [hd2, runOps, stepOp, wantedV, opV, St.eval, St.put, List.set_cons_zero, List.set_cons_succ, List.getD_cons_zero, List.getD_cons_succ, ev_lss, nilLen, gnCmp]
              refine hK _ ?_
              clear hK K
              refine tri_seq (tri_cond rfl (tri_exit ?_))
              rw [List.take_length]
              show Tri _ _ _ _ _ _
              refine tri_last_region tt_ok fun K hK => ?_
              simp only [runOps, stepOp, wantedV, opV, St.eval, St.put, absV, List.set_cons_zero, List.set_cons_succ, List.getD_cons_zero, List.getD_cons_succ, ev_add, nilLen, gnCmp]
              refine hK _ ?_
              clear hK K
              rw [hw2]
              have hfin : S1 + sumBy (fun p => p.bound.size) d.params = 1 + m.imports.length + sumBy Dc.size (m.decls.take (i + 1)) := by omega
              rw [hfin]
              exact ⟨m.decls.length - (i + 1), by omega, 0, [false, false, false, true, false, false, false, false, false, false, false, false, false, true, true, true], by omega, by simp only [maskFr, if_true, if_false, Bool.false_eq_true, List.all_cons, List.all_nil, belowV, Bool.and_self], rfl, i + 1, rfl, hlt, by simp [maskFr]⟩
        · have d1 : decide (d.kind = 1) = false := decide_eq_false h1
          have hdz : d.size = 1 + d.params.length := by unfold Dc.size; rw [if_neg h0, if_neg h1]; rfl
          refine tri_seq_region tt_ok fun K hK => ?_
          simp only [d1, runOps, stepOp, wantedV, opV, St.eval, St.put, absV, List.set_cons_zero, List.set_cons_succ, List.getD_cons_zero, List.getD_cons_succ, ev_eql, nilLen, gnCmp]
          refine hK _ ?_
          clear hK K
          refine tri_cond rfl (tri_skip ?_)
          show Tri _ _ _ _ _ _
          refine tri_last_region tt_ok fun K hK => ?_
          simp only [runOps, stepOp, wantedV, opV, St.eval, St.put, absV, List.set_cons_zero, List.set_cons_succ, List.getD_cons_zero, List.getD_cons_succ, ev_add, nilLen, gnCmp]
          refine hK _ ?_
          clear hK K
          rw [hw2]
          have hfin : S = 1 + m.imports.length + sumBy Dc.size (m.decls.take (i + 1)) := by omega
          rw [hfin]
          exact ⟨m.decls.length - (i + 1), by omega, 0, [false, false, false, true, false, false, false, false, false, false, false, false, false, true, true, true], by omega, by simp only [maskFr, if_true, if_false, Bool.false_eq_true, List.all_cons, List.all_nil, belowV, Bool.and_self], rfl, i + 1, rfl, hlt, by simp [maskFr]⟩
    · have hd := ge_dec hlt
      refine tri_seq_region tt_ok fun K hK => ?_
      simp only [hd, runOps, stepOp, wantedV, opV, St.eval, St.put, List.set_cons_zero, List.set_cons_succ, List.getD_cons_zero, List.getD_cons_succ, ev_lss, nilLen, gnCmp]
      refine hK _ ?_
      clear hK K
      refine tri_seq (tri_cond rfl (tri_exit ?_))
      have hie : i = m.decls.length := by omega
      subst hie
      show Tri _ _ _ _ _ _
      refine tri_seq_region tt_ok fun K hK => ?_
      simp only [runOps, stepOp, wantedV, opV, St.eval, St.put, List.set_cons_zero, List.set_cons_succ, List.getD_cons_zero, List.getD_cons_succ]
      refine hK _ ?_
      clear hK K
      refine tri_ret ⟨.inl rfl, ?_⟩
      rw [List.take_length]
      rfl
end Go.Proofs.YtpjdfcigadnhcaaGreatDoor
end

section
namespace Go.Proofs.YtpjdfcigadnhcaaGreatDoor
open Go.Eng
variable [Glob]
set_option maxRecDepth 100000
set_option maxHeartbeats 4000000
attribute [local irreducible] runM stepM valD
theorem rmsize_ok (m : Md) (hm : m.bulk ≤ 1048576) : FnOk Tryz.prog 13 [encMd m] (num m.size) := by
  unfold Md.bulk at hm
  have hdl := length_le_sum Dc.bulk Dc.bulk_pos m.decls
  have hle : ∀ i, sumBy Dc.size (m.decls.take i) ≤ 1048576 := fun i => by
    have h1 := sumBy_take_le Dc.bulk m.decls i
    have h2 : ∀ l : List Dc, sumBy Dc.size l ≤ sumBy Dc.bulk l := fun l => by
      induction l with
      | nil => simp [sumBy]
      | cons a r ih => have := Dc.size_le a; simp only [sumBy]; omega
    have := h2 (m.decls.take i); omega
  refine fn_ok tt_ok (fn := Tryz.f13) Tryz.func13 rfl Tryz.call13 ?_
  simp only [startSt, Tryz.ntmps13, List.length_cons, List.length_nil, Nat.reduceAdd, Nat.reduceSub, List.replicate_succ, List.replicate_zero, List.cons_append, List.nil_append]
  rw [encMd_eq]
  simp only [mdCells]
  refine tri_seq_region tt_ok fun K hK => ?_
  simp only [runOps, stepOp, wantedV, opV, St.eval, St.put, absV, cellsV, oneV, List.all_cons, List.all_nil, Bool.and_self, Value.oneCell', if_true, if_false, setMem, List.length_nil, Nat.lt_irrefl, List.nil_append, List.set_cons_zero, List.set_cons_succ, List.getD_cons_zero]
  refine hK _ ?_
  clear hK K
  have hw1 := i64_c (1 + (m.imports.length : Int)) (1 + m.imports.length) (by omega) (by omega)
  refine tri_seq_region tt_ok fun K hK => ?_
  simp only [List.length_map, hw1, runOps, stepOp, wantedV, opV, St.eval, St.put, absV, if_true, if_false, List.length_cons, List.length_nil, List.set_cons_zero, List.set_cons_succ, List.getD_cons_zero, List.getD_cons_succ, tElem, List.map_nil, List.map_cons, fieldV, tOff, fieldAt, loadV, pickCells, List.drop_zero, List.drop_succ_cons, List.take_succ_cons, List.take_zero, List.getElem?_cons_zero, List.getElem?_cons_succ, List.head?_cons, Nat.zero_add, Nat.reduceAdd, Nat.reduceLeDiff, Bool.false_eq_true, lenV, ev_add, List.getElem?_toArray, nilLen, ev_len1, gnCmp, tt30, tt33]
  refine hK _ ?_
  clear hK K
  refine tri_seq ?_
  refine tri_seq_region tt_ok fun K hK => ?_
  simp only [runOps, stepOp, wantedV, opV, St.eval, St.put, absV, List.set_cons_zero, List.set_cons_succ]
  refine hK _ ?_
  clear hK K
  refine tri_block (tri_loop_inv (fun N st => ∃ (i : Nat), N = m.decls.length - i ∧ i ≤ m.decls.length ∧
    st = { fr := [.undef, .ptr 0 0, .undef, num ((1 + m.imports.length + sumBy Dc.size (m.decls.take i) : Nat)), num i] ++ List.replicate 73 .undef, mem := [.box [str m.path, .slice (m.imports.map encIm), .slice (m.decls.map encDc)]] }) m.decls.length ?_ ?_)
  · exact ⟨1, [false, true, false, true, true], by omega, by simp only [maskFr, if_true, if_false, Bool.false_eq_true, List.all_cons, List.all_nil, belowV, Nat.reduceLT, decide_true, Bool.and_self], by simp only [List.all_cons, List.all_nil, belowV, belowB, Bool.and_self, List.take_succ_cons, List.take_nil], 0, by omega, by omega, rfl⟩
  · rintro N' st ⟨i, rfl, hi, rfl⟩
    simp only [List.replicate_succ, List.replicate_zero, List.cons_append, List.nil_append]
    refine tri_seq ?_
    by_cases hlt : i < m.decls.length
    · have hd := lt_dec hlt
      refine tri_seq_region tt_ok fun K hK => ?_
      simp only [List.length_map, hd, runOps, stepOp, wantedV, opV, St.eval, St.put, if_true, if_false, List.length_cons, List.length_nil, List.set_cons_zero, List.set_cons_succ, List.getD_cons_zero, List.getD_cons_succ, tElem, List.map_nil, List.map_cons, fieldV, tOff, fieldAt, loadV, pickCells, List.drop_zero, List.drop_succ_cons, List.take_succ_cons, List.take_zero, List.getElem?_cons_zero, List.getElem?_cons_succ, List.head?_cons, Nat.zero_add, Nat.le_refl, Bool.false_eq_true, lenV, ev_lss, List.getElem?_toArray, nilLen, ev_len1, gnCmp, tt31, tt33]
      refine hK _ ?_
      clear hK K
      refine tri_cond rfl (tri_skip ?_)
      refine tri_seq (tri_block ?_)
      obtain ⟨d, hdd⟩ : ∃ d, m.decls[i]? = some d := ⟨_, List.getElem?_eq_getElem hlt⟩
      have hds := sumBy_mem Dc.bulk hdd
      have hdb : d.bulk = 1 + d.params.length + sumBy (fun p => p.bound.size) d.params + d.lower.size + d.upper.size + d.type.size + d.expr.bulk := rfl
      have hts := sumBy_take_succ Dc.size hdd
      have hsz := d.size_le
      have hT := tsize_ok d.type.size d.type (Nat.le_refl _) (by omega)
      have hL := tsize_ok d.lower.size d.lower (Nat.le_refl _) (by omega)
      have hU := tsize_ok d.upper.size d.upper (Nat.le_refl _) (by omega)
      have hE := esize_ok d.expr.bulk d.expr (Nat.le_refl _) (by omega)
      have hC := rclear_ok d (by omega)
      have hse := Ex.size_le_bulk _ d.expr (Nat.le_refl _)
      have hln := hle (i + 1)
      have hl0 := hle i
      rw [encTy_eq] at hT hL hU
      rw [encEx_eq] at hE
      rw [encDc_eq] at hC
      simp only [tyCells, exCells, dcCells, List.cons_append, List.nil_append] at hT hL hU hE hC
      have hdc := get_decls m.decls i hdd
      simp only [tyCells, exCells, dcCells, List.cons_append, List.nil_append] at hdc
      have hw2 := i64_succ i (by omega)
      have hw3 := i64_c (((1 + m.imports.length + sumBy Dc.size (m.decls.take i) : Nat) : Int) + 1) (1 + m.imports.length + sumBy Dc.size (m.decls.take i) + 1) (by omega) (by omega)
      have hw4 := i64_c (((1 + m.imports.length + sumBy Dc.size (m.decls.take i) + 1 : Nat) : Int) + (d.params.length : Int)) (1 + m.imports.length + sumBy Dc.size (m.decls.take i) + 1 + d.params.length) (by omega) (by omega)
      obtain ⟨S, hS⟩ : ∃ S, S = 1 + m.imports.length + sumBy Dc.size (m.decls.take i) + 1 + d.params.length := ⟨_, rfl⟩
      rw [← hS] at hw4
      refine tri_seq_region tt_ok fun K hK => ?_
      simp only [hdc, runOps, stepOp, wantedV, opV, St.eval, St.put, cellsV, oneV, List.all_cons, List.all_nil, Bool.and_self, Value.oneCell', if_true, if_false, setMem, List.length_cons, List.length_nil, Nat.lt_irrefl, List.nil_append, List.cons_append, List.set_cons_zero, List.set_cons_succ, List.getD_cons_zero, List.getD_cons_succ, tElem, tSize, List.map_nil, List.map_cons, fieldV, tOff, fieldAt, loadV, pickCells, List.drop_zero, List.drop_succ_cons, List.take_succ_cons, List.take_zero, List.getElem?_cons_zero, List.getElem?_cons_succ, List.head?_cons, Nat.zero_add, Nat.reduceAdd, Nat.le_refl, Bool.false_eq_true, Int.natCast_nonneg, indexV, indexAt, Int.toNat_natCast, V.cells, storeV, spliceL, tt31, tt33, tt75]
      refine hK _ ?_
      clear hK K
      refine tri_seq_region tt_ok fun K hK => ?_
      simp only [List.length_map, hw3, hw4, runOps, stepOp, wantedV, opV, St.eval, St.put, absV, if_true, if_false, List.length_cons, List.length_nil, List.set_cons_zero, List.set_cons_succ, List.getD_cons_zero, List.getD_cons_succ, tElem, List.map_nil, List.map_cons, fieldV, tOff, fieldAt, loadV, pickCells, List.drop_zero, List.drop_succ_cons, List.take_succ_cons, List.take_zero, List.getElem?_cons_zero, List.getElem?_cons_succ, List.head?_cons, Nat.zero_add, Nat.reduceAdd, Nat.reduceLeDiff, Bool.false_eq_true, lenV, ev_add, List.getElem?_toArray, nilLen, ev_len1, gnCmp, tt73, tt75]
      refine hK _ ?_
      clear hK K
      refine tri_seq ?_
      by_cases h1 : d.kind = 1
      · have d1 : decide (d.kind = 1) = true := decide_eq_true h1
        have d0 : decide (d.kind = 0) = false := decide_eq_false (by omega)
        have hdz : d.size = 1 + d.params.length + (d.type.size + d.expr.size + sumBy (fun p => p.bound.size) d.params) := by unfold Dc.size; rw [if_neg (by omega), if_pos h1]
        refine tri_seq_region tt_ok fun K hK => ?_
        simp only [d1, runOps, stepOp, wantedV, opV, St.eval, St.put, absV, if_true, if_false, List.length_cons, List.length_nil, List.set_cons_zero, List.set_cons_succ, List.getD_cons_zero, List.getD_cons_succ, fieldV, tOff, fieldAt, loadV, pickCells, List.drop_zero, List.take_succ_cons, List.take_zero, List.getElem?_cons_zero, List.getElem?_cons_succ, List.head?_cons, Nat.zero_add, Nat.add_zero, Nat.reduceAdd, Nat.reduceLeDiff, Bool.false_eq_true, ev_eql, nilLen, gnCmp, tt3, tt75]
        refine hK _ ?_
        clear hK K
        refine tri_cond rfl ?_
        show Tri _ _ _ _ _ _
        refine tri_seq ?_
        refine tri_seq_region tt_ok fun K hK => ?_
        simp only [runOps, stepOp, wantedV, opV, St.eval, St.put, absV, List.set_cons_zero, List.set_cons_succ]
        refine hK _ ?_
        clear hK K
        refine tri_block (tri_loop_inv (fun N st => ∃ (j : Nat), N = d.params.length - j ∧ j ≤ d.params.length ∧
          st = { fr := [.undef, .ptr 0 0, .undef, num ((S + sumBy (fun p => p.bound.size) (d.params.take j) : Nat)), num i, .ptr 1 0, num j] ++ List.replicate 71 .undef, mem := [.box [str m.path, .slice (m.imports.map encIm), .slice (m.decls.map encDc)], .box (dcCells d)] }) d.params.length ?_ ?_)
        · exact ⟨2, [false, true, false, true, true, true, true], by omega, by simp only [maskFr, if_true, if_false, Bool.false_eq_true, List.all_cons, List.all_nil, belowV, Nat.reduceLT, decide_true, Bool.and_self], by simp only [List.all_cons, List.all_nil, belowV, belowB, Bool.and_self, List.take_succ_cons, List.take_nil], 0, by omega, by omega, rfl⟩
        · rintro N' st ⟨j, rfl, hj, rfl⟩
          simp only [List.replicate_succ, List.replicate_zero, List.cons_append, List.nil_append, dcCells, tyCells, exCells]
          refine tri_seq ?_
          by_cases hlt2 : j < d.params.length
          · have hd2 := lt_dec hlt2
            obtain ⟨p, hp⟩ : ∃ p, d.params[j]? = some p := ⟨_, List.getElem?_eq_getElem hlt2⟩
            have hps := sumBy_mem (fun p : Pm => p.bound.size) hp
            have hpt := sumBy_take_succ (fun p : Pm => p.bound.size) hp
            have hpl := sumBy_take_le (fun p : Pm => p.bound.size) d.params (j + 1)
            have hP := tsize_ok p.bound.size p.bound (Nat.le_refl _) (by omega)
            rw [encTy_eq] at hP
            simp only [tyCells] at hP
            have hpc := get_params d.params j hp
            simp only [tyCells, List.cons_append, List.nil_append] at hpc
            have hw7 := i64_c (((S + sumBy (fun p => p.bound.size) (d.params.take j) : Nat) : Int) + (p.bound.size : Int)) (S + sumBy (fun p => p.bound.size) (d.params.take (j + 1))) (by omega) (by omega)
            have hw8 := i64_succ j (by omega)
            refine tri_seq_region tt_ok fun K hK => ?_
            simp only [List.length_map, hd2, runOps, stepOp, wantedV, opV, St.eval, St.put, if_true, if_false, List.length_cons, List.length_nil, List.set_cons_zero, List.set_cons_succ, List.getD_cons_zero, List.getD_cons_succ, tElem, List.map_nil, List.map_cons, fieldV, tOff, fieldAt, loadV, pickCells, List.drop_zero, List.drop_succ_cons, List.take_succ_cons, List.take_zero, List.getElem?_cons_zero, List.getElem?_cons_succ, List.head?_cons, Nat.zero_add, Nat.reduceAdd, Nat.reduceLeDiff, Bool.false_eq_true, lenV, ev_lss, List.getElem?_toArray, nilLen, ev_len1, gnCmp, tt73, tt75]
            refine hK _ ?_
            clear hK K
            refine tri_cond rfl (tri_skip ?_)
            refine tri_seq (tri_block ?_)
            refine tri_last_region tt_ok fun K hK => ?_
            simp only [hpc, runOps, stepOp, wantedV, opV, St.eval, St.put, if_true, if_false, List.length_cons, List.length_nil, List.nil_append, List.append_nil, List.set_cons_zero, List.set_cons_succ, List.getD_cons_zero, List.getD_cons_succ, tElem, tSize, List.map_nil, List.map_cons, fieldV, tOff, fieldAt, loadV, pickCells, List.drop_zero, List.drop_succ_cons, List.take_succ_cons, List.take_zero, List.getElem?_cons_zero, List.getElem?_cons_succ, List.head?_cons, Nat.zero_add, Nat.reduceAdd, Nat.reduceLeDiff, Nat.le_refl, Bool.false_eq_true, Int.natCast_nonneg, indexV, indexAt, Int.toNat_natCast, V.cells, calleeOf, nilLen, gnCmp, tt25, tt73, tt75, tt77]
            refine .inl ⟨_, _, by simp only [purL, pur1, purCells, purCell, nilS], hP, ?_⟩
            try simp only [St.put, List.append_nil, List.set_cons_zero, List.set_cons_succ, List.getD_cons_zero, List.getD_cons_succ, ev_add, memAfter_nil, List.flatMap_cons, List.flatMap_nil, ref1, refCell]
            refine hK _ ?_
            clear hK K
            rw [hw7]
            show Tri _ _ _ _ _ _
            refine tri_last_region tt_ok fun K hK => ?_
            simp only [runOps, stepOp, wantedV, opV, St.eval, St.put, absV, List.set_cons_zero, List.set_cons_succ, List.getD_cons_zero, List.getD_cons_succ, ev_add, nilLen, gnCmp]
            refine hK _ ?_
            clear hK K
            rw [hw8]
            exact ⟨d.params.length - (j + 1), by omega, 2, [false, true, false, true, true, true, true], by omega, by simp only [maskFr, if_true, if_false, Bool.false_eq_true, List.all_cons, List.all_nil, belowV, Nat.reduceLT, decide_true, Bool.and_self], by simp only [List.all_cons, List.all_nil, belowV, belowB, Bool.and_self, List.take_succ_cons, List.take_nil], j + 1, rfl, hlt2, by simp [maskFr]⟩
          · have hd2 := ge_dec hlt2
            have hje : j = d.params.length := by omega
            subst hje
            refine tri_seq_region tt_ok fun K hK => ?_
            simp only [List.length_map, hd2, runOps, stepOp, wantedV, opV, St.eval, St.put, if_true, if_false, List.length_cons, List.length_nil, List.set_cons_zero, List.set_cons_succ, List.getD_cons_zero, List.getD_cons_succ, tElem, List.map_nil, List.map_cons, fieldV, tOff, fieldAt, loadV, pickCells, List.drop_zero, List.drop_succ_cons, List.take_succ_cons, List.take_zero, List.getElem?_cons_zero, List.getElem?_cons_succ, List.head?_cons, Nat.zero_add, Nat.reduceAdd, Nat.reduceLeDiff, Bool.false_eq_true, lenV, ev_lss, List.getElem?_toArray, nilLen, ev_len1, gnCmp, tt73, tt75]
            refine hK _ ?_
            clear hK K
            refine tri_cond rfl (tri_exit ?_)
            rw [List.take_length]
            show Tri _ _ _ _ _ _
            have hw5 := i64_c (((S + sumBy (fun p => p.bound.size) d.params : Nat) : Int) + (d.type.size : Int)) (S + sumBy (fun p => p.bound.size) d.params + d.type.size) (by omega) (by omega)
            have hw6 := i64_c (((S + sumBy (fun p => p.bound.size) d.params + d.type.size : Nat) : Int) + (d.expr.size : Int)) (S + sumBy (fun p => p.bound.size) d.params + d.type.size + d.expr.size) (by omega) (by omega)
            refine tri_last_mixed tt_ok mixed_ok [⟨.n, 0, [], []⟩, ⟨.n, 0, [], []⟩, ⟨.r, 0, [], []⟩, ⟨.n, 0, [], []⟩, ⟨.n, 0, [], []⟩, ⟨.n, 0, [], []⟩, ⟨.r, 0, [], []⟩, ⟨.n, 0, [], []⟩, ⟨.n, 0, [], []⟩, ⟨.n, 0, [], []⟩] 0 (by kernel_rfl) fun K hK => ?_
            simp only [wantedV, opV, St.eval, St.put, if_true, List.length_cons, List.length_nil, List.nil_append, List.append_nil, List.set_cons_zero, List.set_cons_succ, List.getD_cons_zero, List.getD_cons_succ, List.map_nil, List.map_cons, fieldV, tOff, fieldAt, loadV, pickCells, List.drop_zero, List.drop_succ_cons, List.take_succ_cons, List.take_zero, List.getElem?_cons_zero, List.getElem?_cons_succ, Nat.zero_add, Nat.reduceAdd, Nat.reduceLeDiff, V.cells, calleeOf, rowOf, gnCmp, tt25, tt29, tt75, runM, List.drop_succ_cons, List.drop_zero, stepM, valD, val1, maskB, List.replicate, Nat.reduceAdd]
            refine ⟨_, _, by simp only [purL, pur1, purCells, purCell, nilS], .inl (hT), ?_⟩
            try simp only [hw5, St.put, if_true, List.length_cons, List.length_nil, List.set_cons_zero, List.set_cons_succ, List.getD_cons_zero, List.getD_cons_succ, List.drop_zero, List.drop_succ_cons, List.take_succ_cons, List.take_zero, List.getElem?_cons_zero, List.getElem?_cons_succ, Nat.zero_add, Nat.reduceAdd, Nat.reduceLeDiff, ev_add, List.drop_succ_cons, List.drop_zero, Nat.reduceAdd]
            refine ⟨_, _, by simp only [purL, pur1, purCells, purCell, nilS], .inl (hE), ?_⟩
            try simp only [hw6, St.put, List.set_cons_zero, List.set_cons_succ, List.getD_cons_zero, List.getD_cons_succ, ev_add]
            refine hK _ ?_
            clear hK K
            show Tri _ _ _ _ _ _
            refine tri_seq_region tt_ok fun K hK => ?_
            simp only [d0, runOps, stepOp, wantedV, opV, St.eval, St.put, absV, if_true, if_false, List.length_cons, List.length_nil, List.set_cons_zero, List.set_cons_succ, List.getD_cons_zero, List.getD_cons_succ, fieldV, tOff, fieldAt, loadV, pickCells, List.drop_zero, List.take_succ_cons, List.take_zero, List.getElem?_cons_zero, List.getElem?_cons_succ, List.head?_cons, Nat.zero_add, Nat.add_zero, Nat.reduceAdd, Nat.reduceLeDiff, Bool.false_eq_true, ev_eql, nilLen, gnCmp, tt3, tt75]
            refine hK _ ?_
            clear hK K
            refine tri_cond rfl (tri_skip ?_)
            show Tri _ _ _ _ _ _
            refine tri_last_region tt_ok fun K hK => ?_
            simp only [runOps, stepOp, wantedV, opV, St.eval, St.put, absV, List.set_cons_zero, List.set_cons_succ, List.getD_cons_zero, List.getD_cons_succ, ev_add, nilLen, gnCmp]
            refine hK _ ?_
            clear hK K
            rw [hw2]
            have hfin : S + sumBy (fun p => p.bound.size) d.params + d.type.size + d.expr.size = 1 + m.imports.length + sumBy Dc.size (m.decls.take (i + 1)) := by omega
            rw [hfin]
            exact ⟨m.decls.length - (i + 1), by omega, 1, [false, true, false, true, true], by omega, by simp only [maskFr, if_true, if_false, Bool.false_eq_true, List.all_cons, List.all_nil, belowV, Nat.reduceLT, decide_true, Bool.and_self], by simp only [List.all_cons, List.all_nil, belowV, belowB, Bool.and_self, List.take_succ_cons, List.take_zero], i + 1, rfl, hlt, by simp [maskFr]⟩
      · have d1 : decide (d.kind = 1) = false := decide_eq_false h1
        refine tri_seq_region tt_ok fun K hK => ?_
        simp only [d1, runOps, stepOp, wantedV, opV, St.eval, St.put, absV, if_true, if_false, List.length_cons, List.length_nil, List.set_cons_zero, List.set_cons_succ, List.getD_cons_zero, List.getD_cons_succ, fieldV, tOff, fieldAt, loadV, pickCells, List.drop_zero, List.take_succ_cons, List.take_zero, List.getElem?_cons_zero, List.getElem?_cons_succ, List.head?_cons, Nat.zero_add, Nat.add_zero, Nat.reduceAdd, Nat.reduceLeDiff, Bool.false_eq_true, ev_eql, nilLen, gnCmp, tt3, tt75]
        refine hK _ ?_
        clear hK K
        refine tri_cond rfl (tri_skip ?_)
        show Tri _ _ _ _ _ _
        by_cases h0 : d.kind = 0
        · have d0 : decide (d.kind = 0) = true := decide_eq_true h0
          refine tri_seq_region tt_ok fun K hK => ?_
          simp only [d0, runOps, stepOp, wantedV, opV, St.eval, St.put, absV, if_true, if_false, List.length_cons, List.length_nil, List.set_cons_zero, List.set_cons_succ, List.getD_cons_zero, List.getD_cons_succ, fieldV, tOff, fieldAt, loadV, pickCells, List.drop_zero, List.take_succ_cons, List.take_zero, List.getElem?_cons_zero, List.getElem?_cons_succ, List.head?_cons, Nat.zero_add, Nat.add_zero, Nat.reduceAdd, Nat.reduceLeDiff, Bool.false_eq_true, ev_eql, nilLen, gnCmp, tt3, tt75]
          refine hK _ ?_
          clear hK K
          refine tri_cond rfl ?_
          have hw5 := i64_c ((S : Int) + (d.type.size : Int)) (S + d.type.size) (by omega) (by omega)
          refine tri_seq_region tt_ok fun K hK => ?_
          simp only [runOps, stepOp, wantedV, opV, St.eval, St.put, if_true, List.length_cons, List.length_nil, List.nil_append, List.append_nil, List.set_cons_zero, List.set_cons_succ, List.getD_cons_zero, List.getD_cons_succ, List.map_nil, List.map_cons, fieldV, tOff, fieldAt, loadV, pickCells, List.drop_zero, List.drop_succ_cons, List.take_succ_cons, List.take_zero, List.getElem?_cons_zero, List.getElem?_cons_succ, List.head?_cons, Nat.zero_add, Nat.reduceAdd, Nat.reduceLeDiff, calleeOf, nilLen, gnCmp, tt25, tt75]
          refine .inl ⟨_, _, by simp only [purL, pur1, purCells, purCell, nilS], hT, ?_⟩
          try simp only [hw5, St.put, List.append_nil, List.set_cons_zero, List.set_cons_succ, List.getD_cons_zero, List.getD_cons_succ, ev_add, memAfter_nil, List.flatMap_cons, List.flatMap_nil, ref1, refCell]
          refine hK _ ?_
          clear hK K
          cases hcl : d.clear with
          | true =>
            have hdz : d.size = 1 + d.params.length + d.type.size := by unfold Dc.size; rw [if_pos h0, if_pos hcl, Nat.add_zero]
            rw [hcl] at hC
            refine tri_seq_region tt_ok fun K hK => ?_
            simp only [runOps, stepOp, wantedV, opV, St.eval, St.put, if_true, List.length_cons, List.length_nil, List.nil_append, List.append_nil, List.set_cons_zero, List.set_cons_succ, List.getD_cons_zero, List.getD_cons_succ, List.map_nil, List.map_cons, loadV, pickCells, List.drop_zero, List.take_succ_cons, List.take_zero, List.getElem?_cons_zero, List.getElem?_cons_succ, List.head?_cons, Nat.zero_add, Nat.reduceAdd, Nat.le_refl, calleeOf, tt75]
            refine .inl ⟨_, _, by simp only [purL, pur1, purCells, purCell, nilS], hC, ?_⟩
            try simp only [St.put, List.append_nil, List.set_cons_zero, List.set_cons_succ, List.getD_cons_zero, List.getD_cons_succ, ev_not, Bool.not_true, memAfter_nil, List.flatMap_cons, List.flatMap_nil, ref1, refCell]
            refine hK _ ?_
            clear hK K
            refine tri_cond rfl (tri_skip ?_)
            show Tri _ _ _ _ _ _
            refine tri_last_region tt_ok fun K hK => ?_
            simp only [runOps, stepOp, wantedV, opV, St.eval, St.put, absV, List.set_cons_zero, List.set_cons_succ, List.getD_cons_zero, List.getD_cons_succ, ev_add, nilLen, gnCmp]
            refine hK _ ?_
            clear hK K
            rw [hw2]
            have hfin : S + d.type.size = 1 + m.imports.length + sumBy Dc.size (m.decls.take (i + 1)) := by omega
            rw [hfin]
            exact ⟨m.decls.length - (i + 1), by omega, 1, [false, true, false, true, true], by omega, by simp only [maskFr, if_true, if_false, Bool.false_eq_true, List.all_cons, List.all_nil, belowV, Nat.reduceLT, decide_true, Bool.and_self], by simp only [List.all_cons, List.all_nil, belowV, belowB, Bool.and_self, List.take_succ_cons, List.take_zero], i + 1, rfl, hlt, by simp [maskFr]⟩
          | false =>
            have hdz : d.size = 1 + d.params.length + (d.type.size + (d.lower.size + d.upper.size)) := by unfold Dc.size; rw [if_pos h0, if_neg (by rw [hcl]; simp)]
            rw [hcl] at hC
            refine tri_seq_region tt_ok fun K hK => ?_
            simp only [runOps, stepOp, wantedV, opV, St.eval, St.put, if_true, List.length_cons, List.length_nil, List.nil_append, List.append_nil, List.set_cons_zero, List.set_cons_succ, List.getD_cons_zero, List.getD_cons_succ, List.map_nil, List.map_cons, loadV, pickCells, List.drop_zero, List.take_succ_cons, List.take_zero, List.getElem?_cons_zero, List.getElem?_cons_succ, List.head?_cons, Nat.zero_add, Nat.reduceAdd, Nat.le_refl, calleeOf, tt75]
            refine .inl ⟨_, _, by simp only [purL, pur1, purCells, purCell, nilS], hC, ?_⟩
            try simp only [St.put, List.append_nil, List.set_cons_zero, List.set_cons_succ, List.getD_cons_zero, List.getD_cons_succ, ev_not, Bool.not_false, memAfter_nil, List.flatMap_cons, List.flatMap_nil, ref1, refCell]
            refine hK _ ?_
            clear hK K
            refine tri_cond rfl ?_
            show Tri _ _ _ _ _ _
            have hw6 := i64_c (((S + d.type.size : Nat) : Int) + (d.lower.size : Int)) (S + d.type.size + d.lower.size) (by omega) (by omega)
            have hw7 := i64_c (((S + d.type.size + d.lower.size : Nat) : Int) + (d.upper.size : Int)) (S + d.type.size + d.lower.size + d.upper.size) (by omega) (by omega)
            refine tri_last_mixed tt_ok mixed_ok [⟨.n, 0, [], []⟩, ⟨.n, 0, [], []⟩, ⟨.r, 0, [], []⟩, ⟨.n, 0, [], []⟩, ⟨.n, 0, [], []⟩, ⟨.n, 0, [], []⟩, ⟨.r, 0, [], []⟩, ⟨.n, 0, [], []⟩, ⟨.n, 0, [], []⟩, ⟨.n, 0, [], []⟩] 0 (by kernel_rfl) fun K hK => ?_
            simp only [wantedV, opV, St.eval, St.put, if_true, List.length_cons, List.length_nil, List.nil_append, List.append_nil, List.set_cons_zero, List.set_cons_succ, List.getD_cons_zero, List.getD_cons_succ, List.map_nil, List.map_cons, fieldV, tOff, fieldAt, loadV, pickCells, List.drop_zero, List.drop_succ_cons, List.take_succ_cons, List.take_zero, List.getElem?_cons_zero, List.getElem?_cons_succ, Nat.zero_add, Nat.reduceAdd, Nat.reduceLeDiff, V.cells, calleeOf, rowOf, gnCmp, tt25, tt75, runM, List.drop_succ_cons, List.drop_zero, stepM, valD, val1, maskB, List.replicate, Nat.reduceAdd]
            refine ⟨_, _, by simp only [purL, pur1, purCells, purCell, nilS], .inl (hL), ?_⟩
            try simp only [hw6, St.put, if_true, List.length_cons, List.length_nil, List.set_cons_zero, List.set_cons_succ, List.getD_cons_zero, List.getD_cons_succ, List.drop_zero, List.drop_succ_cons, List.take_succ_cons, List.take_zero, List.getElem?_cons_zero, List.getElem?_cons_succ, Nat.zero_add, Nat.reduceAdd, Nat.reduceLeDiff, ev_add, List.drop_succ_cons, List.drop_zero, Nat.reduceAdd]
            refine ⟨_, _, by simp only [purL, pur1, purCells, purCell, nilS], .inl (hU), ?_⟩
            try simp only [hw7, St.put, List.set_cons_zero, List.set_cons_succ, List.getD_cons_zero, List.getD_cons_succ, ev_add]
            refine hK _ ?_
            clear hK K
            show Tri _ _ _ _ _ _
            refine tri_last_region tt_ok fun K hK => ?_
            simp only [runOps, stepOp, wantedV, opV, St.eval, St.put, absV, List.set_cons_zero, List.set_cons_succ, List.getD_cons_zero, List.getD_cons_succ, ev_add, nilLen, gnCmp]
            refine hK _ ?_
            clear hK K
            rw [hw2]
            have hfin : S + d.type.size + d.lower.size + d.upper.size = 1 + m.imports.length + sumBy Dc.size (m.decls.take (i + 1)) := by omega
            rw [hfin]
            exact ⟨m.decls.length - (i + 1), by omega, 1, [false, true, false, true, true], by omega, by simp only [maskFr, if_true, if_false, Bool.false_eq_true, List.all_cons, List.all_nil, belowV, Nat.reduceLT, decide_true, Bool.and_self], by simp only [List.all_cons, List.all_nil, belowV, belowB, Bool.and_self, List.take_succ_cons, List.take_zero], i + 1, rfl, hlt, by simp [maskFr]⟩
        · have d0 : decide (d.kind = 0) = false := decide_eq_false h0
          have hdz : d.size = 1 + d.params.length := by unfold Dc.size; rw [if_neg h0, if_neg h1]; rfl
          refine tri_seq_region tt_ok fun K hK => ?_
          simp only [d0, runOps, stepOp, wantedV, opV, St.eval, St.put, absV, if_true, if_false, List.length_cons, List.length_nil, List.set_cons_zero, List.set_cons_succ, List.getD_cons_zero, List.getD_cons_succ, fieldV, tOff, fieldAt, loadV, pickCells, List.drop_zero, List.take_succ_cons, List.take_zero, List.getElem?_cons_zero, List.getElem?_cons_succ, List.head?_cons, Nat.zero_add, Nat.add_zero, Nat.reduceAdd, Nat.reduceLeDiff, Bool.false_eq_true, ev_eql, nilLen, gnCmp, tt3, tt75]
          refine hK _ ?_
          clear hK K
          refine tri_cond rfl (tri_skip ?_)
          show Tri _ _ _ _ _ _
          refine tri_last_region tt_ok fun K hK => ?_
          simp only [runOps, stepOp, wantedV, opV, St.eval, St.put, absV, List.set_cons_zero, List.set_cons_succ, List.getD_cons_zero, List.getD_cons_succ, ev_add, nilLen, gnCmp]
          refine hK _ ?_
          clear hK K
          rw [hw2]
          have hfin : S = 1 + m.imports.length + sumBy Dc.size (m.decls.take (i + 1)) := by omega
          rw [hfin]
          exact ⟨m.decls.length - (i + 1), by omega, 1, [false, true, false, true, true], by omega, by simp only [maskFr, if_true, if_false, Bool.false_eq_true, List.all_cons, List.all_nil, belowV, Nat.reduceLT, decide_true, Bool.and_self], by simp only [List.all_cons, List.all_nil, belowV, belowB, Bool.and_self, List.take_succ_cons, List.take_zero], i + 1, rfl, hlt, by simp [maskFr]⟩
    · have hd := ge_dec hlt
      refine tri_seq_region tt_ok fun K hK => ?_
      simp only [List.length_map, hd, runOps, stepOp, wantedV, opV, St.eval, St.put, if_true, if_false, List.length_cons, List.length_nil, List.set_cons_zero, List.set_cons_succ, List.getD_cons_zero, List.getD_cons_succ, tElem, List.map_nil, List.map_cons, fieldV, tOff, fieldAt, loadV, pickCells, List.drop_zero, List.drop_succ_cons, List.take_succ_cons, List.take_zero, List.getElem?_cons_zero, List.getElem?_cons_succ, List.head?_cons, Nat.zero_add, Nat.le_refl, Bool.false_eq_true, lenV, ev_lss, List.getElem?_toArray, nilLen, ev_len1, gnCmp, tt31, tt33]
      refine hK _ ?_
      clear hK K
      refine tri_cond rfl (tri_exit ?_)
      have hie : i = m.decls.length := by omega
      subst hie
      show Tri _ _ _ _ _ _
      refine tri_seq_region tt_ok fun K hK => ?_
      simp only [runOps, stepOp, wantedV, opV, St.eval, St.put, List.set_cons_zero, List.set_cons_succ, List.getD_cons_zero, List.getD_cons_succ]
      refine hK _ ?_
      clear hK K
      refine tri_ret ⟨.inl rfl, ?_⟩
      rw [List.take_length]
      rfl
end Go.Proofs.YtpjdfcigadnhcaaGreatDoor
end

section
namespace Go.Proofs.YtpjdfcigadnhcaaGreatDoor
open Go.Eng
variable [Glob]
set_option maxRecDepth 100000
set_option maxHeartbeats 4000000
attribute [local irreducible] runM stepM valD
theorem sumBy_le_mul {α : Type} (f : α → Nat) (c : Nat) : ∀ l : List α, (∀ t ∈ l, f t ≤ c) → sumBy f l ≤ l.length * c
  | [], _ => by simp [sumBy]
  | a :: r, h => by
    have h1 := h a (by simp)
    have h2 := sumBy_le_mul f c r fun t ht => h t (by simp [ht])
    simp only [sumBy, List.length_cons, Nat.add_mul, Nat.one_mul]
    omega
theorem fewTypes_ok (k : Int) (ts : List Ty) (hs : ∀ t ∈ ts, t.size ≤ 1048576) (hl : ts.length ≤ 1000) :
    FnOk Tryz.prog 11 [num k, .slice (encTys ts)] (bl (decide ((sumBy Ty.size ts : Int) ≤ k))) := by
  have hle : ∀ i, sumBy Ty.size (ts.take i) ≤ 1048576000 := fun i => by
    have h1 := sumBy_take_le Ty.size ts i
    have h2 := sumBy_le_mul Ty.size 1048576 ts hs
    omega
  refine fn_ok tt_ok (fn := Tryz.f11) Tryz.func11 rfl Tryz.call11 ?_
  simp only [startSt, Tryz.ntmps11, List.length_cons, List.length_nil, Nat.reduceAdd, Nat.reduceSub, List.replicate_succ, List.replicate_zero, List.cons_append, List.nil_append]
  refine tri_seq_region tt_ok fun K hK => ?_
  simp only [runOps, stepOp, wantedV, opV, St.eval, St.put, absV, List.set_cons_zero, List.set_cons_succ]
  refine hK _ ?_
  clear hK K
  refine tri_seq_region tt_ok fun K hK => ?_
  simp only [runOps, stepOp, wantedV, opV, St.eval, St.put, absV, List.set_cons_zero, List.set_cons_succ]
  refine hK _ ?_
  clear hK K
  refine tri_seq ?_
  refine tri_seq_region tt_ok fun K hK => ?_
  simp only [length_encTys, runOps, stepOp, wantedV, opV, St.eval, St.put, absV, List.set_cons_zero, List.set_cons_succ, List.getD_cons_zero, List.getD_cons_succ, tElem, List.map_nil, List.map_cons, List.getElem?_cons_zero, lenV, List.getElem?_toArray, ev_len1, tt22]
  refine hK _ ?_
  clear hK K
  refine tri_block (tri_loop_inv (fun N st => ∃ (i : Nat), N = ts.length - i ∧ i ≤ ts.length ∧
    st = { fr := [num k, .undef, .undef, .undef, .undef, num ((sumBy Ty.size (ts.take i) : Nat)), .undef, .undef, .slice (encTys ts), num ts.length, num i] ++ List.replicate 11 .undef, mem := [] }) ts.length ?_ ?_)
  · exact ⟨0, [true, false, false, false, false, true, false, false, true, true, true], by omega, by simp only [maskFr, if_true, if_false, Bool.false_eq_true, List.all_cons, List.all_nil, belowV, Bool.and_self], rfl, 0, by omega, by omega, rfl⟩
  · rintro N' st ⟨i, rfl, hi, rfl⟩
    simp only [List.replicate_succ, List.replicate_zero, List.cons_append, List.nil_append]
    by_cases hlt : i < ts.length
    · have hd := lt_dec hlt
      refine tri_seq_region tt_ok fun K hK => ?_
      simp only [hd, runOps, stepOp, wantedV, opV, St.eval, St.put, List.set_cons_zero, List.set_cons_succ, List.getD_cons_zero, List.getD_cons_succ, ev_lss, nilLen, gnCmp]
      refine hK _ ?_
      clear hK K
      refine tri_seq (tri_cond rfl (tri_skip ?_))
      refine tri_seq (tri_block ?_)
      obtain ⟨t, ht⟩ : ∃ t, ts[i]? = some t := ⟨_, List.getElem?_eq_getElem hlt⟩
      have htt := hs t (List.mem_of_getElem? ht)
      have hst := sumBy_take_succ Ty.size ht
      have hl1 := hle (i + 1)
      have hT := tsize_ok t.size t (Nat.le_refl _) htt
      rw [encTy_eq] at hT
      simp only [tyCells] at hT
      have hw1 := i64_c (((sumBy Ty.size (ts.take i) : Nat) : Int) + (t.size : Int)) (sumBy Ty.size (ts.take (i + 1))) (by omega) (by omega)
      have hw2 := i64_succ i (by omega)
      refine tri_seq_region tt_ok fun K hK => ?_
      simp only [get_encTys, ht, encTy_eq, tyCells, runOps, stepOp, wantedV, opV, St.eval, St.put, cellsV, oneV, List.all_cons, List.all_nil, Bool.and_self, Value.oneCell', if_true, if_false, setMem, List.length_cons, List.length_nil, Nat.lt_irrefl, List.nil_append, List.set_cons_zero, List.set_cons_succ, List.getD_cons_zero, List.getD_cons_succ, tElem, tSize, List.map_nil, List.map_cons, loadV, pickCells, List.take_succ_cons, List.take_zero, List.getElem?_cons_zero, List.head?_cons, Nat.zero_add, Nat.reduceAdd, Nat.le_refl, Int.natCast_nonneg, indexV, indexAt, Int.toNat_natCast, V.cells, Option.map_some, storeV, spliceL, tt22, tt25]
      refine hK _ ?_
      clear hK K
      refine tri_last_region tt_ok fun K hK => ?_
      simp only [runOps, stepOp, wantedV, opV, St.eval, St.put, if_true, List.length_cons, List.length_nil, List.nil_append, List.append_nil, List.set_cons_zero, List.set_cons_succ, List.getD_cons_zero, List.getD_cons_succ, List.map_nil, List.map_cons, loadV, pickCells, List.drop_zero, List.take_succ_cons, List.take_zero, List.getElem?_cons_zero, List.head?_cons, Nat.zero_add, Nat.reduceAdd, Nat.le_refl, calleeOf, nilLen, gnCmp, tt25]
      refine .inl ⟨_, _, by simp only [purL, pur1, purCells, purCell, nilS], hT, ?_⟩
      try simp only [hw1, St.put, List.append_nil, List.set_cons_zero, List.set_cons_succ, List.getD_cons_zero, List.getD_cons_succ, ev_add, memAfter_nil, List.flatMap_cons, List.flatMap_nil, ref1, refCell]
      refine hK _ ?_
      clear hK K
      show Tri _ _ _ _ _ _
      refine tri_last_region tt_ok fun K hK => ?_
      simp only [runOps, stepOp, wantedV, opV, St.eval, St.put, absV, List.set_cons_zero, List.set_cons_succ, List.getD_cons_zero, List.getD_cons_succ, ev_add, nilLen, gnCmp]
      refine hK _ ?_
      clear hK K
      rw [hw2]
      exact ⟨ts.length - (i + 1), by omega, 0, [true, false, false, false, false, true, false, false, true, true, true], by omega, by simp only [maskFr, if_true, if_false, Bool.false_eq_true, List.all_cons, List.all_nil, belowV, Bool.and_self], rfl, i + 1, rfl, hlt, by simp [maskFr]⟩
    · have hd := ge_dec hlt
      refine tri_seq_region tt_ok fun K hK => ?_
      simp only [hd, runOps, stepOp, wantedV, opV, St.eval, St.put, List.set_cons_zero, List.set_cons_succ, List.getD_cons_zero, List.getD_cons_succ, ev_lss, nilLen, gnCmp]
      refine hK _ ?_
      clear hK K
      refine tri_seq (tri_cond rfl (tri_exit ?_))
      have hie : i = ts.length := by omega
      subst hie
      show Tri _ _ _ _ _ _
      refine tri_seq_region tt_ok fun K hK => ?_
      simp only [runOps, stepOp, wantedV, opV, St.eval, St.put, List.set_cons_zero, List.set_cons_succ, List.getD_cons_zero, List.getD_cons_succ, ev_leq, nilLen, gnCmp]
      refine hK _ ?_
      clear hK K
      refine tri_ret ⟨.inl rfl, ?_⟩
      rw [List.take_length]
      rfl

theorem memAfter_bl (mem : List Blk) (keys : List (Nat × Nat)) (b : Bool) : memAfter mem keys (bl b) = mem := rfl

theorem sizes_ok (haw : FnOk Tryz.prog 10 [] (bl true)) (t : Ty) (e : Ex) (m : Md) (ht : t.size ≤ 1048576) (he : e.bulk ≤ 1048576) (hm : m.bulk ≤ 1048576) :
    FnOk Tryz.prog 3 [encTy t, encEx e, encMd m] (bl true) := by
  have h14 := stsize_ok t ht
  have h15 := tsize_ok t.size t (Nat.le_refl _) ht
  have h16 := stdepth_ok t.size t (Nat.le_refl _) ht
  have h17 := tdepth_ok t.size t (Nat.le_refl _) ht
  have h18 := sesize_ok e he
  have h12 := esize_ok e.bulk e (Nat.le_refl _) he
  have h19 := smsize_ok m hm
  have h13 := rmsize_ok m hm
  have hF := fewTypes_ok 6000 [t] (fun x hx => by simp only [List.mem_singleton] at hx; rw [hx]; exact ht) (by simp)
  simp only [encTys] at hF
  rw [encTy_eq] at h14 h15 h16 h17 hF
  rw [encEx_eq] at h18 h12
  rw [encMd_eq] at h19 h13
  simp only [tyCells, exCells, mdCells] at h14 h15 h16 h17 h18 h12 h19 h13 hF
  refine fn_ok tt_ok (fn := Tryz.f3) Tryz.func3 rfl Tryz.call3 ?_
  simp only [startSt, Tryz.ntmps3, List.length_cons, List.length_nil, Nat.reduceAdd, Nat.reduceSub, List.replicate_succ, List.replicate_zero, List.cons_append, List.nil_append]
  rw [encTy_eq, encEx_eq, encMd_eq]
  simp only [tyCells, exCells, mdCells]
  refine tri_seq_region tt_ok fun K hK => ?_
  simp only [runOps, stepOp, wantedV, opV, St.eval, St.put, absV, cellsV, oneV, List.all_cons, List.all_nil, Bool.and_self, Value.oneCell', if_true, if_false, setMem, List.length_cons, List.length_nil, Nat.lt_irrefl, List.nil_append, List.cons_append, List.set_cons_zero, List.set_cons_succ, List.getD_cons_zero, List.getD_cons_succ, Nat.zero_add, Nat.reduceAdd]
  refine hK _ ?_
  clear hK K
  refine tri_seq ?_
  refine tri_seq_region tt_ok fun K hK => ?_
  simp only [runOps, stepOp, wantedV, opV, St.eval, St.put, List.append_nil, List.map_nil, calleeOf]
  refine .inl ⟨_, _, by simp only [purL], haw, ?_⟩
  try simp only [St.put, List.set_cons_zero, List.set_cons_succ, List.getD_cons_zero, List.getD_cons_succ, ev_not, Bool.not_true, memAfter_nil, List.flatMap_nil]
  refine hK _ ?_
  clear hK K
  refine tri_cond rfl (tri_skip ?_)
  refine tri_seq ?_
  cases c1 : decide ((sumBy Ty.size [t] : Int) ≤ 6000) with
  | false =>
    rw [c1] at hF
    refine tri_seq_region tt_ok fun K hK => ?_
    simp only [runOps, stepOp, wantedV, opV, St.eval, St.put, absV, cellsV, oneV, List.all_cons, List.all_nil, Bool.and_self, Value.oneCell', if_true, if_false, setMem, List.length_cons, List.length_nil, Nat.lt_irrefl, List.nil_append, List.cons_append, List.append_nil, List.set_cons_zero, List.set_cons_succ, List.getD_cons_zero, List.getD_cons_succ, litV, tElem, tSize, seqParts, litRows, List.map_nil, List.map_cons, loadV, pickCells, List.drop_zero, List.take_succ_cons, List.take_zero, List.getElem?_cons_zero, List.getElem?_cons_succ, List.head?_cons, Nat.zero_add, Nat.reduceAdd, Nat.reduceLeDiff, Nat.reduceMul, Nat.le_refl, and_self, V.cells, calleeOf, Option.bind_some, List.getElem?_toArray, beq_self_eq_true, nilLen, pureCell, rowV, nilS, rowOf, gnCmp, tt22, tt25, tt29, tt33]
    refine .inl ⟨_, _, by simp only [List.length_cons, List.length_nil, List.take_succ_cons, List.take_zero, purL, pur1, purCell, nilS, List.getElem?_cons_zero, List.getElem?_cons_succ, Nat.zero_add, List.drop_zero, true_and, Nat.le_refl, if_true], hF, ?_⟩
    try simp only [memAfter_bl, St.put, if_true, List.nil_append, List.append_nil, List.set_cons_zero, List.set_cons_succ, List.getD_cons_zero, List.getD_cons_succ, List.getElem?_cons_zero, List.getElem?_cons_succ, ev_not, Bool.not_false, List.flatMap_cons, List.flatMap_nil, ref1, refCell, ev_tf]
    refine hK _ ?_
    clear hK K
    refine tri_cond rfl ?_
    refine tri_seq_region tt_ok fun K hK => ?_
    simp only [runOps, stepOp, wantedV, opV, St.eval, St.put, absV, List.set_cons_zero, List.set_cons_succ]
    refine hK _ ?_
    clear hK K
    exact tri_ret ⟨.inl rfl, rfl⟩
  | true =>
    rw [c1] at hF
    cases c2 : decide ((e.size : Int) > 6000) with
    | true =>
      refine tri_seq_region tt_ok fun K hK => ?_
      simp only [runOps, stepOp, wantedV, opV, St.eval, St.put, absV, cellsV, oneV, List.all_cons, List.all_nil, Bool.and_self, Value.oneCell', if_true, if_false, setMem, List.length_cons, List.length_nil, Nat.lt_irrefl, List.nil_append, List.cons_append, List.append_nil, List.set_cons_zero, List.set_cons_succ, List.getD_cons_zero, List.getD_cons_succ, litV, tElem, tSize, seqParts, litRows, List.map_nil, List.map_cons, loadV, pickCells, List.drop_zero, List.take_succ_cons, List.take_zero, List.getElem?_cons_zero, List.getElem?_cons_succ, List.head?_cons, Nat.zero_add, Nat.reduceAdd, Nat.reduceLeDiff, Nat.reduceMul, Nat.le_refl, and_self, V.cells, calleeOf, Option.bind_some, List.getElem?_toArray, beq_self_eq_true, nilLen, pureCell, rowV, nilS, rowOf, gnCmp, tt22, tt25, tt29, tt33]
      refine .inl ⟨_, _, by simp only [List.length_cons, List.length_nil, List.take_succ_cons, List.take_zero, purL, pur1, purCell, nilS, List.getElem?_cons_zero, List.getElem?_cons_succ, Nat.zero_add, List.drop_zero, true_and, Nat.le_refl, if_true], hF, ?_⟩
      try simp only [memAfter_bl, List.length_cons, List.length_nil, Nat.reduceAdd, List.take_succ_cons, List.take_zero, St.put, if_true, List.length_cons, List.length_nil, List.nil_append, List.append_nil, List.set_cons_zero, List.set_cons_succ, List.getD_cons_zero, List.getD_cons_succ, List.drop_zero, List.take_succ_cons, List.take_zero, List.getElem?_cons_zero, List.getElem?_cons_succ, Nat.zero_add, Nat.reduceAdd, Nat.le_refl, ev_not, beq_self_eq_true, Bool.not_true, List.flatMap_cons, List.flatMap_nil, ref1, refCell]
      refine .inl ⟨_, _, by simp only [purL, pur1, purCells, purCell, nilS], h12, ?_⟩
      try simp only [c2, St.put, if_true, if_false, List.append_nil, List.set_cons_zero, List.set_cons_succ, List.getD_cons_zero, List.getD_cons_succ, List.getElem?_cons_zero, List.getElem?_cons_succ, Bool.false_eq_true, ev_gtr, beq_self_eq_true, memAfter_nil, List.flatMap_cons, List.flatMap_nil, ref1, refCell, ev_tf]
      refine hK _ ?_
      clear hK K
      refine tri_cond rfl ?_
      refine tri_seq_region tt_ok fun K hK => ?_
      simp only [runOps, stepOp, wantedV, opV, St.eval, St.put, absV, List.set_cons_zero, List.set_cons_succ]
      refine hK _ ?_
      clear hK K
      exact tri_ret ⟨.inl rfl, rfl⟩
    | false =>
      cases c3 : decide ((m.size : Int) > 6000) with
      | true =>
        refine tri_seq_region tt_ok fun K hK => ?_
        simp only [runOps, stepOp, wantedV, opV, St.eval, St.put, absV, cellsV, oneV, List.all_cons, List.all_nil, Bool.and_self, Value.oneCell', if_true, if_false, setMem, List.length_cons, List.length_nil, Nat.lt_irrefl, List.nil_append, List.cons_append, List.append_nil, List.set_cons_zero, List.set_cons_succ, List.getD_cons_zero, List.getD_cons_succ, litV, tElem, tSize, seqParts, litRows, List.map_nil, List.map_cons, loadV, pickCells, List.drop_zero, List.take_succ_cons, List.take_zero, List.getElem?_cons_zero, List.getElem?_cons_succ, List.head?_cons, Nat.zero_add, Nat.reduceAdd, Nat.reduceLeDiff, Nat.reduceMul, Nat.le_refl, and_self, V.cells, calleeOf, Option.bind_some, List.getElem?_toArray, beq_self_eq_true, nilLen, pureCell, rowV, nilS, rowOf, gnCmp, tt22, tt25, tt29, tt33]
        refine .inl ⟨_, _, by simp only [List.length_cons, List.length_nil, List.take_succ_cons, List.take_zero, purL, pur1, purCell, nilS, List.getElem?_cons_zero, List.getElem?_cons_succ, Nat.zero_add, List.drop_zero, true_and, Nat.le_refl, if_true], hF, ?_⟩
        try simp only [memAfter_bl, List.length_cons, List.length_nil, Nat.reduceAdd, List.take_succ_cons, List.take_zero, St.put, if_true, List.length_cons, List.length_nil, List.nil_append, List.append_nil, List.set_cons_zero, List.set_cons_succ, List.getD_cons_zero, List.getD_cons_succ, List.drop_zero, List.take_succ_cons, List.take_zero, List.getElem?_cons_zero, List.getElem?_cons_succ, Nat.zero_add, Nat.reduceAdd, Nat.le_refl, ev_not, beq_self_eq_true, Bool.not_true, List.flatMap_cons, List.flatMap_nil, ref1, refCell]
        refine .inl ⟨_, _, by simp only [purL, pur1, purCells, purCell, nilS], h12, ?_⟩
        try simp only [c2, St.put, if_true, if_false, List.length_cons, List.length_nil, List.append_nil, List.set_cons_zero, List.set_cons_succ, List.getD_cons_zero, List.getD_cons_succ, List.drop_zero, List.take_succ_cons, List.take_zero, List.getElem?_cons_zero, List.getElem?_cons_succ, Nat.zero_add, Nat.reduceAdd, Nat.le_refl, Bool.false_eq_true, ev_gtr, beq_self_eq_true, memAfter_nil, List.flatMap_cons, List.flatMap_nil, ref1, refCell]
        refine .inl ⟨_, _, by simp only [purL, pur1, purCells, purCell, nilS], h13, ?_⟩
        try simp only [c3, St.put, if_false, List.append_nil, List.set_cons_zero, List.set_cons_succ, List.getD_cons_zero, List.getD_cons_succ, List.getElem?_cons_zero, List.getElem?_cons_succ, Bool.false_eq_true, ev_gtr, beq_self_eq_true, memAfter_nil, List.flatMap_cons, List.flatMap_nil, ref1, refCell]
        refine hK _ ?_
        clear hK K
        refine tri_cond rfl ?_
        refine tri_seq_region tt_ok fun K hK => ?_
        simp only [runOps, stepOp, wantedV, opV, St.eval, St.put, absV, List.set_cons_zero, List.set_cons_succ]
        refine hK _ ?_
        clear hK K
        exact tri_ret ⟨.inl rfl, rfl⟩
      | false =>
        refine tri_seq_region tt_ok fun K hK => ?_
        simp only [runOps, stepOp, wantedV, opV, St.eval, St.put, absV, cellsV, oneV, List.all_cons, List.all_nil, Bool.and_self, Value.oneCell', if_true, if_false, setMem, List.length_cons, List.length_nil, Nat.lt_irrefl, List.nil_append, List.cons_append, List.append_nil, List.set_cons_zero, List.set_cons_succ, List.getD_cons_zero, List.getD_cons_succ, litV, tElem, tSize, seqParts, litRows, List.map_nil, List.map_cons, loadV, pickCells, List.drop_zero, List.take_succ_cons, List.take_zero, List.getElem?_cons_zero, List.getElem?_cons_succ, List.head?_cons, Nat.zero_add, Nat.reduceAdd, Nat.reduceLeDiff, Nat.reduceMul, Nat.le_refl, and_self, V.cells, calleeOf, Option.bind_some, List.getElem?_toArray, beq_self_eq_true, nilLen, pureCell, rowV, nilS, rowOf, gnCmp, tt22, tt25, tt29, tt33]
        refine .inl ⟨_, _, by simp only [List.length_cons, List.length_nil, List.take_succ_cons, List.take_zero, purL, pur1, purCell, nilS, List.getElem?_cons_zero, List.getElem?_cons_succ, Nat.zero_add, List.drop_zero, true_and, Nat.le_refl, if_true], hF, ?_⟩
        try simp only [memAfter_bl, List.length_cons, List.length_nil, Nat.reduceAdd, List.take_succ_cons, List.take_zero, St.put, if_true, List.length_cons, List.length_nil, List.nil_append, List.append_nil, List.set_cons_zero, List.set_cons_succ, List.getD_cons_zero, List.getD_cons_succ, List.drop_zero, List.take_succ_cons, List.take_zero, List.getElem?_cons_zero, List.getElem?_cons_succ, Nat.zero_add, Nat.reduceAdd, Nat.le_refl, ev_not, beq_self_eq_true, Bool.not_true, List.flatMap_cons, List.flatMap_nil, ref1, refCell]
        refine .inl ⟨_, _, by simp only [purL, pur1, purCells, purCell, nilS], h12, ?_⟩
        try simp only [c2, St.put, if_true, if_false, List.length_cons, List.length_nil, List.append_nil, List.set_cons_zero, List.set_cons_succ, List.getD_cons_zero, List.getD_cons_succ, List.drop_zero, List.take_succ_cons, List.take_zero, List.getElem?_cons_zero, List.getElem?_cons_succ, Nat.zero_add, Nat.reduceAdd, Nat.le_refl, Bool.false_eq_true, ev_gtr, beq_self_eq_true, memAfter_nil, List.flatMap_cons, List.flatMap_nil, ref1, refCell]
        refine .inl ⟨_, _, by simp only [purL, pur1, purCells, purCell, nilS], h13, ?_⟩
        try simp only [c3, St.put, if_false, List.append_nil, List.set_cons_zero, List.set_cons_succ, List.getD_cons_zero, List.getD_cons_succ, List.getElem?_cons_zero, List.getElem?_cons_succ, Bool.false_eq_true, ev_gtr, beq_self_eq_true, memAfter_nil, List.flatMap_cons, List.flatMap_nil, ref1, refCell]
        refine hK _ ?_
        clear hK K
        refine tri_cond rfl (tri_skip ?_)
        show Tri _ _ _ _ _ _
        refine tri_seq_mixed tt_ok mixed_ok [⟨.r, 0, [], []⟩, ⟨.n, 0, [], []⟩, ⟨.r, 0, [], []⟩, ⟨.n, 0, [], []⟩, ⟨.n, 0, [], []⟩, ⟨.n, 0, [], []⟩, ⟨.r, 0, [], []⟩, ⟨.n, 0, [], []⟩, ⟨.r, 0, [], []⟩, ⟨.n, 0, [], []⟩, ⟨.n, 0, [], []⟩, ⟨.n, 0, [], []⟩, ⟨.n, 0, [], []⟩, ⟨.r, 0, [], []⟩, ⟨.n, 0, [], []⟩, ⟨.r, 0, [], []⟩, ⟨.n, 0, [], []⟩, ⟨.n, 0, [], []⟩, ⟨.n, 0, [], []⟩, ⟨.n, 0, [], []⟩, ⟨.r, 0, [], []⟩, ⟨.n, 0, [], []⟩, ⟨.r, 0, [], []⟩, ⟨.n, 0, [], []⟩, ⟨.n, 0, [], []⟩, ⟨.n, 0, [], []⟩, ⟨.n, 0, [], []⟩] 0 (by kernel_rfl) fun K hK => ?_
        simp only [List.replicate_zero, List.append_nil]
        refine runM_cut 2 (by simp) (by simp) fun K1 hK1 => ?_
        simp only [wantedV, opV, St.eval, St.put, if_true, List.length_cons, List.length_nil, List.nil_append, List.append_nil, List.set_cons_zero, List.set_cons_succ, List.getD_cons_zero, List.getD_cons_succ, List.map_nil, List.map_cons, loadV, pickCells, List.drop_zero, List.take_succ_cons, List.take_zero, List.getElem?_cons_zero, List.head?_cons, Nat.zero_add, Nat.reduceAdd, Nat.le_refl, calleeOf, tt25, runM, List.drop_zero, stepM, valD, val1, maskB, Nat.reduceAdd]
        refine ⟨_, _, by simp only [purL, pur1, purCells, purCell, nilS], .inl (h14), ?_⟩
        try simp only [St.put, List.set_cons_zero, List.set_cons_succ]
        refine hK1 _ ?_
        clear hK1 K1
        refine runM_cut 2 (by simp) (by simp) fun K1 hK1 => ?_
        simp only [wantedV, opV, St.eval, St.put, if_true, List.length_cons, List.length_nil, List.nil_append, List.append_nil, List.set_cons_zero, List.set_cons_succ, List.getD_cons_zero, List.getD_cons_succ, List.map_nil, List.map_cons, loadV, pickCells, List.drop_zero, List.drop_succ_cons, List.take_succ_cons, List.take_zero, List.getElem?_cons_zero, List.head?_cons, Nat.zero_add, Nat.reduceAdd, Nat.le_refl, calleeOf, tt25, runM, List.drop_succ_cons, List.drop_zero, stepM, valD, val1, maskB, Nat.reduceAdd]
        refine ⟨_, _, by simp only [purL, pur1, purCells, purCell, nilS], .inl (h15), ?_⟩
        try simp only [St.put, List.set_cons_zero, List.set_cons_succ]
        refine hK1 _ ?_
        clear hK1 K1
        refine runM_cut 4 (by simp) (by simp) fun K1 hK1 => ?_
        simp only [wantedV, opV, St.eval, St.put, if_true, List.length_cons, List.length_nil, List.nil_append, List.append_nil, List.set_cons_zero, List.set_cons_succ, List.getD_cons_zero, List.getD_cons_succ, List.map_nil, List.map_cons, loadV, pickCells, List.drop_zero, List.drop_succ_cons, List.take_succ_cons, List.take_zero, List.getElem?_cons_zero, List.getElem?_cons_succ, Nat.zero_add, Nat.reduceAdd, Nat.le_refl, ev_eql, V.cells, calleeOf, Option.bind_some, List.getElem?_toArray, beq_self_eq_true, decide_true, rowOf, gnCmp, tt25, runM, List.drop_succ_cons, List.drop_zero, stepM, valD, val1, maskB, Nat.reduceAdd]
        refine ⟨_, _, by simp only [purL, pur1, purCells, purCell, nilS], .inl (h16), ?_⟩
        try simp only [St.put, List.set_cons_zero, List.set_cons_succ]
        refine hK1 _ ?_
        clear hK1 K1
        refine runM_cut 2 (by simp) (by simp) fun K1 hK1 => ?_
        simp only [wantedV, opV, St.eval, St.put, if_true, List.length_cons, List.length_nil, List.nil_append, List.append_nil, List.set_cons_zero, List.set_cons_succ, List.getD_cons_zero, List.getD_cons_succ, List.map_nil, List.map_cons, loadV, pickCells, List.drop_zero, List.drop_succ_cons, List.take_succ_cons, List.take_zero, List.getElem?_cons_zero, List.getElem?_cons_succ, List.head?_cons, Nat.zero_add, Nat.reduceAdd, Nat.le_refl, calleeOf, Option.bind_some, List.getElem?_toArray, beq_self_eq_true, tt25, runM, List.drop_succ_cons, List.drop_zero, stepM, valD, val1, maskB, Nat.reduceAdd]
        refine ⟨_, _, by simp only [purL, pur1, purCells, purCell, nilS], .inl (h17), ?_⟩
        try simp only [St.put, List.set_cons_zero, List.set_cons_succ]
        refine hK1 _ ?_
        clear hK1 K1
        refine runM_cut 5 (by simp) (by simp) fun K1 hK1 => ?_
        simp only [wantedV, opV, St.eval, St.put, absV, if_true, List.length_cons, List.length_nil, List.nil_append, List.append_nil, List.set_cons_zero, List.set_cons_succ, List.getD_cons_zero, List.getD_cons_succ, List.map_nil, List.map_cons, loadV, pickCells, List.drop_zero, List.drop_succ_cons, List.take_succ_cons, List.take_zero, List.getElem?_cons_zero, List.getElem?_cons_succ, Nat.zero_add, Nat.reduceAdd, Nat.le_refl, ev_eql, V.cells, calleeOf, Option.bind_some, List.getElem?_toArray, beq_self_eq_true, decide_true, rowOf, gnCmp, tt29, runM, List.drop_succ_cons, List.drop_zero, stepM, valD, val1, maskB, Nat.reduceAdd]
        refine ⟨_, _, by simp only [purL, pur1, purCells, purCell, nilS], .inl (h18), ?_⟩
        try simp only [St.put, List.set_cons_zero, List.set_cons_succ]
        refine hK1 _ ?_
        clear hK1 K1
        refine runM_cut 2 (by simp) (by simp) fun K1 hK1 => ?_
        simp only [wantedV, opV, St.eval, St.put, if_true, List.length_cons, List.length_nil, List.nil_append, List.append_nil, List.set_cons_zero, List.set_cons_succ, List.getD_cons_zero, List.getD_cons_succ, List.map_nil, List.map_cons, loadV, pickCells, List.drop_zero, List.drop_succ_cons, List.take_succ_cons, List.take_zero, List.getElem?_cons_zero, List.getElem?_cons_succ, List.head?_cons, Nat.zero_add, Nat.reduceAdd, Nat.le_refl, calleeOf, Option.bind_some, List.getElem?_toArray, beq_self_eq_true, tt29, runM, List.drop_succ_cons, List.drop_zero, stepM, valD, val1, maskB, Nat.reduceAdd]
        refine ⟨_, _, by simp only [purL, pur1, purCells, purCell, nilS], .inl (h12), ?_⟩
        try simp only [St.put, List.set_cons_zero, List.set_cons_succ]
        refine hK1 _ ?_
        clear hK1 K1
        refine runM_cut 5 (by simp) (by simp) fun K1 hK1 => ?_
        simp only [wantedV, opV, St.eval, St.put, absV, if_true, List.length_cons, List.length_nil, List.nil_append, List.append_nil, List.set_cons_zero, List.set_cons_succ, List.getD_cons_zero, List.getD_cons_succ, List.map_nil, List.map_cons, loadV, pickCells, List.drop_zero, List.drop_succ_cons, List.take_succ_cons, List.take_zero, List.getElem?_cons_zero, List.getElem?_cons_succ, Nat.zero_add, Nat.reduceAdd, Nat.le_refl, ev_eql, V.cells, calleeOf, Option.bind_some, List.getElem?_toArray, beq_self_eq_true, decide_true, rowOf, gnCmp, tt33, runM, List.drop_succ_cons, List.drop_zero, stepM, valD, val1, maskB, Nat.reduceAdd]
        refine ⟨_, _, by simp only [purL, pur1, purCells, purCell, nilS], .inl (h19), ?_⟩
        try simp only [St.put, List.set_cons_zero, List.set_cons_succ]
        refine hK1 _ ?_
        clear hK1 K1
        refine runM_cut 2 (by simp) (by simp) fun K1 hK1 => ?_
        simp only [wantedV, opV, St.eval, St.put, if_true, List.length_cons, List.length_nil, List.nil_append, List.append_nil, List.set_cons_zero, List.set_cons_succ, List.getD_cons_zero, List.getD_cons_succ, List.map_nil, List.map_cons, loadV, pickCells, List.drop_zero, List.drop_succ_cons, List.take_succ_cons, List.take_zero, List.getElem?_cons_zero, List.getElem?_cons_succ, List.head?_cons, Nat.zero_add, Nat.reduceAdd, Nat.le_refl, calleeOf, Option.bind_some, List.getElem?_toArray, beq_self_eq_true, tt33, runM, List.drop_succ_cons, List.drop_zero, stepM, valD, val1, maskB, Nat.reduceAdd]
        refine ⟨_, _, by simp only [purL, pur1, purCells, purCell, nilS], .inl (h13), ?_⟩
        try simp only [St.put, List.set_cons_zero, List.set_cons_succ]
        refine hK1 _ ?_
        clear hK1 K1
        simp only [wantedV, opV, St.eval, St.put, absV, if_true, List.length_cons, List.length_nil, List.set_cons_zero, List.set_cons_succ, List.getD_cons_zero, List.getD_cons_succ, List.drop_zero, List.drop_succ_cons, List.getElem?_cons_zero, List.getElem?_cons_succ, Nat.zero_add, Nat.reduceAdd, ev_eql, Option.bind_some, List.getElem?_toArray, beq_self_eq_true, decide_true, gnCmp, runM, List.drop_succ_cons, List.drop_zero, stepM, valD, val1, Nat.reduceAdd]
        refine hK _ ?_
        clear hK K
        exact tri_ret ⟨.inl rfl, rfl⟩
end Go.Proofs.YtpjdfcigadnhcaaGreatDoor
end
