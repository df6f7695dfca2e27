/-
  CONTRACTS: declarations of the program, imports, modules.
  THE LAW SyntaxEquals: what it returns.
  THE LAW SyntaxEquals, A: what it does at every argument of the bound, in every world of the shape.
  THE LAW SyntaxSizes, B: a world for the witness.
-/
import Derived.Test.YtpjdfcigadnhcaaGreatDoorSyntaxEquals5
import Derived.Test.YtpjdfcigadnhcaaGreatDoorCards
import Derived.Test.YtpjdfcigadnhcaaGreatDoorTie
import Derived.Lib.LaidTab
set_option linter.all false
section
namespace Go.Proofs.YtpjdfcigadnhcaaGreatDoor
open Go.Eng
variable [Glob]
set_option maxHeartbeats 4000000
set_option maxRecDepth 100000
attribute [local irreducible] runM stepM valD stepOp

theorem seqDc1_ok (t u : Dc) (hps : FnOk Tryz.prog 108 [.slice (t.params.map encPm), .slice (u.params.map encPm), .sc (.func (.func 109) #[] #[])] (bl (eqb t.params u.params))) (hlower : FnOk Tryz.prog 24 [encTy t.lower, encTy u.lower] (bl (eqb t.lower u.lower))) (hupper : FnOk Tryz.prog 24 [encTy t.upper, encTy u.upper] (bl (eqb t.upper u.upper))) (htype : FnOk Tryz.prog 24 [encTy t.type, encTy u.type] (bl (eqb t.type u.type))) (hexpr : FnOk Tryz.prog 28 [encEx t.expr, encEx u.expr] (bl (eqb t.expr u.expr))) : FnOk Tryz.prog 74 [encDc t, encDc u] (bl (eqb t u)) := by
  refine fn_ok tt_ok (fn := Tryz.f74) Tryz.func74 rfl Tryz.call74 ?_
  simp only [startSt, Tryz.ntmps74, List.length_cons, List.length_nil, Nat.reduceAdd, Nat.reduceSub, List.replicate_succ, List.replicate_zero, List.cons_append, List.nil_append]
  have hT : Tryz.prog.underlying 4 = some .bool := by kernel_rfl
  have hbe := fun x y => ev_beql (P := Tryz.prog) (T := 4) x y hT
  have hbn := fun x y => ev_bneq (P := Tryz.prog) (T := 4) x y hT
  simp only [encDc_eq, dcCells, tyCells, exCells, List.cons_append, List.nil_append]
  refine tri_seq_region tt_ok fun K hK => ?_
  simp only [runOps, stepOp, wantedV, opV, St.eval, St.put, absV, cellsV, oneV, List.all_cons, List.all_nil, Bool.and_self, Value.oneCell', if_true, if_false, setMem, List.length_cons, List.length_nil, Nat.lt_irrefl, List.nil_append, List.cons_append, List.set_cons_zero, List.set_cons_succ, List.getD_cons_zero, List.getD_cons_succ, Nat.zero_add]
  refine hK _ ?_
  clear hK K
  refine tri_seq ?_
  have e1 := bytes_eq t.name u.name
  have e4 := bytes_eq t.note u.note
  have e5 := bytes_eq t.mod u.mod
  have e6 := bytes_eq t.target u.target
  refine tri_seq_region_w tt_ok 85 [0, 0, 0, 0, 0, 1, 1, 1, 1, 1, 1, 1, 1, 1, 1, 1, 1, 1, 1, 1, 1, 1, 1, 1, 1, 1, 1, 1, 1, 1, 1, 1, 1, 1, 1, 1, 1, 1, 1, 1, 1, 1, 1, 1, 1, 1, 1, 1, 1, 1, 1, 2] [(5, 10), (12, 17), (19, 24), (26, 31), (33, 38), (40, 45)] (by kernel_rfl) (by kernel_rfl) fun K hK => ?_
  by_cases h0 : t.kind = u.kind
  · have e0 : decide (t.kind = u.kind) = true := decide_eq_true h0
    refine runOpsW_cut 6 fun K1 hK1 => ?_
    simp only [List.take_succ_cons, List.take_zero]
    simp only [e0, stepOp, opV, St.eval, St.put, if_true, if_false, List.length_cons, List.length_nil, List.getD_cons_zero, List.getD_cons_succ, fieldV, tOff, fieldAt, loadV, pickCells, List.drop_zero, List.take_succ_cons, List.take_zero, List.getElem?_cons_zero, List.getElem?_cons_succ, List.head?_cons, Nat.zero_add, Nat.add_zero, Nat.reduceAdd, Nat.reduceLT, Nat.reduceLeDiff, Nat.reduceEqDiff, Bool.false_eq_true, ev_neq, Bool.not_true, nilLen, gnCmp, tt3, tt75, runOpsW, wantedW, wr_set, wr_getD, lkF]
    refine hK1 _ ?_
    clear hK1 K1
    by_cases h1 : t.name = u.name
    · rw [eqb_true h1] at e1
      refine runOpsW_cut 7 fun K1 hK1 => ?_
      simp only [List.take_succ_cons, List.take_zero, List.drop_succ_cons, List.drop_zero]
      simp only [e1, stepOp, opV, St.eval, St.put, absV, if_true, if_false, List.length_cons, List.length_nil, List.getD_cons_zero, List.getD_cons_succ, fieldV, tOff, fieldAt, loadV, pickCells, List.drop_zero, List.drop_succ_cons, List.take_succ_cons, List.take_zero, List.getElem?_cons_zero, List.getElem?_cons_succ, List.head?_cons, Nat.zero_add, Nat.reduceAdd, Nat.reduceLT, Nat.reduceLeDiff, Nat.reduceEqDiff, Bool.false_eq_true, ev_sneq, beq_self_eq_true, Bool.not_true, nilLen, gnCmp, tt9, tt75, runOpsW, wantedW, gT, gRead, wr_set, wr_getD, wr_get, lkF]
      refine hK1 _ ?_
      clear hK1 K1
      by_cases h2 : t.exported = u.exported
      · have e2 : (t.exported == u.exported) = true := by simpa using h2
        refine runOpsW_cut 7 fun K1 hK1 => ?_
        simp only [List.take_succ_cons, List.take_zero, List.drop_succ_cons, List.drop_zero]
        simp only [e2, hbn, stepOp, opV, St.eval, St.put, absV, if_true, if_false, List.length_cons, List.length_nil, List.getD_cons_zero, List.getD_cons_succ, fieldV, tOff, fieldAt, loadV, pickCells, List.drop_zero, List.drop_succ_cons, List.take_succ_cons, List.take_zero, List.getElem?_cons_zero, List.getElem?_cons_succ, List.head?_cons, Nat.zero_add, Nat.reduceAdd, Nat.reduceLT, Nat.reduceLeDiff, Nat.reduceEqDiff, Bool.false_eq_true, beq_self_eq_true, Bool.not_true, nilLen, gnCmp, tt4, tt75, runOpsW, wantedW, gT, gRead, wr_set, wr_getD, wr_get, lkF]
        refine hK1 _ ?_
        clear hK1 K1
        by_cases h3 : t.deprecated = u.deprecated
        · have e3 : (t.deprecated == u.deprecated) = true := by simpa using h3
          refine runOpsW_cut 7 fun K1 hK1 => ?_
          simp only [List.take_succ_cons, List.take_zero, List.drop_succ_cons, List.drop_zero]
          simp only [e3, hbn, stepOp, opV, St.eval, St.put, absV, if_true, if_false, List.length_cons, List.length_nil, List.getD_cons_zero, List.getD_cons_succ, fieldV, tOff, fieldAt, loadV, pickCells, List.drop_zero, List.drop_succ_cons, List.take_succ_cons, List.take_zero, List.getElem?_cons_zero, List.getElem?_cons_succ, List.head?_cons, Nat.zero_add, Nat.reduceAdd, Nat.reduceLT, Nat.reduceLeDiff, Nat.reduceEqDiff, Bool.false_eq_true, beq_self_eq_true, Bool.not_true, nilLen, gnCmp, tt4, tt75, runOpsW, wantedW, gT, gRead, wr_set, wr_getD, wr_get, lkF]
          refine hK1 _ ?_
          clear hK1 K1
          by_cases h4 : t.note = u.note
          · rw [eqb_true h4] at e4
            refine runOpsW_cut 7 fun K1 hK1 => ?_
            simp only [List.take_succ_cons, List.take_zero, List.drop_succ_cons, List.drop_zero]
            simp only [e4, stepOp, opV, St.eval, St.put, absV, if_true, if_false, List.length_cons, List.length_nil, List.getD_cons_zero, List.getD_cons_succ, fieldV, tOff, fieldAt, loadV, pickCells, List.drop_zero, List.drop_succ_cons, List.take_succ_cons, List.take_zero, List.getElem?_cons_zero, List.getElem?_cons_succ, List.head?_cons, Nat.zero_add, Nat.reduceAdd, Nat.reduceLT, Nat.reduceLeDiff, Nat.reduceEqDiff, Bool.false_eq_true, ev_sneq, beq_self_eq_true, Bool.not_true, nilLen, gnCmp, tt9, tt75, runOpsW, wantedW, gT, gRead, wr_set, wr_getD, wr_get, lkF]
            refine hK1 _ ?_
            clear hK1 K1
            by_cases h5 : t.mod = u.mod
            · rw [eqb_true h5] at e5
              refine runOpsW_cut 7 fun K1 hK1 => ?_
              simp only [List.take_succ_cons, List.take_zero, List.drop_succ_cons, List.drop_zero]
              simp only [e5, stepOp, opV, St.eval, St.put, absV, if_true, if_false, List.length_cons, List.length_nil, List.getD_cons_zero, List.getD_cons_succ, fieldV, tOff, fieldAt, loadV, pickCells, List.drop_zero, List.drop_succ_cons, List.take_succ_cons, List.take_zero, List.getElem?_cons_zero, List.getElem?_cons_succ, List.head?_cons, Nat.zero_add, Nat.reduceAdd, Nat.reduceLT, Nat.reduceLeDiff, Nat.reduceEqDiff, Bool.false_eq_true, ev_sneq, beq_self_eq_true, Bool.not_true, nilLen, gnCmp, tt9, tt75, runOpsW, wantedW, gT, gRead, wr_set, wr_getD, wr_get, lkF]
              refine hK1 _ ?_
              clear hK1 K1
              by_cases h6 : t.target = u.target
              · rw [eqb_true h6] at e6
                try simp only [List.drop_succ_cons, List.drop_zero]
                simp only [e6, stepOp, opV, St.eval, St.put, absV, if_true, if_false, List.length_cons, List.length_nil, List.getD_cons_zero, List.getD_cons_succ, fieldV, tOff, fieldAt, loadV, pickCells, List.drop_zero, List.drop_succ_cons, List.take_succ_cons, List.take_zero, List.getElem?_cons_zero, List.getElem?_cons_succ, List.head?_cons, Nat.zero_add, Nat.reduceAdd, Nat.reduceLT, Nat.reduceEqDiff, Nat.le_refl, Bool.false_eq_true, ev_sneq, beq_self_eq_true, Bool.not_true, nilLen, gnCmp, tt9, tt75, runOpsW, wantedW, gT, gRead, wr_set, wr_getD, wr_get, lkF]
                refine hK _ _ (by kernel_rfl) ?_
                clear hK K
                simp only [mkW, lkF, Nat.reduceAdd, Nat.reduceEqDiff, if_true, if_false]
                refine tri_cond rfl (tri_skip ?_)
                show Tri _ _ _ _ _ _
                have e80 := hlower
                try simp only [encTy_eq] at e80
                try simp only [tyCells] at e80
                have e81 := hupper
                try simp only [encTy_eq] at e81
                try simp only [tyCells] at e81
                have e82 := htype
                try simp only [encTy_eq] at e82
                try simp only [tyCells] at e82
                have e83 := hexpr
                try simp only [encEx_eq] at e83
                try simp only [exCells] at e83
                have e84 := hps
                try simp only [encTy_eq, encEx_eq] at e84
                try simp only [tyCells, exCells] at e84
                refine tri_seq_region_w tt_ok 85 [0, 0, 0, 0, 2, 0, 0, 0, 0, 0, 0, 0, 0, 0, 0, 0, 0, 0, 0, 0, 0, 0, 0, 0, 0, 0, 0, 0, 0, 0, 0, 0, 0, 0, 0, 0, 0, 0, 0, 0, 0, 0, 0, 0, 0, 0, 0, 0, 0, 0, 0, 0, 1, 1, 1, 1, 1, 1, 1, 1, 1, 1, 1, 1, 1, 1, 1, 1, 1, 1, 1, 1, 1, 1, 1, 1, 1, 1, 1, 1, 1, 1, 1, 1, 1] [(5, 57), (12, 64), (19, 71), (26, 78)] (by kernel_rfl) (by kernel_rfl) fun K hK => ?_
                by_cases h80 : t.lower = u.lower
                · rw [eqb_true h80] at e80
                  refine runOpsW_cut 6 fun K1 hK1 => ?_
                  simp only [List.take_succ_cons, List.take_zero]
                  simp only [stepOp, opV, St.eval, St.put, if_true, if_false, List.length_cons, List.length_nil, List.nil_append, List.append_nil, List.getD_cons_zero, List.getD_cons_succ, List.map_nil, List.map_cons, fieldV, tOff, fieldAt, loadV, pickCells, List.drop_zero, List.drop_succ_cons, List.take_succ_cons, List.take_zero, List.getElem?_cons_zero, List.getElem?_cons_succ, List.head?_cons, Nat.zero_add, Nat.reduceAdd, Nat.reduceLT, Nat.reduceLeDiff, Nat.reduceEqDiff, calleeOf, tt25, tt75, runOpsW, wantedW, wr_set, wr_getD, lkF]
                  refine .inl ⟨_, _, by simp only [purL, pur1, purCells, purCell, nilS], e80, ?_⟩
                  try simp only [St.put, if_true, if_false, List.append_nil, List.getD_cons_zero, List.getD_cons_succ, Nat.reduceLT, Nat.reduceEqDiff, memAfter_nil, List.flatMap_cons, List.flatMap_nil, ref1, refCell, wr_set, wr_getD, lkF]
                  refine hK1 _ ?_
                  clear hK1 K1
                  by_cases h81 : t.upper = u.upper
                  · rw [eqb_true h81] at e81
                    refine runOpsW_cut 7 fun K1 hK1 => ?_
                    simp only [List.take_succ_cons, List.take_zero, List.drop_succ_cons, List.drop_zero]
                    simp only [stepOp, opV, St.eval, St.put, absV, if_true, if_false, List.length_cons, List.length_nil, List.nil_append, List.append_nil, List.getD_cons_zero, List.getD_cons_succ, List.map_nil, List.map_cons, fieldV, tOff, fieldAt, loadV, pickCells, List.drop_zero, List.drop_succ_cons, List.take_succ_cons, List.take_zero, List.getElem?_cons_zero, List.getElem?_cons_succ, List.head?_cons, Nat.zero_add, Nat.reduceAdd, Nat.reduceLT, Nat.reduceLeDiff, Nat.reduceEqDiff, calleeOf, beq_self_eq_true, tt25, tt75, runOpsW, wantedW, gT, gRead, wr_set, wr_getD, wr_get, lkF]
                    refine .inl ⟨_, _, by simp only [purL, pur1, purCells, purCell, nilS], e81, ?_⟩
                    try simp only [St.put, if_true, if_false, List.append_nil, List.getD_cons_zero, List.getD_cons_succ, Nat.reduceLT, Nat.reduceEqDiff, memAfter_nil, List.flatMap_cons, List.flatMap_nil, ref1, refCell, wr_set, wr_getD, lkF]
                    refine hK1 _ ?_
                    clear hK1 K1
                    by_cases h82 : t.type = u.type
                    · rw [eqb_true h82] at e82
                      refine runOpsW_cut 7 fun K1 hK1 => ?_
                      simp only [List.take_succ_cons, List.take_zero, List.drop_succ_cons, List.drop_zero]
                      simp only [stepOp, opV, St.eval, St.put, absV, if_true, if_false, List.length_cons, List.length_nil, List.nil_append, List.append_nil, List.getD_cons_zero, List.getD_cons_succ, List.map_nil, List.map_cons, fieldV, tOff, fieldAt, loadV, pickCells, List.drop_zero, List.drop_succ_cons, List.take_succ_cons, List.take_zero, List.getElem?_cons_zero, List.getElem?_cons_succ, List.head?_cons, Nat.zero_add, Nat.reduceAdd, Nat.reduceLT, Nat.reduceLeDiff, Nat.reduceEqDiff, calleeOf, beq_self_eq_true, tt25, tt75, runOpsW, wantedW, gT, gRead, wr_set, wr_getD, wr_get, lkF]
                      refine .inl ⟨_, _, by simp only [purL, pur1, purCells, purCell, nilS], e82, ?_⟩
                      try simp only [St.put, if_true, if_false, List.append_nil, List.getD_cons_zero, List.getD_cons_succ, Nat.reduceLT, Nat.reduceEqDiff, memAfter_nil, List.flatMap_cons, List.flatMap_nil, ref1, refCell, wr_set, wr_getD, lkF]
                      refine hK1 _ ?_
                      clear hK1 K1
                      by_cases h83 : t.expr = u.expr
                      · rw [eqb_true h83] at e83
                        refine runOpsW_cut 7 fun K1 hK1 => ?_
                        simp only [List.take_succ_cons, List.take_zero, List.drop_succ_cons, List.drop_zero]
                        simp only [stepOp, opV, St.eval, St.put, absV, if_true, if_false, List.length_cons, List.length_nil, List.nil_append, List.append_nil, List.getD_cons_zero, List.getD_cons_succ, List.map_nil, List.map_cons, fieldV, tOff, fieldAt, loadV, pickCells, List.drop_zero, List.drop_succ_cons, List.take_succ_cons, List.take_zero, List.getElem?_cons_zero, List.getElem?_cons_succ, List.head?_cons, Nat.zero_add, Nat.reduceAdd, Nat.reduceLT, Nat.reduceLeDiff, Nat.reduceEqDiff, calleeOf, beq_self_eq_true, tt29, tt75, runOpsW, wantedW, gT, gRead, wr_set, wr_getD, wr_get, lkF]
                        refine .inl ⟨_, _, by simp only [purL, pur1, purCells, purCell, nilS], e83, ?_⟩
                        try simp only [St.put, if_true, if_false, List.append_nil, List.getD_cons_zero, List.getD_cons_succ, Nat.reduceLT, Nat.reduceEqDiff, memAfter_nil, List.flatMap_cons, List.flatMap_nil, ref1, refCell, wr_set, wr_getD, lkF]
                        refine hK1 _ ?_
                        clear hK1 K1
                        by_cases h84 : t.params = u.params
                        · rw [eqb_true h84] at e84
                          try simp only [List.drop_succ_cons, List.drop_zero]
                          simp only [stepOp, opV, St.eval, St.put, absV, if_true, if_false, List.length_cons, List.length_nil, List.nil_append, List.append_nil, List.getD_cons_zero, List.getD_cons_succ, List.map_nil, List.map_cons, fieldV, tOff, fieldAt, loadV, pickCells, List.drop_zero, List.drop_succ_cons, List.take_succ_cons, List.take_zero, List.getElem?_cons_zero, List.getElem?_cons_succ, List.head?_cons, Nat.zero_add, Nat.reduceAdd, Nat.reduceLT, Nat.reduceLeDiff, Nat.reduceEqDiff, Bool.false_eq_true, calleeOf, beq_self_eq_true, tt73, tt75, runOpsW, wantedW, gT, gRead, wr_set, wr_getD, wr_get, lkF]
                          refine .inl ⟨_, _, by simp only [purL, pur1, purCell, nilS], e84, ?_⟩
                          try simp only [St.put, if_true, if_false, List.append_nil, List.getD_cons_zero, List.getD_cons_succ, Nat.reduceLT, Nat.reduceEqDiff, memAfter_nil, List.flatMap_cons, List.flatMap_nil, ref1, refCell, wr_set, wr_getD, lkF]
                          refine hK _ _ (by kernel_rfl) ?_
                          clear hK K
                          simp only [mkW, lkF, Nat.reduceAdd, Nat.reduceEqDiff, if_true, if_false]
                          refine tri_ret ⟨.inl rfl, ?_⟩
                          rw [eqb_true (Dc.ext' h0 h1 h2 h3 h4 h84 h80 h81 h82 h83 h5 h6)]; rfl
                        · rw [eqb_false h84] at e84
                          try simp only [List.drop_succ_cons, List.drop_zero]
                          simp only [stepOp, opV, St.eval, St.put, absV, if_true, if_false, List.length_cons, List.length_nil, List.nil_append, List.append_nil, List.getD_cons_zero, List.getD_cons_succ, List.map_nil, List.map_cons, fieldV, tOff, fieldAt, loadV, pickCells, List.drop_zero, List.drop_succ_cons, List.take_succ_cons, List.take_zero, List.getElem?_cons_zero, List.getElem?_cons_succ, List.head?_cons, Nat.zero_add, Nat.reduceAdd, Nat.reduceLT, Nat.reduceLeDiff, Nat.reduceEqDiff, Bool.false_eq_true, calleeOf, beq_self_eq_true, tt73, tt75, runOpsW, wantedW, gT, gRead, wr_set, wr_getD, wr_get, lkF]
                          refine .inl ⟨_, _, by simp only [purL, pur1, purCell, nilS], e84, ?_⟩
                          try simp only [St.put, if_true, if_false, List.append_nil, List.getD_cons_zero, List.getD_cons_succ, Nat.reduceLT, Nat.reduceEqDiff, memAfter_nil, List.flatMap_cons, List.flatMap_nil, ref1, refCell, wr_set, wr_getD, lkF]
                          refine hK _ _ (by kernel_rfl) ?_
                          clear hK K
                          simp only [mkW, lkF, Nat.reduceAdd, Nat.reduceEqDiff, if_true, if_false]
                          refine tri_ret ⟨.inl rfl, ?_⟩
                          rw [eqb_false fun e => h84 (by rw [e])]; rfl
                      · rw [eqb_false h83] at e83
                        try simp only [List.drop_succ_cons, List.drop_zero]
                        simp only [stepOp, opV, St.eval, St.put, absV, if_true, if_false, List.length_cons, List.length_nil, List.nil_append, List.append_nil, List.getD_cons_zero, List.getD_cons_succ, List.map_nil, List.map_cons, fieldV, tOff, fieldAt, loadV, pickCells, List.drop_zero, List.drop_succ_cons, List.take_succ_cons, List.take_zero, List.getElem?_cons_zero, List.getElem?_cons_succ, List.head?_cons, Nat.zero_add, Nat.reduceAdd, Nat.reduceLT, Nat.reduceLeDiff, Nat.reduceEqDiff, Bool.false_eq_true, V.cells, calleeOf, beq_self_eq_true, rowOf, tt29, tt73, tt75, runOpsW, wantedW, gT, gRead, wr_set, wr_getD, wr_get, lkF]
                        refine .inl ⟨_, _, by simp only [purL, pur1, purCells, purCell, nilS], e83, ?_⟩
                        try simp only [St.put, if_true, if_false, List.append_nil, List.getD_cons_zero, List.getD_cons_succ, Nat.reduceLT, Nat.reduceEqDiff, Bool.false_eq_true, memAfter_nil, List.flatMap_cons, List.flatMap_nil, ref1, refCell, ev_ft, wr_set, wr_getD, wr_get, lkF]
                        refine hK _ _ (by kernel_rfl) ?_
                        clear hK K
                        simp only [mkW, lkF, Nat.reduceAdd, Nat.reduceEqDiff, if_true, if_false]
                        refine tri_ret ⟨.inl rfl, ?_⟩
                        rw [eqb_false fun e => h83 (by rw [e])]; rfl
                    · rw [eqb_false h82] at e82
                      refine runOpsW_cut 14 fun K1 hK1 => ?_
                      simp only [List.take_succ_cons, List.take_zero, List.drop_succ_cons, List.drop_zero]
                      simp only [stepOp, opV, St.eval, St.put, absV, if_true, if_false, List.length_cons, List.length_nil, List.nil_append, List.append_nil, List.getD_cons_zero, List.getD_cons_succ, List.map_nil, List.map_cons, fieldV, tOff, fieldAt, loadV, pickCells, List.drop_zero, List.drop_succ_cons, List.take_succ_cons, List.take_zero, List.getElem?_cons_zero, List.getElem?_cons_succ, List.head?_cons, Nat.zero_add, Nat.reduceAdd, Nat.reduceLT, Nat.reduceLeDiff, Nat.reduceEqDiff, V.cells, calleeOf, beq_self_eq_true, rowOf, tt25, tt29, tt75, runOpsW, wantedW, gT, gRead, wr_set, wr_getD, wr_get, lkF]
                      refine .inl ⟨_, _, by simp only [purL, pur1, purCells, purCell, nilS], e82, ?_⟩
                      try simp only [St.put, if_true, if_false, List.append_nil, List.getD_cons_zero, List.getD_cons_succ, Nat.reduceLT, Nat.reduceEqDiff, Bool.false_eq_true, memAfter_nil, List.flatMap_cons, List.flatMap_nil, ref1, refCell, ev_ft, wr_set, wr_getD, wr_get, lkF]
                      refine hK1 _ ?_
                      clear hK1 K1
                      try simp only [List.drop_succ_cons, List.drop_zero]
                      simp only [stepOp, opV, St.eval, St.put, absV, if_true, if_false, List.length_cons, List.length_nil, List.getD_cons_zero, List.getD_cons_succ, Nat.zero_add, Nat.reduceAdd, Nat.reduceLT, Nat.reduceEqDiff, Bool.false_eq_true, ev_ft, runOpsW, wantedW, gT, gRead, wr_set, wr_getD, wr_get, lkF]
                      refine hK _ _ (by kernel_rfl) ?_
                      clear hK K
                      simp only [mkW, lkF, Nat.reduceAdd, Nat.reduceEqDiff, if_true, if_false]
                      refine tri_ret ⟨.inl rfl, ?_⟩
                      rw [eqb_false fun e => h82 (by rw [e])]; rfl
                  · rw [eqb_false h81] at e81
                    refine runOpsW_cut 14 fun K1 hK1 => ?_
                    simp only [List.take_succ_cons, List.take_zero, List.drop_succ_cons, List.drop_zero]
                    simp only [stepOp, opV, St.eval, St.put, absV, if_true, if_false, List.length_cons, List.length_nil, List.nil_append, List.append_nil, List.getD_cons_zero, List.getD_cons_succ, List.map_nil, List.map_cons, fieldV, tOff, fieldAt, loadV, pickCells, List.drop_zero, List.drop_succ_cons, List.take_succ_cons, List.take_zero, List.getElem?_cons_zero, List.getElem?_cons_succ, List.head?_cons, Nat.zero_add, Nat.reduceAdd, Nat.reduceLT, Nat.reduceLeDiff, Nat.reduceEqDiff, V.cells, calleeOf, beq_self_eq_true, rowOf, tt25, tt75, runOpsW, wantedW, gT, gRead, wr_set, wr_getD, wr_get, lkF]
                    refine .inl ⟨_, _, by simp only [purL, pur1, purCells, purCell, nilS], e81, ?_⟩
                    try simp only [St.put, if_true, if_false, List.append_nil, List.getD_cons_zero, List.getD_cons_succ, Nat.reduceLT, Nat.reduceEqDiff, Bool.false_eq_true, memAfter_nil, List.flatMap_cons, List.flatMap_nil, ref1, refCell, ev_ft, wr_set, wr_getD, wr_get, lkF]
                    refine hK1 _ ?_
                    clear hK1 K1
                    try simp only [List.drop_succ_cons, List.drop_zero]
                    simp only [stepOp, opV, St.eval, St.put, absV, if_true, if_false, List.length_cons, List.length_nil, List.getD_cons_zero, List.getD_cons_succ, Nat.zero_add, Nat.reduceAdd, Nat.reduceLT, Nat.reduceEqDiff, Bool.false_eq_true, ev_ft, runOpsW, wantedW, gT, gRead, wr_set, wr_getD, wr_get, lkF]
                    refine hK _ _ (by kernel_rfl) ?_
                    clear hK K
                    simp only [mkW, lkF, Nat.reduceAdd, Nat.reduceEqDiff, if_true, if_false]
                    refine tri_ret ⟨.inl rfl, ?_⟩
                    rw [eqb_false fun e => h81 (by rw [e])]; rfl
                · rw [eqb_false h80] at e80
                  refine runOpsW_cut 14 fun K1 hK1 => ?_
                  simp only [List.take_succ_cons, List.take_zero]
                  simp only [stepOp, opV, St.eval, St.put, absV, if_true, if_false, List.length_cons, List.length_nil, List.nil_append, List.append_nil, List.getD_cons_zero, List.getD_cons_succ, List.map_nil, List.map_cons, fieldV, tOff, fieldAt, loadV, pickCells, List.drop_zero, List.drop_succ_cons, List.take_succ_cons, List.take_zero, List.getElem?_cons_zero, List.getElem?_cons_succ, List.head?_cons, Nat.zero_add, Nat.reduceAdd, Nat.reduceLT, Nat.reduceLeDiff, Nat.reduceEqDiff, V.cells, calleeOf, rowOf, tt25, tt75, runOpsW, wantedW, gT, gRead, wr_set, wr_getD, lkF]
                  refine .inl ⟨_, _, by simp only [purL, pur1, purCells, purCell, nilS], e80, ?_⟩
                  try simp only [St.put, if_true, if_false, List.append_nil, List.getD_cons_zero, List.getD_cons_succ, Nat.reduceLT, Nat.reduceEqDiff, Bool.false_eq_true, memAfter_nil, List.flatMap_cons, List.flatMap_nil, ref1, refCell, ev_ft, wr_set, wr_getD, wr_get, lkF]
                  refine hK1 _ ?_
                  clear hK1 K1
                  refine runOpsW_cut 14 fun K1 hK1 => ?_
                  simp only [List.take_succ_cons, List.take_zero, List.drop_succ_cons, List.drop_zero]
                  simp only [stepOp, opV, St.eval, St.put, absV, if_true, if_false, List.length_cons, List.length_nil, List.getD_cons_zero, List.getD_cons_succ, Nat.zero_add, Nat.reduceAdd, Nat.reduceLT, Nat.reduceEqDiff, Bool.false_eq_true, ev_ft, runOpsW, wantedW, gT, gRead, wr_set, wr_getD, wr_get, lkF]
                  refine hK1 _ ?_
                  clear hK1 K1
                  try simp only [List.drop_succ_cons, List.drop_zero]
                  simp only [stepOp, opV, St.eval, St.put, absV, if_true, if_false, List.length_cons, List.length_nil, List.getD_cons_zero, List.getD_cons_succ, Nat.zero_add, Nat.reduceAdd, Nat.reduceLT, Nat.reduceEqDiff, Bool.false_eq_true, ev_ft, runOpsW, wantedW, gT, gRead, wr_set, wr_getD, wr_get, lkF]
                  refine hK _ _ (by kernel_rfl) ?_
                  clear hK K
                  simp only [mkW, lkF, Nat.reduceAdd, Nat.reduceEqDiff, if_true, if_false]
                  refine tri_ret ⟨.inl rfl, ?_⟩
                  rw [eqb_false fun e => h80 (by rw [e])]; rfl
              · rw [eqb_false h6] at e6
                try simp only [List.drop_succ_cons, List.drop_zero]
                simp only [e6, stepOp, opV, St.eval, St.put, absV, if_true, if_false, List.length_cons, List.length_nil, List.getD_cons_zero, List.getD_cons_succ, fieldV, tOff, fieldAt, loadV, pickCells, List.drop_zero, List.drop_succ_cons, List.take_succ_cons, List.take_zero, List.getElem?_cons_zero, List.getElem?_cons_succ, List.head?_cons, Nat.zero_add, Nat.reduceAdd, Nat.reduceLT, Nat.reduceEqDiff, Nat.le_refl, Bool.false_eq_true, ev_sneq, beq_self_eq_true, Bool.not_false, nilLen, gnCmp, tt9, tt75, runOpsW, wantedW, gT, gRead, wr_set, wr_getD, wr_get, lkF]
                refine hK _ _ (by kernel_rfl) ?_
                clear hK K
                simp only [mkW, lkF, Nat.reduceAdd, Nat.reduceEqDiff, if_true, if_false]
                refine tri_cond rfl ?_
                refine tri_seq_region tt_ok fun K hK => ?_
                simp only [runOps, stepOp, wantedV, opV, St.eval, St.put, absV, List.length_cons, List.length_nil, List.set_cons_zero, List.set_cons_succ, Nat.zero_add, Nat.reduceAdd]
                refine hK _ ?_
                clear hK K
                refine tri_ret ⟨.inl rfl, ?_⟩
                rw [eqb_false fun e => h6 (by rw [e])]; rfl
            · rw [eqb_false h5] at e5
              try simp only [List.drop_succ_cons, List.drop_zero]
              simp only [e5, stepOp, opV, St.eval, St.put, absV, if_true, if_false, List.length_cons, List.length_nil, List.getD_cons_zero, List.getD_cons_succ, fieldV, tOff, fieldAt, loadV, pickCells, List.drop_zero, List.drop_succ_cons, List.take_succ_cons, List.take_zero, List.getElem?_cons_zero, List.getElem?_cons_succ, List.head?_cons, Nat.zero_add, Nat.reduceAdd, Nat.reduceLT, Nat.reduceLeDiff, Nat.reduceEqDiff, Bool.false_eq_true, ev_sneq, beq_self_eq_true, Bool.not_false, nilLen, ev_tf, gnCmp, tt9, tt75, runOpsW, wantedW, gT, gRead, wr_set, wr_getD, wr_get, lkF]
              refine hK _ _ (by kernel_rfl) ?_
              clear hK K
              simp only [mkW, lkF, Nat.reduceAdd, Nat.reduceEqDiff, if_true, if_false]
              refine tri_cond rfl ?_
              refine tri_seq_region tt_ok fun K hK => ?_
              simp only [runOps, stepOp, wantedV, opV, St.eval, St.put, absV, List.length_cons, List.length_nil, List.set_cons_zero, List.set_cons_succ, Nat.zero_add, Nat.reduceAdd]
              refine hK _ ?_
              clear hK K
              refine tri_ret ⟨.inl rfl, ?_⟩
              rw [eqb_false fun e => h5 (by rw [e])]; rfl
          · rw [eqb_false h4] at e4
            refine runOpsW_cut 14 fun K1 hK1 => ?_
            simp only [List.take_succ_cons, List.take_zero, List.drop_succ_cons, List.drop_zero]
            simp only [e4, stepOp, opV, St.eval, St.put, absV, if_true, if_false, List.length_cons, List.length_nil, List.getD_cons_zero, List.getD_cons_succ, fieldV, tOff, fieldAt, loadV, pickCells, List.drop_zero, List.drop_succ_cons, List.take_succ_cons, List.take_zero, List.getElem?_cons_zero, List.getElem?_cons_succ, List.head?_cons, Nat.zero_add, Nat.reduceAdd, Nat.reduceLT, Nat.reduceLeDiff, Nat.reduceEqDiff, Bool.false_eq_true, ev_sneq, beq_self_eq_true, Bool.not_false, nilLen, ev_tf, gnCmp, tt9, tt75, runOpsW, wantedW, gT, gRead, wr_set, wr_getD, wr_get, lkF]
            refine hK1 _ ?_
            clear hK1 K1
            try simp only [List.drop_succ_cons, List.drop_zero]
            simp only [stepOp, opV, St.eval, St.put, absV, if_true, if_false, List.length_cons, List.length_nil, List.getD_cons_zero, List.getD_cons_succ, Nat.zero_add, Nat.reduceAdd, Nat.reduceLT, Nat.reduceEqDiff, ev_tf, runOpsW, wantedW, gT, gRead, wr_set, wr_getD, wr_get, lkF]
            refine hK _ _ (by kernel_rfl) ?_
            clear hK K
            simp only [mkW, lkF, Nat.reduceAdd, Nat.reduceEqDiff, if_true, if_false]
            refine tri_cond rfl ?_
            refine tri_seq_region tt_ok fun K hK => ?_
            simp only [runOps, stepOp, wantedV, opV, St.eval, St.put, absV, List.length_cons, List.length_nil, List.set_cons_zero, List.set_cons_succ, Nat.zero_add, Nat.reduceAdd]
            refine hK _ ?_
            clear hK K
            refine tri_ret ⟨.inl rfl, ?_⟩
            rw [eqb_false fun e => h4 (by rw [e])]; rfl
        · have e3 : (t.deprecated == u.deprecated) = false := by simpa using h3
          refine runOpsW_cut 14 fun K1 hK1 => ?_
          simp only [List.take_succ_cons, List.take_zero, List.drop_succ_cons, List.drop_zero]
          simp only [e3, hbn, stepOp, opV, St.eval, St.put, absV, if_true, if_false, List.length_cons, List.length_nil, List.getD_cons_zero, List.getD_cons_succ, fieldV, tOff, fieldAt, loadV, pickCells, List.drop_zero, List.drop_succ_cons, List.take_succ_cons, List.take_zero, List.getElem?_cons_zero, List.getElem?_cons_succ, List.head?_cons, Nat.zero_add, Nat.reduceAdd, Nat.reduceLT, Nat.reduceLeDiff, Nat.reduceEqDiff, Bool.false_eq_true, beq_self_eq_true, Bool.not_false, nilLen, ev_tf, gnCmp, tt4, tt75, runOpsW, wantedW, gT, gRead, wr_set, wr_getD, wr_get, lkF]
          refine hK1 _ ?_
          clear hK1 K1
          try simp only [List.drop_succ_cons, List.drop_zero]
          simp only [stepOp, opV, St.eval, St.put, absV, if_true, if_false, List.length_cons, List.length_nil, List.getD_cons_zero, List.getD_cons_succ, Nat.zero_add, Nat.reduceAdd, Nat.reduceLT, Nat.reduceEqDiff, ev_tf, runOpsW, wantedW, gT, gRead, wr_set, wr_getD, wr_get, lkF]
          refine hK _ _ (by kernel_rfl) ?_
          clear hK K
          simp only [mkW, lkF, Nat.reduceAdd, Nat.reduceEqDiff, if_true, if_false]
          refine tri_cond rfl ?_
          refine tri_seq_region tt_ok fun K hK => ?_
          simp only [runOps, stepOp, wantedV, opV, St.eval, St.put, absV, List.length_cons, List.length_nil, List.set_cons_zero, List.set_cons_succ, Nat.zero_add, Nat.reduceAdd]
          refine hK _ ?_
          clear hK K
          refine tri_ret ⟨.inl rfl, ?_⟩
          rw [eqb_false fun e => h3 (by rw [e])]; rfl
      · have e2 : (t.exported == u.exported) = false := by simpa using h2
        refine runOpsW_cut 14 fun K1 hK1 => ?_
        simp only [List.take_succ_cons, List.take_zero, List.drop_succ_cons, List.drop_zero]
        simp only [e2, hbn, stepOp, opV, St.eval, St.put, absV, if_true, if_false, List.length_cons, List.length_nil, List.getD_cons_zero, List.getD_cons_succ, fieldV, tOff, fieldAt, loadV, pickCells, List.drop_zero, List.drop_succ_cons, List.take_succ_cons, List.take_zero, List.getElem?_cons_zero, List.getElem?_cons_succ, List.head?_cons, Nat.zero_add, Nat.reduceAdd, Nat.reduceLT, Nat.reduceLeDiff, Nat.reduceEqDiff, Bool.false_eq_true, beq_self_eq_true, Bool.not_false, nilLen, ev_tf, gnCmp, tt4, tt75, runOpsW, wantedW, gT, gRead, wr_set, wr_getD, wr_get, lkF]
        refine hK1 _ ?_
        clear hK1 K1
        refine runOpsW_cut 14 fun K1 hK1 => ?_
        simp only [List.take_succ_cons, List.take_zero, List.drop_succ_cons, List.drop_zero]
        simp only [stepOp, opV, St.eval, St.put, absV, if_true, if_false, List.length_cons, List.length_nil, List.getD_cons_zero, List.getD_cons_succ, Nat.zero_add, Nat.reduceAdd, Nat.reduceLT, Nat.reduceEqDiff, ev_tf, runOpsW, wantedW, gT, gRead, wr_set, wr_getD, wr_get, lkF]
        refine hK1 _ ?_
        clear hK1 K1
        try simp only [List.drop_succ_cons, List.drop_zero]
        simp only [stepOp, opV, St.eval, St.put, absV, if_true, if_false, List.length_cons, List.length_nil, List.getD_cons_zero, List.getD_cons_succ, Nat.zero_add, Nat.reduceAdd, Nat.reduceLT, Nat.reduceEqDiff, ev_tf, runOpsW, wantedW, gT, gRead, wr_set, wr_getD, wr_get, lkF]
        refine hK _ _ (by kernel_rfl) ?_
        clear hK K
        simp only [mkW, lkF, Nat.reduceAdd, Nat.reduceEqDiff, if_true, if_false]
        refine tri_cond rfl ?_
        refine tri_seq_region tt_ok fun K hK => ?_
        simp only [runOps, stepOp, wantedV, opV, St.eval, St.put, absV, List.length_cons, List.length_nil, List.set_cons_zero, List.set_cons_succ, Nat.zero_add, Nat.reduceAdd]
        refine hK _ ?_
        clear hK K
        refine tri_ret ⟨.inl rfl, ?_⟩
        rw [eqb_false fun e => h2 (by rw [e])]; rfl
    · rw [eqb_false h1] at e1
      refine runOpsW_cut 14 fun K1 hK1 => ?_
      simp only [List.take_succ_cons, List.take_zero, List.drop_succ_cons, List.drop_zero]
      simp only [e1, stepOp, opV, St.eval, St.put, absV, if_true, if_false, List.length_cons, List.length_nil, List.getD_cons_zero, List.getD_cons_succ, fieldV, tOff, fieldAt, loadV, pickCells, List.drop_zero, List.drop_succ_cons, List.take_succ_cons, List.take_zero, List.getElem?_cons_zero, List.getElem?_cons_succ, List.head?_cons, Nat.zero_add, Nat.reduceAdd, Nat.reduceLT, Nat.reduceLeDiff, Nat.reduceEqDiff, Bool.false_eq_true, ev_sneq, beq_self_eq_true, Bool.not_false, nilLen, ev_tf, gnCmp, tt9, tt75, runOpsW, wantedW, gT, gRead, wr_set, wr_getD, wr_get, lkF]
      refine hK1 _ ?_
      clear hK1 K1
      refine runOpsW_cut 14 fun K1 hK1 => ?_
      simp only [List.take_succ_cons, List.take_zero, List.drop_succ_cons, List.drop_zero]
      simp only [stepOp, opV, St.eval, St.put, absV, if_true, if_false, List.length_cons, List.length_nil, List.getD_cons_zero, List.getD_cons_succ, Nat.zero_add, Nat.reduceAdd, Nat.reduceLT, Nat.reduceEqDiff, ev_tf, runOpsW, wantedW, gT, gRead, wr_set, wr_getD, wr_get, lkF]
      refine hK1 _ ?_
      clear hK1 K1
      try simp only [List.drop_succ_cons, List.drop_zero]
      simp only [stepOp, opV, St.eval, St.put, absV, if_true, if_false, List.length_cons, List.length_nil, List.getD_cons_zero, List.getD_cons_succ, Nat.zero_add, Nat.reduceAdd, Nat.reduceLT, Nat.reduceEqDiff, ev_tf, runOpsW, wantedW, gT, gRead, wr_set, wr_getD, wr_get, lkF]
      refine hK _ _ (by kernel_rfl) ?_
      clear hK K
      simp only [mkW, lkF, Nat.reduceAdd, Nat.reduceEqDiff, if_true, if_false]
      refine tri_cond rfl ?_
      refine tri_seq_region tt_ok fun K hK => ?_
      simp only [runOps, stepOp, wantedV, opV, St.eval, St.put, absV, List.length_cons, List.length_nil, List.set_cons_zero, List.set_cons_succ, Nat.zero_add, Nat.reduceAdd]
      refine hK _ ?_
      clear hK K
      refine tri_ret ⟨.inl rfl, ?_⟩
      rw [eqb_false fun e => h1 (by rw [e])]; rfl
  · have e0 : decide (t.kind = u.kind) = false := decide_eq_false h0
    refine runOpsW_cut 14 fun K1 hK1 => ?_
    simp only [List.take_succ_cons, List.take_zero]
    simp only [e0, stepOp, opV, St.eval, St.put, absV, if_true, if_false, List.length_cons, List.length_nil, List.getD_cons_zero, List.getD_cons_succ, fieldV, tOff, fieldAt, loadV, pickCells, List.drop_zero, List.take_succ_cons, List.take_zero, List.getElem?_cons_zero, List.getElem?_cons_succ, List.head?_cons, Nat.zero_add, Nat.add_zero, Nat.reduceAdd, Nat.reduceLT, Nat.reduceLeDiff, Nat.reduceEqDiff, Bool.false_eq_true, ev_neq, Bool.not_false, nilLen, ev_tf, gnCmp, tt3, tt75, runOpsW, wantedW, gT, gRead, wr_set, wr_getD, wr_get, lkF]
    refine hK1 _ ?_
    clear hK1 K1
    refine runOpsW_cut 14 fun K1 hK1 => ?_
    simp only [List.take_succ_cons, List.take_zero, List.drop_succ_cons, List.drop_zero]
    simp only [stepOp, opV, St.eval, St.put, absV, if_true, if_false, List.length_cons, List.length_nil, List.getD_cons_zero, List.getD_cons_succ, Nat.zero_add, Nat.reduceAdd, Nat.reduceLT, Nat.reduceEqDiff, ev_tf, runOpsW, wantedW, gT, gRead, wr_set, wr_getD, wr_get, lkF]
    refine hK1 _ ?_
    clear hK1 K1
    refine runOpsW_cut 14 fun K1 hK1 => ?_
    simp only [List.take_succ_cons, List.take_zero, List.drop_succ_cons, List.drop_zero]
    simp only [stepOp, opV, St.eval, St.put, absV, if_true, if_false, List.length_cons, List.length_nil, List.getD_cons_zero, List.getD_cons_succ, Nat.zero_add, Nat.reduceAdd, Nat.reduceLT, Nat.reduceEqDiff, ev_tf, runOpsW, wantedW, gT, gRead, wr_set, wr_getD, wr_get, lkF]
    refine hK1 _ ?_
    clear hK1 K1
    try simp only [List.drop_succ_cons, List.drop_zero]
    simp only [stepOp, opV, St.eval, St.put, absV, if_true, if_false, List.length_cons, List.length_nil, List.getD_cons_zero, List.getD_cons_succ, Nat.zero_add, Nat.reduceAdd, Nat.reduceLT, Nat.reduceEqDiff, ev_tf, runOpsW, wantedW, gT, gRead, wr_set, wr_getD, wr_get, lkF]
    refine hK _ _ (by kernel_rfl) ?_
    clear hK K
    simp only [mkW, lkF, Nat.reduceAdd, Nat.reduceEqDiff, if_true, if_false]
    refine tri_cond rfl ?_
    refine tri_seq_region tt_ok fun K hK => ?_
    simp only [runOps, stepOp, wantedV, opV, St.eval, St.put, absV, List.length_cons, List.length_nil, List.set_cons_zero, List.set_cons_succ, Nat.zero_add, Nat.reduceAdd]
    refine hK _ ?_
    clear hK K
    refine tri_ret ⟨.inl rfl, ?_⟩
    rw [eqb_false fun e => h0 (by rw [e])]; rfl
theorem scRunP_seq {P : Program} {T : TypeId} (hT : P.underlying T = some .string) (d : Nat) (a b : ByteArray) : scRunP P (Op.equalIn (d + 1) T (.string a) (.string b)) = some (a == b) := by
  rw [Op.equalIn, scRunP_bind, scRunP_underlying hT]
  rfl
theorem eq109 (a b c d : ByteArray) : scRunP Tryz.prog (Op.equal 109 (.agg #[.string a, .string b]) (.agg #[.string c, .string d])) = some (a == c && b == d) := by
  show scRunP Tryz.prog (Op.equalIn (9999 + 1) 109 _ _) = _
  have h1 := scRunP_seq Tryz.underlying9 9998 a c
  have h2 := scRunP_seq Tryz.underlying9 9998 b d
  have hs : Tryz.prog.stoodInHeld 109 = false := by kernel_rfl
  have hp1 : ∀ x y, scRunP Tryz.prog (part 9 #[x, y] 0) = some x := fun x y => by kernel_rfl
  have hp2 : ∀ x y, scRunP Tryz.prog (part 9 #[x, y] 1) = some y := fun x y => by kernel_rfl
  rw [Op.equalIn, scRunP_bind, scRunP_underlying Tryz.underlying109]
  dsimp only [Option.bind_some]
  rw [scRunP_bind]
  show ((some Tryz.prog).bind _) = _
  rw [Option.bind_some, if_neg (by rw [hs]; simp)]
  rw [← Array.forIn_toList]
  have n1 : ("Path" ≠ "_") := by decide
  have n2 : ("Alias" ≠ "_") := by decide
  have q1 : scRunP Tryz.prog (Op.equalIn 9999 9 (Value.string a) (Value.string c)) = some (a == c) := h1
  have q2 : scRunP Tryz.prog (Op.equalIn 9999 9 (Value.string b) (Value.string d)) = some (b == d) := h2
  have pr : ∀ {α : Type} (x : α), scRunP Tryz.prog (pure x : Sem α) = some x := fun x => rfl
  simp only [List.forIn_cons, List.forIn_nil, scRunP_bind, if_pos n1, if_pos n2, hp1, Option.bind_some, q1]
  cases hac : (a == c)
  · simp [pr, Option.bind_some]
  · simp only [Bool.not_true, Bool.false_eq_true, if_false, pr, Option.bind_some, scRunP_bind, hp2, q2, Bool.true_and]
    cases hbd : (b == d) <;> simp [pr]
theorem ev_imneq (x y : Operand) (a b c d : ByteArray) : lift2 Tryz.prog (fun u v => do eqGuard .neq 109 x y u v; binOp .neq 109 u v) (.agg [str a, str b]) (.agg [str c, str d]) = some (bl (!(a == c && b == d))) := by
  have : scRunP Tryz.prog (do eqGuard .neq 109 x y (.agg #[.string a, .string b]) (.agg #[.string c, .string d]); binOp .neq 109 (.agg #[.string a, .string b]) (.agg #[.string c, .string d])) = some (.bool (!(a == c && b == d))) := by
    have hg : scRunP Tryz.prog (eqGuard .neq 109 x y (.agg #[.string a, .string b]) (.agg #[.string c, .string d])) = some () := by kernel_rfl
    rw [scRunP_bind, hg, Option.bind_some]
    have hb : ∀ u v : Array Value, binOp .neq 109 (.agg u) (.agg v) = (Op.equal 109 (.agg u) (.agg v) >>= fun r => Pure.pure (Value.bool !r)) := fun u v => rfl
    rw [hb, scRunP_bind, eq109]; rfl
  simp only [lift2, toVal, allSc]
  rw [this]; rfl
theorem ba_beq (a b : ByteArray) : (a == b) = eqb a b := by
  obtain ⟨x⟩ := a
  obtain ⟨y⟩ := b
  have h1 : ((⟨x⟩ : ByteArray) == ⟨y⟩) = (x == y) := rfl
  rw [h1]
  by_cases h : x = y
  · subst h; rw [eqb_true rfl]; simp
  · rw [eqb_false (fun e => h (by injection e))]; simpa using h
theorem im_eq (f g : Im) : (f.path == g.path && f.alias == g.alias) = eqb f g := by
  rw [ba_beq, ba_beq]
  by_cases h : f = g
  · subst h; rw [eqb_true rfl, eqb_true rfl, eqb_true rfl]; rfl
  · rw [eqb_false h]
    by_cases h1 : f.path = g.path
    · by_cases h2 : f.alias = g.alias
      · exact absurd (by cases f; cases g; simp_all) h
      · rw [eqb_false h2, Bool.and_false]
    · rw [eqb_false h1, Bool.false_and]
theorem equalIms_ok (ts us : List Im) (hl : ts.length ≤ 1048576) : FnOk Tryz.prog 72 [.slice (ts.map encIm), .slice (us.map encIm)] (bl (eqb ts us)) := by
  refine fn_ok tt_ok (fn := Tryz.f72) Tryz.func72 rfl Tryz.call72 ?_
  simp only [startSt, Tryz.ntmps72, List.length_cons, List.length_nil, Nat.reduceAdd, Nat.reduceSub, List.replicate_succ, List.replicate_zero, List.cons_append, List.nil_append]
  refine tri_seq_region tt_ok fun K hK => ?_
  simp only [runOps, stepOp, wantedV, opV, St.eval, St.put, absV, List.length_nil, List.set_cons_zero, List.set_cons_succ]
  refine hK _ ?_
  clear hK K
  refine tri_seq ?_
  by_cases hlen : ts.length = us.length
  · have hd : (!decide ((ts.length : Int) = (us.length : Int))) = false := by simp [hlen]
    refine tri_seq_region tt_ok fun K hK => ?_
    simp only [List.length_map, hd, runOps, stepOp, wantedV, opV, St.eval, St.put, List.length_nil, List.set_cons_zero, List.set_cons_succ, List.getD_cons_zero, List.getD_cons_succ, tElem, List.map_nil, List.map_cons, List.getElem?_cons_zero, lenV, ev_neq, List.getElem?_toArray, nilLen, sliceLen, nilAns, ne_eq, ev_len1, gnCmp, tt3, tt30]
    refine hK _ ?_
    clear hK K
    refine tri_cond rfl (tri_skip ?_)
    show Tri _ _ _ _ _ _
    refine tri_seq ?_
    refine tri_seq_region tt_ok fun K hK => ?_
    simp only [List.length_map, runOps, stepOp, wantedV, opV, St.eval, St.put, absV, List.length_nil, List.set_cons_zero, List.set_cons_succ, List.getD_cons_zero, List.getD_cons_succ, tElem, List.map_nil, List.map_cons, List.getElem?_cons_zero, lenV, List.getElem?_toArray, ev_len1, tt30]
    refine hK _ ?_
    clear hK K
    refine tri_block (tri_loop_inv (fun N st => ∃ (i : Nat), N = ts.length - i ∧ i ≤ ts.length ∧ ts.take i = us.take i ∧
      st = { fr := [.slice (ts.map encIm), .slice (us.map encIm), .undef, .undef, .undef, .undef, .undef, .undef, .undef, .undef, .undef, .undef, num ts.length, num i] ++ List.replicate 12 .undef, mem := [] }) ts.length ?_ ?_)
    · exact ⟨0, [true, true, false, false, false, false, false, false, false, false, false, false, true, true], by omega, by simp only [maskFr, if_true, if_false, Bool.false_eq_true, List.all_cons, List.all_nil, belowV, Bool.and_self], rfl, 0, by omega, by omega, by simp, rfl⟩
    · rintro N' st ⟨i, rfl, hi, htk, rfl⟩
      simp only [List.replicate_succ, List.replicate_zero, List.cons_append, List.nil_append]
      by_cases hlt : i < ts.length
      · have hd := lt_dec hlt
        refine tri_seq_region tt_ok fun K hK => ?_
        simp only [hd, runOps, stepOp, wantedV, opV, St.eval, St.put, List.length_nil, List.set_cons_zero, List.set_cons_succ, List.getD_cons_zero, List.getD_cons_succ, ev_lss, nilLen, gnCmp]
        refine hK _ ?_
        clear hK K
        refine tri_seq (tri_cond rfl (tri_skip ?_))
        refine tri_seq (tri_block ?_)
        obtain ⟨f, hf⟩ : ∃ f, ts[i]? = some f := ⟨_, List.getElem?_eq_getElem hlt⟩
        obtain ⟨g, hg⟩ : ∃ g, us[i]? = some g := ⟨_, List.getElem?_eq_getElem (by omega)⟩
        refine tri_seq_region tt_ok fun K hK => ?_
        simp only [runOps, stepOp, wantedV, opV, St.eval, St.put, List.length_nil, List.set_cons_zero, List.set_cons_succ, List.getD_cons_zero, List.getD_cons_succ]
        refine hK _ ?_
        clear hK K
        have e0 := im_eq f g
        by_cases h0 : f = g
        · rw [eqb_true h0] at e0
          refine tri_seq_mixed_w tt_ok mixed_ok 26 [0, 0, 0, 0, 0, 0, 0, 0, 0, 0, 0, 0, 0, 0, 0, 0, 1, 1, 1, 1, 1, 1, 1, 1, 2] (by kernel_rfl) [⟨.n, 0, [], []⟩, ⟨.n, 0, [], []⟩, ⟨.r, 0, [], []⟩, ⟨.r, 0, [], []⟩, ⟨.n, 0, [], []⟩, ⟨.n, 0, [], []⟩, ⟨.r, 0, [], []⟩, ⟨.r, 0, [], []⟩, ⟨.n, 0, [], []⟩] 0 (by kernel_rfl) fun K hK => ?_
          simp only [List.getElem?_map, hf, hg, encIm, ev_imneq, e0, wantedV, opV, St.eval, St.put, if_true, if_false, List.length_cons, List.length_nil, List.append_nil, List.getD_cons_zero, List.getD_cons_succ, tElem, tSize, List.map_nil, loadV, pickCells, List.take_succ_cons, List.take_zero, Nat.zero_add, Nat.reduceAdd, Nat.reduceLT, Nat.reduceEqDiff, Nat.le_refl, Int.natCast_nonneg, indexV, indexAt, Int.toNat_natCast, V.cells, Option.map_some, Bool.not_true, rowOf, sizeOfBlk, gnCmp, tt30, tt109, wr_set, wr_getD, lkF, runM, stepM, valD, val1, maskB, List.replicate, Nat.reduceAdd]
          refine hK _ _ (by kernel_rfl) ?_
          clear hK K
          simp only [mkW, lkF, Nat.reduceAdd, Nat.reduceEqDiff, if_true, if_false]
          refine tri_cond rfl (tri_skip ?_)
          show Tri _ _ _ _ _ _
          refine tri_last_region tt_ok fun K hK => ?_
          simp only [runOps, stepOp, wantedV, opV, St.eval, St.put, absV, List.length_nil, List.set_cons_zero, List.set_cons_succ, List.getD_cons_zero, List.getD_cons_succ, ev_add, nilLen, gnCmp]
          refine hK _ ?_
          clear hK K
          rw [i64_succ i (by omega)]
          exact ⟨ts.length - (i + 1), by omega, 0, [true, true, false, false, false, false, false, false, false, false, false, false, true, true], by omega, by simp only [maskFr, if_true, if_false, Bool.false_eq_true, List.all_cons, List.all_nil, belowV, Bool.and_self], rfl, i + 1, rfl, hlt, by rw [List.take_add_one, List.take_add_one, htk, hf, hg, h0], rfl⟩
        · rw [eqb_false h0] at e0
          refine tri_seq_mixed_w tt_ok mixed_ok 26 [0, 0, 0, 0, 0, 0, 0, 0, 0, 0, 0, 0, 0, 0, 0, 0, 1, 1, 1, 1, 1, 1, 1, 1, 2] (by kernel_rfl) [⟨.n, 0, [], []⟩, ⟨.n, 0, [], []⟩, ⟨.r, 0, [], []⟩, ⟨.r, 0, [], []⟩, ⟨.n, 0, [], []⟩, ⟨.n, 0, [], []⟩, ⟨.r, 0, [], []⟩, ⟨.r, 0, [], []⟩, ⟨.n, 0, [], []⟩] 0 (by kernel_rfl) fun K hK => ?_
          simp only [List.getElem?_map, hf, hg, encIm, ev_imneq, e0, wantedV, opV, St.eval, St.put, if_true, if_false, List.length_cons, List.length_nil, List.append_nil, List.getD_cons_zero, List.getD_cons_succ, tElem, tSize, List.map_nil, loadV, pickCells, List.take_succ_cons, List.take_zero, Nat.zero_add, Nat.reduceAdd, Nat.reduceLT, Nat.reduceEqDiff, Nat.le_refl, Int.natCast_nonneg, indexV, indexAt, Int.toNat_natCast, V.cells, Option.map_some, Bool.not_false, rowOf, sizeOfBlk, gnCmp, tt30, tt109, wr_set, wr_getD, lkF, runM, stepM, valD, val1, maskB, List.replicate, Nat.reduceAdd]
          refine hK _ _ (by kernel_rfl) ?_
          clear hK K
          simp only [mkW, lkF, Nat.reduceAdd, Nat.reduceEqDiff, if_true, if_false]
          refine tri_cond rfl ?_
          refine tri_seq_region tt_ok fun K hK => ?_
          simp only [runOps, stepOp, wantedV, opV, St.eval, St.put, absV, List.length_nil, List.set_cons_zero, List.set_cons_succ]
          refine hK _ ?_
          clear hK K
          refine tri_ret ⟨.inl rfl, ?_⟩
          rw [eqb_false (fun e => h0 (by rw [e, hg] at hf; exact (Option.some.inj hf).symm))]
          rfl
      · have hd := ge_dec hlt
        refine tri_seq_region tt_ok fun K hK => ?_
        simp only [hd, runOps, stepOp, wantedV, opV, St.eval, St.put, List.length_nil, List.set_cons_zero, List.set_cons_succ, List.getD_cons_zero, List.getD_cons_succ, ev_lss, nilLen, gnCmp]
        refine hK _ ?_
        clear hK K
        refine tri_seq (tri_cond rfl (tri_exit ?_))
        have hie : i = ts.length := by omega
        show Tri _ _ _ _ _ _
        refine tri_seq_region tt_ok fun K hK => ?_
        simp only [runOps, stepOp, wantedV, opV, St.eval, St.put, absV, List.length_nil, List.set_cons_zero, List.set_cons_succ]
        refine hK _ ?_
        clear hK K
        refine tri_ret ⟨.inl rfl, ?_⟩
        rw [hie, List.take_length, hlen, List.take_length] at htk
        rw [eqb_true htk]
        rfl
  · have hd : (!decide ((ts.length : Int) = (us.length : Int))) = true := by simpa using fun e => hlen (by omega)
    refine tri_seq_region tt_ok fun K hK => ?_
    simp only [List.length_map, hd, runOps, stepOp, wantedV, opV, St.eval, St.put, List.length_nil, List.set_cons_zero, List.set_cons_succ, List.getD_cons_zero, List.getD_cons_succ, tElem, List.map_nil, List.map_cons, List.getElem?_cons_zero, lenV, ev_neq, List.getElem?_toArray, nilLen, sliceLen, nilAns, ne_eq, ev_len1, gnCmp, tt3, tt30]
    refine hK _ ?_
    clear hK K
    refine tri_cond rfl ?_
    refine tri_seq_region tt_ok fun K hK => ?_
    simp only [runOps, stepOp, wantedV, opV, St.eval, St.put, absV, List.length_nil, List.set_cons_zero, List.set_cons_succ]
    refine hK _ ?_
    clear hK K
    refine tri_ret ⟨.inl rfl, ?_⟩
    rw [eqb_false (fun e => hlen (by rw [e]))]
    rfl
theorem Md.ext' {t u : Md} (h0 : t.path = u.path) (h1 : t.imports = u.imports) (h2 : t.decls = u.decls) : t = u := by cases t; cases u; simp_all

theorem seqMd1_ok (t u : Md) (hi : FnOk Tryz.prog 72 [.slice (t.imports.map encIm), .slice (u.imports.map encIm)] (bl (eqb t.imports u.imports))) (hd : FnOk Tryz.prog 73 [.slice (t.decls.map encDc), .slice (u.decls.map encDc), .sc (.func (.func 74) #[] #[])] (bl (eqb t.decls u.decls))) : FnOk Tryz.prog 30 [encMd t, encMd u] (bl (eqb t u)) := by
  refine fn_ok tt_ok (fn := Tryz.f30) Tryz.func30 rfl Tryz.call30 ?_
  simp only [startSt, Tryz.ntmps30, List.length_cons, List.length_nil, Nat.reduceAdd, Nat.reduceSub, List.replicate_succ, List.replicate_zero, List.cons_append, List.nil_append]
  have hT : Tryz.prog.underlying 4 = some .bool := by kernel_rfl
  have hbe := fun x y => ev_beql (P := Tryz.prog) (T := 4) x y hT
  have hbn := fun x y => ev_bneq (P := Tryz.prog) (T := 4) x y hT
  simp only [encMd_eq, mdCells]
  refine tri_seq_region tt_ok fun K hK => ?_
  simp only [runOps, stepOp, wantedV, opV, St.eval, St.put, absV, cellsV, oneV, List.all_cons, List.all_nil, Bool.and_self, Value.oneCell', if_true, if_false, setMem, List.length_cons, List.length_nil, Nat.lt_irrefl, List.nil_append, List.cons_append, List.set_cons_zero, List.set_cons_succ, List.getD_cons_zero, List.getD_cons_succ, Nat.zero_add]
  refine hK _ ?_
  clear hK K
  have e0 := bytes_eq t.path u.path
  have e1 := hi
  try simp only [encTy_eq, encEx_eq] at e1
  try simp only [tyCells, exCells] at e1
  have e2 := hd
  try simp only [encTy_eq, encEx_eq] at e2
  try simp only [tyCells, exCells] at e2
  refine tri_seq_region_w tt_ok 24 [0, 0, 0, 0, 2, 1, 1, 1, 1, 1, 1, 1, 1, 1, 1, 1, 1, 1, 1, 1, 1, 1, 1, 1] [(5, 10), (12, 17)] (by kernel_rfl) (by kernel_rfl) fun K hK => ?_
  by_cases h0 : t.path = u.path
  · rw [eqb_true h0] at e0
    refine runOpsW_cut 6 fun K1 hK1 => ?_
    simp only [List.take_succ_cons, List.take_zero]
    simp only [e0, stepOp, opV, St.eval, St.put, if_true, if_false, List.length_cons, List.length_nil, List.getD_cons_zero, List.getD_cons_succ, fieldV, tOff, fieldAt, loadV, pickCells, List.drop_zero, List.take_succ_cons, List.take_zero, List.getElem?_cons_zero, List.getElem?_cons_succ, List.head?_cons, Nat.zero_add, Nat.add_zero, Nat.reduceAdd, Nat.reduceLT, Nat.reduceLeDiff, Nat.reduceEqDiff, Bool.false_eq_true, ev_seql, nilLen, gnCmp, tt9, tt33, runOpsW, wantedW, wr_set, wr_getD, lkF]
    refine hK1 _ ?_
    clear hK1 K1
    by_cases h1 : t.imports = u.imports
    · rw [eqb_true h1] at e1
      refine runOpsW_cut 7 fun K1 hK1 => ?_
      simp only [List.take_succ_cons, List.take_zero, List.drop_succ_cons, List.drop_zero]
      simp only [stepOp, opV, St.eval, St.put, absV, if_true, if_false, List.length_cons, List.length_nil, List.nil_append, List.append_nil, List.getD_cons_zero, List.getD_cons_succ, List.map_nil, List.map_cons, fieldV, tOff, fieldAt, loadV, pickCells, List.drop_zero, List.drop_succ_cons, List.take_succ_cons, List.take_zero, List.getElem?_cons_zero, List.getElem?_cons_succ, List.head?_cons, Nat.zero_add, Nat.reduceAdd, Nat.reduceLT, Nat.reduceLeDiff, Nat.reduceEqDiff, Bool.false_eq_true, calleeOf, beq_self_eq_true, tt30, tt33, runOpsW, wantedW, gT, gRead, wr_set, wr_getD, wr_get, lkF]
      refine .inl ⟨_, _, by simp only [purL, pur1, purCell], e1, ?_⟩
      try simp only [St.put, if_true, if_false, List.append_nil, List.getD_cons_zero, List.getD_cons_succ, Nat.reduceLT, Nat.reduceEqDiff, memAfter_nil, List.flatMap_cons, List.flatMap_nil, ref1, refCell, wr_set, wr_getD, lkF]
      refine hK1 _ ?_
      clear hK1 K1
      by_cases h2 : t.decls = u.decls
      · rw [eqb_true h2] at e2
        try simp only [List.drop_succ_cons, List.drop_zero]
        simp only [stepOp, opV, St.eval, St.put, absV, if_true, if_false, List.length_cons, List.length_nil, List.nil_append, List.append_nil, List.getD_cons_zero, List.getD_cons_succ, List.map_nil, List.map_cons, fieldV, tOff, fieldAt, loadV, pickCells, List.drop_zero, List.drop_succ_cons, List.take_succ_cons, List.take_zero, List.getElem?_cons_zero, List.getElem?_cons_succ, List.head?_cons, Nat.zero_add, Nat.reduceAdd, Nat.reduceLT, Nat.reduceEqDiff, Nat.le_refl, Bool.false_eq_true, calleeOf, beq_self_eq_true, tt31, tt33, runOpsW, wantedW, gT, gRead, wr_set, wr_getD, wr_get, lkF]
        refine .inl ⟨_, _, by simp only [purL, pur1, purCell, nilS], e2, ?_⟩
        try simp only [St.put, if_true, if_false, List.append_nil, List.getD_cons_zero, List.getD_cons_succ, Nat.reduceLT, Nat.reduceEqDiff, memAfter_nil, List.flatMap_cons, List.flatMap_nil, ref1, refCell, wr_set, wr_getD, lkF]
        refine hK _ _ (by kernel_rfl) ?_
        clear hK K
        simp only [mkW, lkF, Nat.reduceAdd, Nat.reduceEqDiff, if_true, if_false]
        refine tri_ret ⟨.inl rfl, ?_⟩
        rw [eqb_true (Md.ext' h0 h1 h2)]; rfl
      · rw [eqb_false h2] at e2
        try simp only [List.drop_succ_cons, List.drop_zero]
        simp only [stepOp, opV, St.eval, St.put, absV, if_true, if_false, List.length_cons, List.length_nil, List.nil_append, List.append_nil, List.getD_cons_zero, List.getD_cons_succ, List.map_nil, List.map_cons, fieldV, tOff, fieldAt, loadV, pickCells, List.drop_zero, List.drop_succ_cons, List.take_succ_cons, List.take_zero, List.getElem?_cons_zero, List.getElem?_cons_succ, List.head?_cons, Nat.zero_add, Nat.reduceAdd, Nat.reduceLT, Nat.reduceEqDiff, Nat.le_refl, Bool.false_eq_true, calleeOf, beq_self_eq_true, tt31, tt33, runOpsW, wantedW, gT, gRead, wr_set, wr_getD, wr_get, lkF]
        refine .inl ⟨_, _, by simp only [purL, pur1, purCell, nilS], e2, ?_⟩
        try simp only [St.put, if_true, if_false, List.append_nil, List.getD_cons_zero, List.getD_cons_succ, Nat.reduceLT, Nat.reduceEqDiff, memAfter_nil, List.flatMap_cons, List.flatMap_nil, ref1, refCell, wr_set, wr_getD, lkF]
        refine hK _ _ (by kernel_rfl) ?_
        clear hK K
        simp only [mkW, lkF, Nat.reduceAdd, Nat.reduceEqDiff, if_true, if_false]
        refine tri_ret ⟨.inl rfl, ?_⟩
        rw [eqb_false fun e => h2 (by rw [e])]; rfl
    · rw [eqb_false h1] at e1
      try simp only [List.drop_succ_cons, List.drop_zero]
      simp only [stepOp, opV, St.eval, St.put, absV, if_true, if_false, List.length_cons, List.length_nil, List.nil_append, List.append_nil, List.getD_cons_zero, List.getD_cons_succ, List.map_nil, List.map_cons, fieldV, tOff, fieldAt, loadV, pickCells, List.drop_zero, List.drop_succ_cons, List.take_succ_cons, List.take_zero, List.getElem?_cons_zero, List.getElem?_cons_succ, List.head?_cons, Nat.zero_add, Nat.reduceAdd, Nat.reduceLT, Nat.reduceLeDiff, Nat.reduceEqDiff, Bool.false_eq_true, V.cells, calleeOf, beq_self_eq_true, rowOf, tt30, tt31, tt33, runOpsW, wantedW, gT, gRead, wr_set, wr_getD, wr_get, lkF]
      refine .inl ⟨_, _, by simp only [purL, pur1, purCell], e1, ?_⟩
      try simp only [St.put, if_true, if_false, List.append_nil, List.getD_cons_zero, List.getD_cons_succ, Nat.reduceLT, Nat.reduceEqDiff, Bool.false_eq_true, memAfter_nil, List.flatMap_cons, List.flatMap_nil, ref1, refCell, ev_ft, wr_set, wr_getD, wr_get, lkF]
      refine hK _ _ (by kernel_rfl) ?_
      clear hK K
      simp only [mkW, lkF, Nat.reduceAdd, Nat.reduceEqDiff, if_true, if_false]
      refine tri_ret ⟨.inl rfl, ?_⟩
      rw [eqb_false fun e => h1 (by rw [e])]; rfl
  · rw [eqb_false h0] at e0
    refine runOpsW_cut 14 fun K1 hK1 => ?_
    simp only [List.take_succ_cons, List.take_zero]
    simp only [e0, stepOp, opV, St.eval, St.put, absV, if_true, if_false, List.length_cons, List.length_nil, List.getD_cons_zero, List.getD_cons_succ, fieldV, tOff, fieldAt, loadV, pickCells, List.drop_zero, List.take_succ_cons, List.take_zero, List.getElem?_cons_zero, List.getElem?_cons_succ, List.head?_cons, Nat.zero_add, Nat.add_zero, Nat.reduceAdd, Nat.reduceLT, Nat.reduceLeDiff, Nat.reduceEqDiff, Bool.false_eq_true, ev_seql, nilLen, ev_ft, gnCmp, tt9, tt33, runOpsW, wantedW, gT, gRead, wr_set, wr_getD, wr_get, lkF]
    refine hK1 _ ?_
    clear hK1 K1
    try simp only [List.drop_succ_cons, List.drop_zero]
    simp only [stepOp, opV, St.eval, St.put, absV, if_true, if_false, List.length_cons, List.length_nil, List.getD_cons_zero, List.getD_cons_succ, Nat.zero_add, Nat.reduceAdd, Nat.reduceLT, Nat.reduceEqDiff, Bool.false_eq_true, ev_ft, runOpsW, wantedW, gT, gRead, wr_set, wr_getD, wr_get, lkF]
    refine hK _ _ (by kernel_rfl) ?_
    clear hK K
    simp only [mkW, lkF, Nat.reduceAdd, Nat.reduceEqDiff, if_true, if_false]
    refine tri_ret ⟨.inl rfl, ?_⟩
    rw [eqb_false fun e => h0 (by rw [e])]; rfl

theorem reqMd1_ok (t u : Md) (hil : t.imports.length ≤ 1048576) (hdl : t.decls.length ≤ 1048576) (hrec : ∀ (i : Nat) (a b : Dc), t.decls[i]? = some a → u.decls[i]? = some b → FnOk Tryz.prog 75 [encDc a, encDc b] (bl (eqb a b))) :
    FnOk Tryz.prog 31 [encMd t, encMd u] (bl (eqb t u)) := by
  refine fn_ok tt_ok (fn := Tryz.f31) Tryz.func31 rfl Tryz.call31 ?_
  simp only [startSt, Tryz.ntmps31, List.length_cons, List.length_nil, Nat.reduceAdd, Nat.reduceSub, List.replicate_succ, List.replicate_zero, List.cons_append, List.nil_append]
  have hT : Tryz.prog.underlying 4 = some .bool := by kernel_rfl
  have hbe := fun x y => ev_beql (P := Tryz.prog) (T := 4) x y hT
  have hbn := fun x y => ev_bneq (P := Tryz.prog) (T := 4) x y hT
  simp only [encMd_eq, mdCells]
  refine tri_seq_region tt_ok fun K hK => ?_
  simp only [runOps, stepOp, wantedV, opV, St.eval, St.put, absV, cellsV, oneV, List.all_cons, List.all_nil, Bool.and_self, Value.oneCell', if_true, if_false, setMem, List.length_cons, List.length_nil, Nat.lt_irrefl, List.nil_append, List.cons_append, List.set_cons_zero, List.set_cons_succ, List.getD_cons_zero, List.getD_cons_succ, Nat.zero_add]
  refine hK _ ?_
  clear hK K
  refine tri_seq ?_
  have e0 := bytes_eq t.path u.path
  refine tri_seq_region_w tt_ok 67 [0, 0, 0, 0, 0, 0, 0, 1, 1, 1, 1, 1, 1, 1, 1, 1, 1, 1, 1, 1, 1, 1, 1, 1, 1, 1, 1, 1, 1, 2] [(5, 12), (14, 21)] (by kernel_rfl) (by kernel_rfl) fun K hK => ?_
  by_cases h0 : t.path = u.path
  · rw [eqb_true h0] at e0
    refine runOpsW_cut 6 fun K1 hK1 => ?_
    simp only [List.take_succ_cons, List.take_zero]
    simp only [e0, stepOp, opV, St.eval, St.put, if_true, if_false, List.length_cons, List.length_nil, List.getD_cons_zero, List.getD_cons_succ, fieldV, tOff, fieldAt, loadV, pickCells, List.drop_zero, List.take_succ_cons, List.take_zero, List.getElem?_cons_zero, List.getElem?_cons_succ, List.head?_cons, Nat.zero_add, Nat.add_zero, Nat.reduceAdd, Nat.reduceLT, Nat.reduceLeDiff, Nat.reduceEqDiff, Bool.false_eq_true, ev_sneq, Bool.not_true, nilLen, gnCmp, tt9, tt33, runOpsW, wantedW, wr_set, wr_getD, lkF]
    refine hK1 _ ?_
    clear hK1 K1
    by_cases h1 : t.imports.length = u.imports.length
    · have e1 : decide ((t.imports.length : Int) = (u.imports.length : Int)) = true := decide_eq_true (by omega)
      refine runOpsW_cut 9 fun K1 hK1 => ?_
      simp only [List.take_succ_cons, List.take_zero, List.drop_succ_cons, List.drop_zero]
      simp only [e1, List.length_map, stepOp, opV, St.eval, St.put, absV, if_true, if_false, List.length_cons, List.length_nil, List.getD_cons_zero, List.getD_cons_succ, tElem, List.map_nil, List.map_cons, fieldV, tOff, fieldAt, loadV, pickCells, List.drop_zero, List.drop_succ_cons, List.take_succ_cons, List.take_zero, List.getElem?_cons_zero, List.getElem?_cons_succ, List.head?_cons, Nat.zero_add, Nat.reduceAdd, Nat.reduceLT, Nat.reduceLeDiff, Nat.reduceEqDiff, Bool.false_eq_true, lenV, ev_neq, List.getElem?_toArray, beq_self_eq_true, Bool.not_true, nilLen, ev_len1, gnCmp, tt30, tt33, runOpsW, wantedW, gT, gRead, wr_set, wr_getD, wr_get, lkF]
      refine hK1 _ ?_
      clear hK1 K1
      by_cases h2 : t.decls.length = u.decls.length
      · have e2 : decide ((t.decls.length : Int) = (u.decls.length : Int)) = true := decide_eq_true (by omega)
        try simp only [List.drop_succ_cons, List.drop_zero]
        simp only [e2, List.length_map, stepOp, opV, St.eval, St.put, absV, if_true, if_false, List.length_cons, List.length_nil, List.getD_cons_zero, List.getD_cons_succ, tElem, List.map_nil, List.map_cons, fieldV, tOff, fieldAt, loadV, pickCells, List.drop_zero, List.drop_succ_cons, List.take_succ_cons, List.take_zero, List.getElem?_cons_zero, List.getElem?_cons_succ, List.head?_cons, Nat.zero_add, Nat.reduceAdd, Nat.reduceLT, Nat.reduceEqDiff, Nat.le_refl, Bool.false_eq_true, lenV, ev_neq, List.getElem?_toArray, beq_self_eq_true, Bool.not_true, nilLen, ev_len1, gnCmp, tt31, tt33, runOpsW, wantedW, gT, gRead, wr_set, wr_getD, wr_get, lkF]
        refine hK _ _ (by kernel_rfl) ?_
        clear hK K
        simp only [mkW, lkF, Nat.reduceAdd, Nat.reduceEqDiff, if_true, if_false]
        refine tri_cond rfl (tri_skip ?_)
        show Tri _ _ _ _ _ _
        refine tri_seq ?_
        refine tri_seq_region tt_ok fun K hK => ?_
        simp only [runOps, stepOp, wantedV, opV, St.eval, St.put, absV, List.length_cons, List.length_nil, List.set_cons_zero, List.set_cons_succ, Nat.zero_add, Nat.reduceAdd]
        refine hK _ ?_
        clear hK K
        refine tri_block (tri_loop_inv (fun N st => ∃ (i : Nat), N = t.imports.length - i ∧ i ≤ t.imports.length ∧ t.imports.take i = u.imports.take i ∧
          st = { fr := [.undef, .undef, .ptr 0 0, .ptr 1 0, .undef, num i] ++ List.replicate 61 .undef, mem := [.box (mdCells t), .box (mdCells u)] }) t.imports.length ?_ ?_)
        · exact ⟨2, [false, false, true, true, false, true], by omega, by simp only [maskFr, if_true, if_false, Bool.false_eq_true, List.all_cons, List.all_nil, belowV, Nat.reduceLT, decide_true, Bool.and_self], by simp only [List.all_cons, List.all_nil, belowV, belowB, Bool.and_self, List.take_succ_cons, List.take_nil], 0, by omega, by omega, by simp, rfl⟩
        · rintro N' st ⟨i, rfl, hi, htk, rfl⟩
          simp only [List.replicate_succ, List.replicate_zero, List.cons_append, List.nil_append, mdCells]
          refine tri_seq ?_
          by_cases hlt : i < t.imports.length
          · have hd := lt_dec hlt
            refine tri_seq_region tt_ok fun K hK => ?_
            simp only [List.length_map, hd, runOps, stepOp, wantedV, opV, St.eval, St.put, if_false, List.length_cons, List.length_nil, List.set_cons_zero, List.set_cons_succ, List.getD_cons_zero, List.getD_cons_succ, tElem, List.map_nil, List.map_cons, fieldV, tOff, fieldAt, loadV, pickCells, List.drop_zero, List.drop_succ_cons, List.getElem?_cons_zero, List.getElem?_cons_succ, List.head?_cons, Nat.zero_add, Nat.reduceAdd, Bool.false_eq_true, lenV, ev_lss, V.cells, List.getElem?_toArray, nilLen, rowOf, ev_len1, gnCmp, tt30, tt33]
            refine hK _ ?_
            clear hK K
            refine tri_cond rfl (tri_skip ?_)
            refine tri_seq (tri_block ?_)
            obtain ⟨f, hf⟩ : ∃ f, t.imports[i]? = some f := ⟨_, List.getElem?_eq_getElem hlt⟩
            obtain ⟨g, hg⟩ : ∃ g, u.imports[i]? = some g := ⟨_, List.getElem?_eq_getElem (by omega)⟩
            have no : ¬ f = g → ¬ t = u := fun h e => h (by rw [e, hg] at hf; exact (Option.some.inj hf).symm)
            have e9 := im_eq f g
            by_cases h9 : f = g
            · rw [eqb_true h9] at e9
              refine tri_seq_mixed_w tt_ok mixed_ok 67 [0, 0, 0, 0, 0, 0, 0, 0, 0, 0, 0, 0, 0, 0, 0, 0, 0, 0, 0, 0, 0, 0, 0, 0, 0, 0, 0, 0, 0, 0, 0, 0, 0, 0, 0, 0, 0, 1, 1, 1, 1, 1, 1, 1, 1, 1, 1, 2] (by kernel_rfl) [⟨.n, 0, [], []⟩, ⟨.r, 0, [], []⟩, ⟨.n, 0, [], []⟩, ⟨.r, 0, [], []⟩, ⟨.r, 0, [], []⟩, ⟨.n, 0, [], []⟩, ⟨.r, 0, [], []⟩, ⟨.n, 0, [], []⟩, ⟨.r, 0, [], []⟩, ⟨.r, 0, [], []⟩, ⟨.n, 0, [], []⟩] 0 (by kernel_rfl) fun K hK => ?_
              simp only [List.getElem?_map, hf, hg, encIm, ev_imneq, e9, wantedV, opV, St.eval, St.put, if_true, if_false, List.length_cons, List.length_nil, List.append_nil, List.getD_cons_zero, List.getD_cons_succ, tElem, tSize, List.map_nil, fieldV, tOff, fieldAt, loadV, pickCells, List.drop_zero, List.drop_succ_cons, List.take_succ_cons, List.take_zero, List.getElem?_cons_zero, List.getElem?_cons_succ, List.head?_cons, Nat.zero_add, Nat.reduceAdd, Nat.reduceLT, Nat.reduceEqDiff, Nat.le_refl, Bool.false_eq_true, Int.natCast_nonneg, indexV, indexAt, Int.toNat_natCast, V.cells, Option.map_some, Bool.not_true, rowOf, sizeOfBlk, gnCmp, tt30, tt33, tt109, wr_set, wr_getD, lkF, runM, List.drop_succ_cons, List.drop_zero, stepM, valD, val1, maskB, List.replicate, Nat.reduceAdd]
              refine hK _ _ (by kernel_rfl) ?_
              clear hK K
              simp only [mkW, lkF, Nat.reduceAdd, Nat.reduceEqDiff, if_true, if_false]
              refine tri_cond rfl (tri_skip ?_)
              show Tri _ _ _ _ _ _
              refine tri_last_region tt_ok fun K hK => ?_
              simp only [runOps, stepOp, wantedV, opV, St.eval, St.put, absV, List.length_cons, List.length_nil, List.set_cons_zero, List.set_cons_succ, List.getD_cons_zero, List.getD_cons_succ, Nat.zero_add, Nat.reduceAdd, ev_add, nilLen, gnCmp]
              refine hK _ ?_
              clear hK K
              rw [i64_succ i (by omega)]
              exact ⟨t.imports.length - (i + 1), by omega, 2, [false, false, true, true, false, true], by omega, by simp only [maskFr, if_true, if_false, Bool.false_eq_true, List.all_cons, List.all_nil, belowV, Nat.reduceLT, decide_true, Bool.and_self], by simp only [List.all_cons, List.all_nil, belowV, belowB, Bool.and_self, List.take_succ_cons, List.take_nil], i + 1, rfl, hlt, by rw [List.take_add_one, List.take_add_one, htk, hf, hg, h9], rfl⟩
            · rw [eqb_false h9] at e9
              refine tri_seq_mixed_w tt_ok mixed_ok 67 [0, 0, 0, 0, 0, 0, 0, 0, 0, 0, 0, 0, 0, 0, 0, 0, 0, 0, 0, 0, 0, 0, 0, 0, 0, 0, 0, 0, 0, 0, 0, 0, 0, 0, 0, 0, 0, 1, 1, 1, 1, 1, 1, 1, 1, 1, 1, 2] (by kernel_rfl) [⟨.n, 0, [], []⟩, ⟨.r, 0, [], []⟩, ⟨.n, 0, [], []⟩, ⟨.r, 0, [], []⟩, ⟨.r, 0, [], []⟩, ⟨.n, 0, [], []⟩, ⟨.r, 0, [], []⟩, ⟨.n, 0, [], []⟩, ⟨.r, 0, [], []⟩, ⟨.r, 0, [], []⟩, ⟨.n, 0, [], []⟩] 0 (by kernel_rfl) fun K hK => ?_
              simp only [List.getElem?_map, hf, hg, encIm, ev_imneq, e9, wantedV, opV, St.eval, St.put, if_true, if_false, List.length_cons, List.length_nil, List.append_nil, List.getD_cons_zero, List.getD_cons_succ, tElem, tSize, List.map_nil, fieldV, tOff, fieldAt, loadV, pickCells, List.drop_zero, List.drop_succ_cons, List.take_succ_cons, List.take_zero, List.getElem?_cons_zero, List.getElem?_cons_succ, List.head?_cons, Nat.zero_add, Nat.reduceAdd, Nat.reduceLT, Nat.reduceEqDiff, Nat.le_refl, Bool.false_eq_true, Int.natCast_nonneg, indexV, indexAt, Int.toNat_natCast, V.cells, Option.map_some, Bool.not_false, rowOf, sizeOfBlk, gnCmp, tt30, tt33, tt109, wr_set, wr_getD, lkF, runM, List.drop_succ_cons, List.drop_zero, stepM, valD, val1, maskB, List.replicate, Nat.reduceAdd]
              refine hK _ _ (by kernel_rfl) ?_
              clear hK K
              simp only [mkW, lkF, Nat.reduceAdd, Nat.reduceEqDiff, if_true, if_false]
              refine tri_cond rfl ?_
              refine tri_seq_region tt_ok fun K hK => ?_
              simp only [runOps, stepOp, wantedV, opV, St.eval, St.put, absV, List.length_cons, List.length_nil, List.set_cons_zero, List.set_cons_succ, Nat.zero_add, Nat.reduceAdd]
              refine hK _ ?_
              clear hK K
              refine tri_ret ⟨.inl rfl, ?_⟩
              rw [eqb_false (no h9)]; rfl
          · have hd := ge_dec hlt
            refine tri_seq_region tt_ok fun K hK => ?_
            simp only [List.length_map, hd, runOps, stepOp, wantedV, opV, St.eval, St.put, if_false, List.length_cons, List.length_nil, List.set_cons_zero, List.set_cons_succ, List.getD_cons_zero, List.getD_cons_succ, tElem, List.map_nil, List.map_cons, fieldV, tOff, fieldAt, loadV, pickCells, List.drop_zero, List.drop_succ_cons, List.getElem?_cons_zero, List.getElem?_cons_succ, List.head?_cons, Nat.zero_add, Nat.reduceAdd, Bool.false_eq_true, lenV, ev_lss, V.cells, List.getElem?_toArray, nilLen, rowOf, ev_len1, gnCmp, tt30, tt33]
            refine hK _ ?_
            clear hK K
            refine tri_cond rfl (tri_exit ?_)
            have hie : i = t.imports.length := by omega
            subst hie
            show Tri _ _ _ _ _ _
            refine tri_seq ?_
            refine tri_seq_region tt_ok fun K hK => ?_
            simp only [runOps, stepOp, wantedV, opV, St.eval, St.put, absV, List.length_cons, List.length_nil, List.set_cons_zero, List.set_cons_succ, Nat.zero_add, Nat.reduceAdd]
            refine hK _ ?_
            clear hK K
            have him : t.imports = u.imports := by rw [List.take_length] at htk; rw [htk, h1, List.take_length]
            refine tri_block (tri_loop_inv (fun N st => ∃ (i : Nat), N = t.decls.length - i ∧ i ≤ t.decls.length ∧ t.decls.take i = u.decls.take i ∧
              st = { fr := [.undef, .undef, .ptr 0 0, .ptr 1 0, .undef, .undef, num i] ++ List.replicate 60 .undef, mem := [.box (mdCells t), .box (mdCells u)] }) t.decls.length ?_ ?_)
            · exact ⟨2, [false, false, true, true, false, false, true], by omega, by simp only [maskFr, if_true, if_false, Bool.false_eq_true, List.all_cons, List.all_nil, belowV, Nat.reduceLT, decide_true, Bool.and_self], by simp only [List.all_cons, List.all_nil, belowV, belowB, Bool.and_self, List.take_succ_cons, List.take_nil], 0, by omega, by omega, by simp, rfl⟩
            · rintro N' st ⟨i, rfl, hi, htk, rfl⟩
              simp only [List.replicate_succ, List.replicate_zero, List.cons_append, List.nil_append, mdCells]
              refine tri_seq ?_
              by_cases hlt : i < t.decls.length
              · have hd := lt_dec hlt
                refine tri_seq_region tt_ok fun K hK => ?_
                simp only [List.length_map, hd, runOps, stepOp, wantedV, opV, St.eval, St.put, if_false, List.length_cons, List.length_nil, List.set_cons_zero, List.set_cons_succ, List.getD_cons_zero, List.getD_cons_succ, tElem, List.map_nil, List.map_cons, fieldV, tOff, fieldAt, loadV, pickCells, List.drop_zero, List.drop_succ_cons, List.getElem?_cons_zero, List.getElem?_cons_succ, List.head?_cons, Nat.zero_add, Nat.reduceAdd, Bool.false_eq_true, lenV, ev_lss, V.cells, List.getElem?_toArray, nilLen, rowOf, ev_len1, gnCmp, tt31, tt33]
                refine hK _ ?_
                clear hK K
                refine tri_cond rfl (tri_skip ?_)
                refine tri_seq (tri_block ?_)
                obtain ⟨f, hf⟩ : ∃ f, t.decls[i]? = some f := ⟨_, List.getElem?_eq_getElem hlt⟩
                obtain ⟨g, hg⟩ : ∃ g, u.decls[i]? = some g := ⟨_, List.getElem?_eq_getElem (by omega)⟩
                have no : ¬ f = g → ¬ t = u := fun h e => h (by rw [e, hg] at hf; exact (Option.some.inj hf).symm)
                have e9 := hrec i f g hf hg
                simp only [encDc_eq, dcCells, tyCells, exCells, List.cons_append, List.nil_append] at e9
                refine tri_seq_mixed_w tt_ok mixed_ok 67 [0, 0, 0, 0, 0, 0, 0, 0, 0, 0, 0, 0, 0, 0, 0, 0, 0, 0, 0, 0, 0, 0, 0, 0, 0, 0, 0, 0, 0, 0, 0, 0, 0, 0, 0, 0, 0, 0, 0, 0, 0, 0, 0, 0, 0, 0, 0, 0, 0, 0, 0, 0, 0, 0, 0, 1, 1, 1, 1, 1, 1, 1, 1, 1, 1, 1, 2] (by kernel_rfl) [⟨.n, 0, [], []⟩, ⟨.r, 0, [], []⟩, ⟨.n, 0, [], []⟩, ⟨.r, 0, [], []⟩, ⟨.r, 0, [], []⟩, ⟨.n, 0, [], []⟩, ⟨.r, 0, [], []⟩, ⟨.n, 0, [], []⟩, ⟨.r, 0, [], []⟩, ⟨.r, 0, [], []⟩, ⟨.n, 0, [], []⟩, ⟨.n, 0, [], []⟩] 0 (by kernel_rfl) fun K hK => ?_
                simp only [List.getElem?_map, hf, hg, encDc_eq, dcCells, tyCells, exCells, wantedV, opV, St.eval, St.put, if_true, if_false, List.length_cons, List.length_nil, List.nil_append, List.cons_append, List.append_nil, List.getD_cons_zero, List.getD_cons_succ, tElem, tSize, List.map_nil, List.map_cons, fieldV, tOff, fieldAt, loadV, pickCells, List.drop_zero, List.drop_succ_cons, List.take_succ_cons, List.take_zero, List.getElem?_cons_zero, List.getElem?_cons_succ, List.head?_cons, Nat.zero_add, Nat.reduceAdd, Nat.reduceLT, Nat.reduceEqDiff, Nat.le_refl, Bool.false_eq_true, Int.natCast_nonneg, indexV, indexAt, Int.toNat_natCast, V.cells, calleeOf, Option.map_some, rowOf, sizeOfBlk, tt31, tt33, tt75, wr_set, wr_getD, lkF, runM, List.drop_succ_cons, List.drop_zero, stepM, valD, val1, maskB, List.replicate, Nat.reduceAdd]
                refine ⟨_, _, by simp only [purL, pur1, purCells, purCell, nilS], .inl (e9), ?_⟩
                try simp only [St.put, if_true, if_false, List.getD_cons_zero, List.getD_cons_succ, Nat.reduceLT, Nat.reduceEqDiff, ev_not, wr_set, wr_getD, lkF]
                refine hK _ _ (by kernel_rfl) ?_
                clear hK K
                simp only [mkW, lkF, Nat.reduceAdd, Nat.reduceEqDiff, if_true, if_false]
                by_cases h9 : f = g
                · rw [eqb_true h9]
                  refine tri_cond rfl (tri_skip ?_)
                  show Tri _ _ _ _ _ _
                  refine tri_last_region tt_ok fun K hK => ?_
                  simp only [runOps, stepOp, wantedV, opV, St.eval, St.put, absV, List.length_cons, List.length_nil, List.set_cons_zero, List.set_cons_succ, List.getD_cons_zero, List.getD_cons_succ, Nat.zero_add, Nat.reduceAdd, ev_add, Bool.not_true, nilLen, gnCmp]
                  refine hK _ ?_
                  clear hK K
                  rw [i64_succ i (by omega)]
                  exact ⟨t.decls.length - (i + 1), by omega, 2, [false, false, true, true, false, false, true], by omega, by simp only [maskFr, if_true, if_false, Bool.false_eq_true, List.all_cons, List.all_nil, belowV, Nat.reduceLT, decide_true, Bool.and_self], by simp only [List.all_cons, List.all_nil, belowV, belowB, Bool.and_self, List.take_succ_cons, List.take_nil], i + 1, rfl, hlt, by rw [List.take_add_one, List.take_add_one, htk, hf, hg, h9], rfl⟩
                · rw [eqb_false h9]
                  refine tri_cond rfl ?_
                  refine tri_seq_region tt_ok fun K hK => ?_
                  simp only [runOps, stepOp, wantedV, opV, St.eval, St.put, absV, List.length_cons, List.length_nil, List.set_cons_zero, List.set_cons_succ, Nat.zero_add, Nat.reduceAdd, Bool.not_false]
                  refine hK _ ?_
                  clear hK K
                  refine tri_ret ⟨.inl rfl, ?_⟩
                  rw [eqb_false (no h9)]; rfl
              · have hd := ge_dec hlt
                refine tri_seq_region tt_ok fun K hK => ?_
                simp only [List.length_map, hd, runOps, stepOp, wantedV, opV, St.eval, St.put, if_false, List.length_cons, List.length_nil, List.set_cons_zero, List.set_cons_succ, List.getD_cons_zero, List.getD_cons_succ, tElem, List.map_nil, List.map_cons, fieldV, tOff, fieldAt, loadV, pickCells, List.drop_zero, List.drop_succ_cons, List.getElem?_cons_zero, List.getElem?_cons_succ, List.head?_cons, Nat.zero_add, Nat.reduceAdd, Bool.false_eq_true, lenV, ev_lss, V.cells, List.getElem?_toArray, nilLen, rowOf, ev_len1, gnCmp, tt31, tt33]
                refine hK _ ?_
                clear hK K
                refine tri_cond rfl (tri_exit ?_)
                have hie : i = t.decls.length := by omega
                subst hie
                show Tri _ _ _ _ _ _
                refine tri_seq_region tt_ok fun K hK => ?_
                simp only [runOps, stepOp, wantedV, opV, St.eval, St.put, absV, List.length_cons, List.length_nil, List.set_cons_zero, List.set_cons_succ, Nat.zero_add, Nat.reduceAdd]
                refine hK _ ?_
                clear hK K
                refine tri_ret ⟨.inl rfl, ?_⟩
                have hdc : t.decls = u.decls := by rw [List.take_length] at htk; rw [htk, h2, List.take_length]
                rw [eqb_true (Md.ext' h0 him hdc)]; rfl
      · have e2 : decide ((t.decls.length : Int) = (u.decls.length : Int)) = false := decide_eq_false (by omega)
        try simp only [List.drop_succ_cons, List.drop_zero]
        simp only [e2, List.length_map, stepOp, opV, St.eval, St.put, absV, if_true, if_false, List.length_cons, List.length_nil, List.getD_cons_zero, List.getD_cons_succ, tElem, List.map_nil, List.map_cons, fieldV, tOff, fieldAt, loadV, pickCells, List.drop_zero, List.drop_succ_cons, List.take_succ_cons, List.take_zero, List.getElem?_cons_zero, List.getElem?_cons_succ, List.head?_cons, Nat.zero_add, Nat.reduceAdd, Nat.reduceLT, Nat.reduceEqDiff, Nat.le_refl, Bool.false_eq_true, lenV, ev_neq, List.getElem?_toArray, beq_self_eq_true, Bool.not_false, nilLen, ev_len1, gnCmp, tt31, tt33, runOpsW, wantedW, gT, gRead, wr_set, wr_getD, wr_get, lkF]
        refine hK _ _ (by kernel_rfl) ?_
        clear hK K
        simp only [mkW, lkF, Nat.reduceAdd, Nat.reduceEqDiff, if_true, if_false]
        refine tri_cond rfl ?_
        refine tri_seq_region tt_ok fun K hK => ?_
        simp only [runOps, stepOp, wantedV, opV, St.eval, St.put, absV, List.length_cons, List.length_nil, List.set_cons_zero, List.set_cons_succ, Nat.zero_add, Nat.reduceAdd]
        refine hK _ ?_
        clear hK K
        refine tri_ret ⟨.inl rfl, ?_⟩
        rw [eqb_false fun e => h2 (by rw [e])]; rfl
    · have e1 : decide ((t.imports.length : Int) = (u.imports.length : Int)) = false := decide_eq_false (by omega)
      refine runOpsW_cut 14 fun K1 hK1 => ?_
      simp only [List.take_succ_cons, List.take_zero, List.drop_succ_cons, List.drop_zero]
      simp only [e1, List.length_map, stepOp, opV, St.eval, St.put, absV, if_true, if_false, List.length_cons, List.length_nil, List.getD_cons_zero, List.getD_cons_succ, tElem, List.map_nil, List.map_cons, fieldV, tOff, fieldAt, loadV, pickCells, List.drop_zero, List.drop_succ_cons, List.take_succ_cons, List.take_zero, List.getElem?_cons_zero, List.getElem?_cons_succ, List.head?_cons, Nat.zero_add, Nat.reduceAdd, Nat.reduceLT, Nat.reduceLeDiff, Nat.reduceEqDiff, Bool.false_eq_true, lenV, ev_neq, List.getElem?_toArray, beq_self_eq_true, Bool.not_false, nilLen, ev_tf, ev_len1, gnCmp, tt30, tt33, runOpsW, wantedW, gT, gRead, wr_set, wr_getD, wr_get, lkF]
      refine hK1 _ ?_
      clear hK1 K1
      try simp only [List.drop_succ_cons, List.drop_zero]
      simp only [stepOp, opV, St.eval, St.put, absV, if_true, if_false, List.length_cons, List.length_nil, List.getD_cons_zero, List.getD_cons_succ, Nat.zero_add, Nat.reduceAdd, Nat.reduceLT, Nat.reduceEqDiff, ev_tf, runOpsW, wantedW, gT, gRead, wr_set, wr_getD, wr_get, lkF]
      refine hK _ _ (by kernel_rfl) ?_
      clear hK K
      simp only [mkW, lkF, Nat.reduceAdd, Nat.reduceEqDiff, if_true, if_false]
      refine tri_cond rfl ?_
      refine tri_seq_region tt_ok fun K hK => ?_
      simp only [runOps, stepOp, wantedV, opV, St.eval, St.put, absV, List.length_cons, List.length_nil, List.set_cons_zero, List.set_cons_succ, Nat.zero_add, Nat.reduceAdd]
      refine hK _ ?_
      clear hK K
      refine tri_ret ⟨.inl rfl, ?_⟩
      rw [eqb_false fun e => h1 (by rw [e])]; rfl
  · rw [eqb_false h0] at e0
    refine runOpsW_cut 14 fun K1 hK1 => ?_
    simp only [List.take_succ_cons, List.take_zero]
    simp only [e0, stepOp, opV, St.eval, St.put, absV, if_true, if_false, List.length_cons, List.length_nil, List.getD_cons_zero, List.getD_cons_succ, fieldV, tOff, fieldAt, loadV, pickCells, List.drop_zero, List.take_succ_cons, List.take_zero, List.getElem?_cons_zero, List.getElem?_cons_succ, List.head?_cons, Nat.zero_add, Nat.add_zero, Nat.reduceAdd, Nat.reduceLT, Nat.reduceLeDiff, Nat.reduceEqDiff, Bool.false_eq_true, ev_sneq, Bool.not_false, nilLen, ev_tf, gnCmp, tt9, tt33, runOpsW, wantedW, gT, gRead, wr_set, wr_getD, wr_get, lkF]
    refine hK1 _ ?_
    clear hK1 K1
    try simp only [List.drop_succ_cons, List.drop_zero]
    simp only [stepOp, opV, St.eval, St.put, absV, if_true, if_false, List.length_cons, List.length_nil, List.getD_cons_zero, List.getD_cons_succ, Nat.zero_add, Nat.reduceAdd, Nat.reduceLT, Nat.reduceEqDiff, ev_tf, runOpsW, wantedW, gT, gRead, wr_set, wr_getD, wr_get, lkF]
    refine hK _ _ (by kernel_rfl) ?_
    clear hK K
    simp only [mkW, lkF, Nat.reduceAdd, Nat.reduceEqDiff, if_true, if_false]
    refine tri_cond rfl ?_
    refine tri_seq_region tt_ok fun K hK => ?_
    simp only [runOps, stepOp, wantedV, opV, St.eval, St.put, absV, List.length_cons, List.length_nil, List.set_cons_zero, List.set_cons_succ, Nat.zero_add, Nat.reduceAdd]
    refine hK _ ?_
    clear hK K
    refine tri_ret ⟨.inl rfl, ?_⟩
    rw [eqb_false fun e => h0 (by rw [e])]; rfl
theorem Dc.parts_bulk (d : Dc) : d.params.length < d.bulk ∧ d.lower.size < d.bulk ∧ d.upper.size < d.bulk ∧ d.type.size < d.bulk ∧ d.expr.bulk < d.bulk ∧ ∀ (i : Nat) (p : Pm), d.params[i]? = some p → p.bound.size < d.bulk := by
  unfold Dc.bulk
  refine ⟨by omega, by omega, by omega, by omega, by omega, fun i p h => ?_⟩
  have := sumBy_mem (fun p : Pm => p.bound.size) h; omega
theorem seqDc_ok (t u : Dc) (hb : t.bulk ≤ 1048576) : FnOk Tryz.prog 74 [encDc t, encDc u] (bl (eqb t u)) := by
  obtain ⟨h1, h2, h3, h4, h5, h6⟩ := t.parts_bulk
  exact seqDc1_ok t u (equalPms_ok 109 t.params u.params (by omega) fun i a b ha _ => eqPm_ok a b (seqTy_ok a.bound.size _ _ (Nat.le_refl _) (by have := h6 i a ha; omega)))
    (seqTy_ok t.lower.size _ _ (Nat.le_refl _) (by omega)) (seqTy_ok t.upper.size _ _ (Nat.le_refl _) (by omega)) (seqTy_ok t.type.size _ _ (Nat.le_refl _) (by omega)) (seqEx_ok t.expr.bulk _ _ (Nat.le_refl _) (by omega))
theorem reqDc_ok (t u : Dc) (hb : t.bulk ≤ 1048576) : FnOk Tryz.prog 75 [encDc t, encDc u] (bl (eqb t u)) := by
  obtain ⟨h1, h2, h3, h4, h5, h6⟩ := t.parts_bulk
  exact reqDc1_ok t u (rpms_ok t.params u.params (by omega) fun i a b ha _ => reqTy_ok a.bound.size _ _ (Nat.le_refl _) (by have := h6 i a ha; omega))
    (reqTy_ok t.lower.size _ _ (Nat.le_refl _) (by omega)) (reqTy_ok t.upper.size _ _ (Nat.le_refl _) (by omega)) (reqTy_ok t.type.size _ _ (Nat.le_refl _) (by omega)) (reqEx_ok t.expr.bulk _ _ (Nat.le_refl _) (by omega))
theorem seqMd_ok (t u : Md) (hb : t.bulk ≤ 1048576) : FnOk Tryz.prog 30 [encMd t, encMd u] (bl (eqb t u)) := by
  unfold Md.bulk at hb
  have hdl := length_le_sum Dc.bulk Dc.bulk_pos t.decls
  exact seqMd1_ok t u (equalIms_ok t.imports u.imports (by omega)) (equalDcs_ok 74 t.decls u.decls (by omega) fun i a b ha _ => seqDc_ok a b (by have := sumBy_mem Dc.bulk ha; omega))
theorem reqMd_ok (t u : Md) (hb : t.bulk ≤ 1048576) : FnOk Tryz.prog 31 [encMd t, encMd u] (bl (eqb t u)) := by
  unfold Md.bulk at hb
  have hdl := length_le_sum Dc.bulk Dc.bulk_pos t.decls
  exact reqMd1_ok t u (by omega) (by omega) fun i a b ha _ => reqDc_ok a b (by have := sumBy_mem Dc.bulk ha; omega)
end Go.Proofs.YtpjdfcigadnhcaaGreatDoor
end

section
namespace Go.Proofs.YtpjdfcigadnhcaaGreatDoor
open Go.Eng
variable [Glob]
set_option maxHeartbeats 4000000
set_option maxRecDepth 100000
attribute [local irreducible] runM stepM valD stepOp
theorem equals_ok (haw : FnOk Tryz.prog 10 [] (bl true)) (t u : Ty) (e f : Ex) (m n : Md) (ht : t.size ≤ 1048576) (hu : u.size ≤ 1048576) (he : e.bulk ≤ 1048576) (hf : f.bulk ≤ 1048576) (hm : m.bulk ≤ 1048576) (hn : n.bulk ≤ 1048576) :
    FnOk Tryz.prog 6 [encTy t, encTy u, encEx e, encEx f, encMd m, encMd n] (bl true) := by
  have hF := fewTypes_ok 2000 [t, u] (fun x hx => by simp only [List.mem_cons, List.not_mem_nil, or_false] at hx; rcases hx with rfl | rfl <;> assumption) (by simp)
  have hEe := esize_ok e.bulk e (Nat.le_refl _) he
  have hEf := esize_ok f.bulk f (Nat.le_refl _) hf
  have hMm := rmsize_ok m hm
  have hMn := rmsize_ok n hn
  have q1 := seqTy_ok t.size t u (Nat.le_refl _) ht
  have q2 := reqTy_ok t.size t u (Nat.le_refl _) ht
  have q3 := seqEx_ok e.bulk e f (Nat.le_refl _) he
  have q4 := reqEx_ok e.bulk e f (Nat.le_refl _) he
  have q5 := seqMd_ok m n hm
  have q6 := reqMd_ok m n hm
  simp only [encTys, encTy_eq, encEx_eq, encMd_eq, tyCells, exCells, mdCells] at hF hEe hEf hMm hMn q1 q2 q3 q4 q5 q6
  refine fn_ok tt_ok (fn := Tryz.f6) Tryz.func6 rfl Tryz.call6 ?_
  simp only [startSt, Tryz.ntmps6, List.length_cons, List.length_nil, Nat.reduceAdd, Nat.reduceSub, List.replicate_succ, List.replicate_zero, List.cons_append, List.nil_append]
  have hT : Tryz.prog.underlying 4 = some .bool := by kernel_rfl
  have hbe := fun x y => ev_beql (P := Tryz.prog) (T := 4) x y hT
  simp only [encTy_eq, encEx_eq, encMd_eq, tyCells, exCells, mdCells]
  refine tri_seq_region_w tt_ok 61 [0, 0, 0, 0, 0, 0, 2, 2, 2, 2, 2, 2, 2] [] (by kernel_rfl) (by kernel_rfl) fun K hK => ?_
  try simp only
  simp only [stepOp, opV, St.eval, St.put, absV, cellsV, oneV, List.all_cons, List.all_nil, Bool.and_self, Value.oneCell', if_true, if_false, setMem, List.length_cons, List.length_nil, Nat.lt_irrefl, List.nil_append, List.cons_append, List.getD_cons_zero, List.getD_cons_succ, Nat.zero_add, Nat.reduceAdd, Nat.reduceLT, Nat.reduceEqDiff, runOpsW, wantedW, wr_set, wr_getD, lkF]
  refine hK _ _ (by kernel_rfl) ?_
  clear hK K
  simp only [mkW, lkF, Nat.reduceAdd, Nat.reduceEqDiff, if_true, if_false]
  refine tri_seq ?_
  refine tri_seq_region_w tt_ok 61 [0, 0, 0, 0, 0, 0, 0, 0, 0, 0, 0, 0, 0, 1, 2] [] (by kernel_rfl) (by kernel_rfl) fun K hK => ?_
  try simp only
  simp only [stepOp, opV, St.eval, St.put, List.length_cons, List.length_nil, List.append_nil, List.map_nil, Nat.zero_add, Nat.reduceAdd, calleeOf, runOpsW, wantedW]
  refine .inl ⟨_, _, by simp only [purL], haw, ?_⟩
  try simp only [St.put, if_true, List.getD_cons_zero, List.getD_cons_succ, Nat.reduceLT, ev_not, Bool.not_true, memAfter_nil, List.flatMap_nil, wr_set, wr_getD, lkF]
  refine hK _ _ (by kernel_rfl) ?_
  clear hK K
  simp only [mkW, lkF, Nat.reduceAdd, Nat.reduceEqDiff, if_true, if_false]
  refine tri_cond rfl (tri_skip ?_)
  refine tri_seq ?_
  cases c1 : decide ((sumBy Ty.size [t, u] : Int) ≤ 2000) with
  | false =>
    rw [c1] at hF
    refine tri_seq_mixed_w tt_ok mixed_ok 61 [0, 0, 0, 0, 0, 0, 0, 0, 0, 0, 0, 0, 0, 0, 0, 1, 1, 1, 1, 1, 1, 1, 1, 1, 1, 1, 1, 1, 1, 1, 1, 1, 1, 1, 1, 2] (by kernel_rfl) [⟨.r, 0, [], []⟩, ⟨.r, 0, [], []⟩, ⟨.n, 0, [], []⟩, ⟨.n, 0, [], []⟩, ⟨.n, 0, [], []⟩, ⟨.n, 0, [], []⟩, ⟨.r, 0, [], []⟩, ⟨.n, 0, [], []⟩, ⟨.r, 0, [], []⟩, ⟨.n, 0, [], []⟩, ⟨.n, 0, [], []⟩, ⟨.n, 0, [], []⟩, ⟨.n, 0, [], []⟩, ⟨.n, 0, [], []⟩, ⟨.r, 0, [], []⟩, ⟨.n, 0, [], []⟩, ⟨.r, 0, [], []⟩, ⟨.n, 0, [], []⟩, ⟨.n, 0, [], []⟩, ⟨.n, 0, [], []⟩, ⟨.n, 0, [], []⟩] 0 (by kernel_rfl) fun K hK => ?_
    refine runM_cut 4 (by simp) (by simp) fun K1 hK1 => ?_
    simp only [wantedV, opV, St.eval, St.put, absV, cellsV, oneV, List.all_cons, List.all_nil, Bool.and_self, Value.oneCell', if_true, if_false, List.length_cons, List.length_nil, List.nil_append, List.append_nil, List.getD_cons_zero, List.getD_cons_succ, litV, tElem, tSize, seqParts, litRows, List.map_nil, List.map_cons, loadV, pickCells, List.drop_zero, List.take_succ_cons, List.take_zero, List.getElem?_cons_zero, List.getElem?_cons_succ, List.head?_cons, Nat.zero_add, Nat.reduceAdd, Nat.reduceLT, Nat.reduceLeDiff, Nat.reduceMul, Nat.reduceEqDiff, Nat.le_refl, and_self, V.cells, calleeOf, beq_self_eq_true, pureCell, rowV, nilS, rowOf, tt22, tt25, wr_set, wr_getD, lkF, runM, List.drop_zero, stepM, valD, val1, maskB, List.replicate, Nat.reduceAdd]
    refine ⟨_, _, by simp only [purL, pur1, purCell, nilS], .inl (hF), ?_⟩
    try simp only [St.put, wr_set]
    refine hK1 _ ?_
    clear hK1 K1
    refine runM_cut 6 (by simp) (by simp) fun K1 hK1 => ?_
    simp only [wantedV, opV, St.eval, St.put, if_true, if_false, List.length_cons, List.length_nil, List.nil_append, List.append_nil, List.getD_cons_zero, List.getD_cons_succ, List.map_nil, List.map_cons, loadV, pickCells, List.drop_zero, List.drop_succ_cons, List.take_succ_cons, List.take_zero, List.getElem?_cons_zero, List.getElem?_cons_succ, Nat.zero_add, Nat.reduceAdd, Nat.reduceLT, Nat.reduceEqDiff, ev_not, V.cells, calleeOf, Option.bind_some, List.getElem?_toArray, Bool.not_false, rowOf, ev_tf, tt29, wr_set, wr_getD, wr_get, lkF, runM, List.drop_succ_cons, List.drop_zero, stepM, valD, val1, maskB, Nat.reduceAdd]
    refine hK1 _ ?_
    clear hK1 K1
    refine runM_cut 6 (by simp) (by simp) fun K1 hK1 => ?_
    simp only [wantedV, opV, St.eval, St.put, absV, if_true, if_false, List.length_cons, List.length_nil, List.nil_append, List.append_nil, List.getD_cons_zero, List.getD_cons_succ, List.map_nil, List.map_cons, loadV, pickCells, List.drop_zero, List.drop_succ_cons, List.take_succ_cons, List.take_zero, List.getElem?_cons_zero, List.getElem?_cons_succ, Nat.zero_add, Nat.reduceAdd, Nat.reduceLT, Nat.reduceEqDiff, V.cells, calleeOf, Option.bind_some, List.getElem?_toArray, rowOf, ev_tf, gnCmp, tt33, wr_set, wr_getD, wr_get, lkF, runM, List.drop_succ_cons, List.drop_zero, stepM, valD, val1, maskB, Nat.reduceAdd]
    refine hK1 _ ?_
    clear hK1 K1
    simp only [wantedV, opV, St.eval, St.put, absV, if_true, if_false, List.length_cons, List.length_nil, List.nil_append, List.append_nil, List.getD_cons_zero, List.getD_cons_succ, List.map_nil, List.map_cons, List.drop_zero, List.drop_succ_cons, List.getElem?_cons_zero, List.getElem?_cons_succ, Nat.zero_add, Nat.reduceAdd, Nat.reduceLT, Nat.reduceEqDiff, calleeOf, Option.bind_some, List.getElem?_toArray, ev_tf, gnCmp, wr_set, wr_getD, wr_get, lkF, runM, List.drop_succ_cons, List.drop_zero, stepM, valD, val1, Nat.reduceAdd]
    refine hK _ _ (by kernel_rfl) ?_
    clear hK K
    simp only [mkW, lkF, Nat.reduceAdd, Nat.reduceEqDiff, if_true, if_false]
    refine tri_cond rfl ?_
    refine tri_seq_region_w tt_ok 61 [0, 0, 0, 0, 0, 0, 0, 0, 0, 0, 0, 0, 2] [] (by kernel_rfl) (by kernel_rfl) fun K hK => ?_
    try simp only
    simp only [stepOp, opV, St.eval, St.put, absV, List.length_cons, List.length_nil, Nat.zero_add, Nat.reduceAdd, runOpsW, wantedW, wr_set]
    refine hK _ _ (by kernel_rfl) ?_
    clear hK K
    simp only [mkW, lkF, Nat.reduceAdd, if_true]
    exact tri_ret ⟨.inl rfl, rfl⟩
  | true =>
    rw [c1] at hF
    cases c2 : decide ((IntKind.i64.wrap ((e.size : Int) + (f.size : Int))) > 2000) with
    | true =>
      refine tri_seq_mixed_w tt_ok mixed_ok 61 [0, 0, 0, 0, 0, 0, 0, 0, 0, 0, 0, 0, 0, 0, 0, 1, 1, 1, 1, 1, 1, 1, 1, 1, 1, 1, 1, 1, 1, 1, 1, 1, 1, 1, 1, 2] (by kernel_rfl) [⟨.r, 0, [], []⟩, ⟨.r, 0, [], []⟩, ⟨.n, 0, [], []⟩, ⟨.n, 0, [], []⟩, ⟨.n, 0, [], []⟩, ⟨.n, 0, [], []⟩, ⟨.r, 0, [], []⟩, ⟨.n, 0, [], []⟩, ⟨.r, 0, [], []⟩, ⟨.n, 0, [], []⟩, ⟨.n, 0, [], []⟩, ⟨.n, 0, [], []⟩, ⟨.n, 0, [], []⟩, ⟨.n, 0, [], []⟩, ⟨.r, 0, [], []⟩, ⟨.n, 0, [], []⟩, ⟨.r, 0, [], []⟩, ⟨.n, 0, [], []⟩, ⟨.n, 0, [], []⟩, ⟨.n, 0, [], []⟩, ⟨.n, 0, [], []⟩] 0 (by kernel_rfl) fun K hK => ?_
      refine runM_cut 6 (by simp) (by simp) fun K1 hK1 => ?_
      simp only [wantedV, opV, St.eval, St.put, absV, cellsV, oneV, List.all_cons, List.all_nil, Bool.and_self, Value.oneCell', if_true, if_false, List.length_cons, List.length_nil, List.nil_append, List.append_nil, List.getD_cons_zero, List.getD_cons_succ, litV, tElem, tSize, seqParts, litRows, List.map_nil, List.map_cons, loadV, pickCells, List.drop_zero, List.take_succ_cons, List.take_zero, List.getElem?_cons_zero, List.getElem?_cons_succ, List.head?_cons, Nat.zero_add, Nat.reduceAdd, Nat.reduceLT, Nat.reduceLeDiff, Nat.reduceMul, Nat.reduceEqDiff, Nat.le_refl, and_self, V.cells, calleeOf, beq_self_eq_true, pureCell, rowV, nilS, rowOf, tt22, tt25, wr_set, wr_getD, lkF, runM, List.drop_zero, stepM, valD, val1, maskB, List.replicate, Nat.reduceAdd]
      refine ⟨_, _, by simp only [purL, pur1, purCell, nilS], .inl (hF), ?_⟩
      try simp only [St.put, if_true, if_false, List.getD_cons_zero, List.getD_cons_succ, Nat.reduceLT, Nat.reduceEqDiff, ev_not, Bool.not_true, wr_set, wr_getD, lkF]
      refine hK1 _ ?_
      clear hK1 K1
      refine runM_cut 4 (by simp) (by simp) fun K1 hK1 => ?_
      simp only [wantedV, opV, St.eval, St.put, if_true, if_false, List.length_cons, List.length_nil, List.nil_append, List.append_nil, List.getD_cons_zero, List.getD_cons_succ, List.map_nil, List.map_cons, loadV, pickCells, List.drop_zero, List.drop_succ_cons, List.take_succ_cons, List.take_zero, List.getElem?_cons_zero, List.getElem?_cons_succ, List.head?_cons, Nat.zero_add, Nat.reduceAdd, Nat.reduceLT, Nat.reduceEqDiff, Nat.le_refl, V.cells, calleeOf, Option.bind_some, List.getElem?_toArray, beq_self_eq_true, rowOf, tt29, wr_set, wr_getD, wr_get, lkF, runM, List.drop_succ_cons, List.drop_zero, stepM, valD, val1, maskB, Nat.reduceAdd]
      refine ⟨_, _, by simp only [purL, pur1, purCells, purCell, nilS], .inl (hEe), ?_⟩
      try simp only [St.put, if_true, if_false, List.length_cons, List.length_nil, List.getD_cons_zero, List.getD_cons_succ, List.drop_zero, List.take_succ_cons, List.take_zero, List.getElem?_cons_zero, List.getElem?_cons_succ, Nat.zero_add, Nat.reduceAdd, Nat.reduceLT, Nat.reduceEqDiff, Nat.le_refl, beq_self_eq_true, wr_set, wr_getD, wr_get, lkF, List.drop_zero, Nat.reduceAdd]
      refine ⟨_, _, by simp only [purL, pur1, purCells, purCell, nilS], .inl (hEf), ?_⟩
      try simp only [St.put, wr_set]
      refine hK1 _ ?_
      clear hK1 K1
      refine runM_cut 4 (by simp) (by simp) fun K1 hK1 => ?_
      simp only [c2, wantedV, opV, St.eval, St.put, absV, if_true, if_false, List.length_cons, List.length_nil, List.getD_cons_zero, List.getD_cons_succ, List.drop_zero, List.drop_succ_cons, List.take_succ_cons, List.take_zero, List.getElem?_cons_zero, List.getElem?_cons_succ, Nat.zero_add, Nat.reduceAdd, Nat.reduceLT, Nat.reduceEqDiff, Bool.false_eq_true, ev_add, ev_gtr, Option.bind_some, List.getElem?_toArray, beq_self_eq_true, gnCmp, wr_set, wr_getD, wr_get, lkF, runM, List.drop_succ_cons, List.drop_zero, stepM, valD, val1, Nat.reduceAdd]
      refine hK1 _ ?_
      clear hK1 K1
      simp only [wantedV, opV, St.eval, St.put, absV, if_true, if_false, List.length_cons, List.length_nil, List.nil_append, List.append_nil, List.getD_cons_zero, List.getD_cons_succ, List.map_nil, List.map_cons, loadV, pickCells, List.drop_zero, List.drop_succ_cons, List.getElem?_cons_zero, List.getElem?_cons_succ, Nat.zero_add, Nat.reduceAdd, Nat.reduceLT, Nat.reduceEqDiff, V.cells, calleeOf, Option.bind_some, List.getElem?_toArray, rowOf, ev_tf, gnCmp, tt33, wr_set, wr_getD, wr_get, lkF, runM, List.drop_succ_cons, List.drop_zero, stepM, valD, val1, maskB, Nat.reduceAdd]
      refine hK _ _ (by kernel_rfl) ?_
      clear hK K
      simp only [mkW, lkF, Nat.reduceAdd, Nat.reduceEqDiff, if_true, if_false]
      refine tri_cond rfl ?_
      refine tri_seq_region_w tt_ok 61 [0, 0, 0, 0, 0, 0, 0, 0, 0, 0, 0, 0, 2] [] (by kernel_rfl) (by kernel_rfl) fun K hK => ?_
      try simp only
      simp only [stepOp, opV, St.eval, St.put, absV, List.length_cons, List.length_nil, Nat.zero_add, Nat.reduceAdd, runOpsW, wantedW, wr_set]
      refine hK _ _ (by kernel_rfl) ?_
      clear hK K
      simp only [mkW, lkF, Nat.reduceAdd, if_true]
      exact tri_ret ⟨.inl rfl, rfl⟩
    | false =>
      cases c3 : decide ((IntKind.i64.wrap ((m.size : Int) + (n.size : Int))) > 2000) with
      | true =>
        refine tri_seq_mixed_w tt_ok mixed_ok 61 [0, 0, 0, 0, 0, 0, 0, 0, 0, 0, 0, 0, 0, 0, 0, 1, 1, 1, 1, 1, 1, 1, 1, 1, 1, 1, 1, 1, 1, 1, 1, 1, 1, 1, 1, 2] (by kernel_rfl) [⟨.r, 0, [], []⟩, ⟨.r, 0, [], []⟩, ⟨.n, 0, [], []⟩, ⟨.n, 0, [], []⟩, ⟨.n, 0, [], []⟩, ⟨.n, 0, [], []⟩, ⟨.r, 0, [], []⟩, ⟨.n, 0, [], []⟩, ⟨.r, 0, [], []⟩, ⟨.n, 0, [], []⟩, ⟨.n, 0, [], []⟩, ⟨.n, 0, [], []⟩, ⟨.n, 0, [], []⟩, ⟨.n, 0, [], []⟩, ⟨.r, 0, [], []⟩, ⟨.n, 0, [], []⟩, ⟨.r, 0, [], []⟩, ⟨.n, 0, [], []⟩, ⟨.n, 0, [], []⟩, ⟨.n, 0, [], []⟩, ⟨.n, 0, [], []⟩] 0 (by kernel_rfl) fun K hK => ?_
        refine runM_cut 6 (by simp) (by simp) fun K1 hK1 => ?_
        simp only [wantedV, opV, St.eval, St.put, absV, cellsV, oneV, List.all_cons, List.all_nil, Bool.and_self, Value.oneCell', if_true, if_false, List.length_cons, List.length_nil, List.nil_append, List.append_nil, List.getD_cons_zero, List.getD_cons_succ, litV, tElem, tSize, seqParts, litRows, List.map_nil, List.map_cons, loadV, pickCells, List.drop_zero, List.take_succ_cons, List.take_zero, List.getElem?_cons_zero, List.getElem?_cons_succ, List.head?_cons, Nat.zero_add, Nat.reduceAdd, Nat.reduceLT, Nat.reduceLeDiff, Nat.reduceMul, Nat.reduceEqDiff, Nat.le_refl, and_self, V.cells, calleeOf, beq_self_eq_true, pureCell, rowV, nilS, rowOf, tt22, tt25, wr_set, wr_getD, lkF, runM, List.drop_zero, stepM, valD, val1, maskB, List.replicate, Nat.reduceAdd]
        refine ⟨_, _, by simp only [purL, pur1, purCell, nilS], .inl (hF), ?_⟩
        try simp only [St.put, if_true, if_false, List.getD_cons_zero, List.getD_cons_succ, Nat.reduceLT, Nat.reduceEqDiff, ev_not, Bool.not_true, wr_set, wr_getD, lkF]
        refine hK1 _ ?_
        clear hK1 K1
        refine runM_cut 4 (by simp) (by simp) fun K1 hK1 => ?_
        simp only [wantedV, opV, St.eval, St.put, if_true, if_false, List.length_cons, List.length_nil, List.nil_append, List.append_nil, List.getD_cons_zero, List.getD_cons_succ, List.map_nil, List.map_cons, loadV, pickCells, List.drop_zero, List.drop_succ_cons, List.take_succ_cons, List.take_zero, List.getElem?_cons_zero, List.getElem?_cons_succ, List.head?_cons, Nat.zero_add, Nat.reduceAdd, Nat.reduceLT, Nat.reduceEqDiff, Nat.le_refl, V.cells, calleeOf, Option.bind_some, List.getElem?_toArray, beq_self_eq_true, rowOf, tt29, wr_set, wr_getD, wr_get, lkF, runM, List.drop_succ_cons, List.drop_zero, stepM, valD, val1, maskB, Nat.reduceAdd]
        refine ⟨_, _, by simp only [purL, pur1, purCells, purCell, nilS], .inl (hEe), ?_⟩
        try simp only [St.put, if_true, if_false, List.length_cons, List.length_nil, List.getD_cons_zero, List.getD_cons_succ, List.drop_zero, List.take_succ_cons, List.take_zero, List.getElem?_cons_zero, List.getElem?_cons_succ, Nat.zero_add, Nat.reduceAdd, Nat.reduceLT, Nat.reduceEqDiff, Nat.le_refl, beq_self_eq_true, wr_set, wr_getD, wr_get, lkF, List.drop_zero, Nat.reduceAdd]
        refine ⟨_, _, by simp only [purL, pur1, purCells, purCell, nilS], .inl (hEf), ?_⟩
        try simp only [St.put, wr_set]
        refine hK1 _ ?_
        clear hK1 K1
        refine runM_cut 4 (by simp) (by simp) fun K1 hK1 => ?_
        simp only [c2, wantedV, opV, St.eval, St.put, absV, if_true, if_false, List.length_cons, List.length_nil, List.getD_cons_zero, List.getD_cons_succ, List.drop_zero, List.drop_succ_cons, List.take_succ_cons, List.take_zero, List.getElem?_cons_zero, List.getElem?_cons_succ, Nat.zero_add, Nat.reduceAdd, Nat.reduceLT, Nat.reduceEqDiff, Bool.false_eq_true, ev_add, ev_gtr, Option.bind_some, List.getElem?_toArray, beq_self_eq_true, gnCmp, wr_set, wr_getD, wr_get, lkF, runM, List.drop_succ_cons, List.drop_zero, stepM, valD, val1, Nat.reduceAdd]
        refine hK1 _ ?_
        clear hK1 K1
        refine runM_cut 4 (by simp) (by simp) fun K1 hK1 => ?_
        simp only [wantedV, opV, St.eval, St.put, if_true, if_false, List.length_cons, List.length_nil, List.nil_append, List.append_nil, List.getD_cons_zero, List.getD_cons_succ, List.map_nil, List.map_cons, loadV, pickCells, List.drop_zero, List.drop_succ_cons, List.take_succ_cons, List.take_zero, List.getElem?_cons_zero, List.getElem?_cons_succ, List.head?_cons, Nat.zero_add, Nat.reduceAdd, Nat.reduceLT, Nat.reduceEqDiff, Nat.le_refl, V.cells, calleeOf, Option.bind_some, List.getElem?_toArray, beq_self_eq_true, rowOf, tt33, wr_set, wr_getD, wr_get, lkF, runM, List.drop_succ_cons, List.drop_zero, stepM, valD, val1, maskB, Nat.reduceAdd]
        refine ⟨_, _, by simp only [purL, pur1, purCells, purCell, nilS], .inl (hMm), ?_⟩
        try simp only [St.put, if_true, if_false, List.length_cons, List.length_nil, List.getD_cons_zero, List.getD_cons_succ, List.drop_zero, List.take_succ_cons, List.take_zero, List.getElem?_cons_zero, List.getElem?_cons_succ, Nat.zero_add, Nat.reduceAdd, Nat.reduceLT, Nat.reduceEqDiff, Nat.le_refl, beq_self_eq_true, wr_set, wr_getD, wr_get, lkF, List.drop_zero, Nat.reduceAdd]
        refine ⟨_, _, by simp only [purL, pur1, purCells, purCell, nilS], .inl (hMn), ?_⟩
        try simp only [St.put, wr_set]
        refine hK1 _ ?_
        clear hK1 K1
        simp only [c3, wantedV, opV, St.eval, St.put, absV, if_true, if_false, List.length_cons, List.length_nil, List.getD_cons_zero, List.getD_cons_succ, List.drop_zero, List.drop_succ_cons, List.getElem?_cons_zero, List.getElem?_cons_succ, Nat.zero_add, Nat.reduceAdd, Nat.reduceLT, Nat.reduceEqDiff, Bool.false_eq_true, ev_add, ev_gtr, Option.bind_some, List.getElem?_toArray, beq_self_eq_true, gnCmp, wr_set, wr_getD, wr_get, lkF, runM, List.drop_succ_cons, List.drop_zero, stepM, valD, val1, Nat.reduceAdd]
        refine hK _ _ (by kernel_rfl) ?_
        clear hK K
        simp only [mkW, lkF, Nat.reduceAdd, Nat.reduceEqDiff, if_true, if_false]
        refine tri_cond rfl ?_
        refine tri_seq_region_w tt_ok 61 [0, 0, 0, 0, 0, 0, 0, 0, 0, 0, 0, 0, 2] [] (by kernel_rfl) (by kernel_rfl) fun K hK => ?_
        try simp only
        simp only [stepOp, opV, St.eval, St.put, absV, List.length_cons, List.length_nil, Nat.zero_add, Nat.reduceAdd, runOpsW, wantedW, wr_set]
        refine hK _ _ (by kernel_rfl) ?_
        clear hK K
        simp only [mkW, lkF, Nat.reduceAdd, if_true]
        exact tri_ret ⟨.inl rfl, rfl⟩
      | false =>
        refine tri_seq_mixed_w tt_ok mixed_ok 61 [0, 0, 0, 0, 0, 0, 0, 0, 0, 0, 0, 0, 0, 0, 0, 1, 1, 1, 1, 1, 1, 1, 1, 1, 1, 1, 1, 1, 1, 1, 1, 1, 1, 1, 1, 2] (by kernel_rfl) [⟨.r, 0, [], []⟩, ⟨.r, 0, [], []⟩, ⟨.n, 0, [], []⟩, ⟨.n, 0, [], []⟩, ⟨.n, 0, [], []⟩, ⟨.n, 0, [], []⟩, ⟨.r, 0, [], []⟩, ⟨.n, 0, [], []⟩, ⟨.r, 0, [], []⟩, ⟨.n, 0, [], []⟩, ⟨.n, 0, [], []⟩, ⟨.n, 0, [], []⟩, ⟨.n, 0, [], []⟩, ⟨.n, 0, [], []⟩, ⟨.r, 0, [], []⟩, ⟨.n, 0, [], []⟩, ⟨.r, 0, [], []⟩, ⟨.n, 0, [], []⟩, ⟨.n, 0, [], []⟩, ⟨.n, 0, [], []⟩, ⟨.n, 0, [], []⟩] 0 (by kernel_rfl) fun K hK => ?_
        refine runM_cut 6 (by simp) (by simp) fun K1 hK1 => ?_
        simp only [wantedV, opV, St.eval, St.put, absV, cellsV, oneV, List.all_cons, List.all_nil, Bool.and_self, Value.oneCell', if_true, if_false, List.length_cons, List.length_nil, List.nil_append, List.append_nil, List.getD_cons_zero, List.getD_cons_succ, litV, tElem, tSize, seqParts, litRows, List.map_nil, List.map_cons, loadV, pickCells, List.drop_zero, List.take_succ_cons, List.take_zero, List.getElem?_cons_zero, List.getElem?_cons_succ, List.head?_cons, Nat.zero_add, Nat.reduceAdd, Nat.reduceLT, Nat.reduceLeDiff, Nat.reduceMul, Nat.reduceEqDiff, Nat.le_refl, and_self, V.cells, calleeOf, beq_self_eq_true, pureCell, rowV, nilS, rowOf, tt22, tt25, wr_set, wr_getD, lkF, runM, List.drop_zero, stepM, valD, val1, maskB, List.replicate, Nat.reduceAdd]
        refine ⟨_, _, by simp only [purL, pur1, purCell, nilS], .inl (hF), ?_⟩
        try simp only [St.put, if_true, if_false, List.getD_cons_zero, List.getD_cons_succ, Nat.reduceLT, Nat.reduceEqDiff, ev_not, Bool.not_true, wr_set, wr_getD, lkF]
        refine hK1 _ ?_
        clear hK1 K1
        refine runM_cut 4 (by simp) (by simp) fun K1 hK1 => ?_
        simp only [wantedV, opV, St.eval, St.put, if_true, if_false, List.length_cons, List.length_nil, List.nil_append, List.append_nil, List.getD_cons_zero, List.getD_cons_succ, List.map_nil, List.map_cons, loadV, pickCells, List.drop_zero, List.drop_succ_cons, List.take_succ_cons, List.take_zero, List.getElem?_cons_zero, List.getElem?_cons_succ, List.head?_cons, Nat.zero_add, Nat.reduceAdd, Nat.reduceLT, Nat.reduceEqDiff, Nat.le_refl, V.cells, calleeOf, Option.bind_some, List.getElem?_toArray, beq_self_eq_true, rowOf, tt29, wr_set, wr_getD, wr_get, lkF, runM, List.drop_succ_cons, List.drop_zero, stepM, valD, val1, maskB, Nat.reduceAdd]
        refine ⟨_, _, by simp only [purL, pur1, purCells, purCell, nilS], .inl (hEe), ?_⟩
        try simp only [St.put, if_true, if_false, List.length_cons, List.length_nil, List.getD_cons_zero, List.getD_cons_succ, List.drop_zero, List.take_succ_cons, List.take_zero, List.getElem?_cons_zero, List.getElem?_cons_succ, Nat.zero_add, Nat.reduceAdd, Nat.reduceLT, Nat.reduceEqDiff, Nat.le_refl, beq_self_eq_true, wr_set, wr_getD, wr_get, lkF, List.drop_zero, Nat.reduceAdd]
        refine ⟨_, _, by simp only [purL, pur1, purCells, purCell, nilS], .inl (hEf), ?_⟩
        try simp only [St.put, wr_set]
        refine hK1 _ ?_
        clear hK1 K1
        refine runM_cut 4 (by simp) (by simp) fun K1 hK1 => ?_
        simp only [c2, wantedV, opV, St.eval, St.put, absV, if_true, if_false, List.length_cons, List.length_nil, List.getD_cons_zero, List.getD_cons_succ, List.drop_zero, List.drop_succ_cons, List.take_succ_cons, List.take_zero, List.getElem?_cons_zero, List.getElem?_cons_succ, Nat.zero_add, Nat.reduceAdd, Nat.reduceLT, Nat.reduceEqDiff, Bool.false_eq_true, ev_add, ev_gtr, Option.bind_some, List.getElem?_toArray, beq_self_eq_true, gnCmp, wr_set, wr_getD, wr_get, lkF, runM, List.drop_succ_cons, List.drop_zero, stepM, valD, val1, Nat.reduceAdd]
        refine hK1 _ ?_
        clear hK1 K1
        refine runM_cut 4 (by simp) (by simp) fun K1 hK1 => ?_
        simp only [wantedV, opV, St.eval, St.put, if_true, if_false, List.length_cons, List.length_nil, List.nil_append, List.append_nil, List.getD_cons_zero, List.getD_cons_succ, List.map_nil, List.map_cons, loadV, pickCells, List.drop_zero, List.drop_succ_cons, List.take_succ_cons, List.take_zero, List.getElem?_cons_zero, List.getElem?_cons_succ, List.head?_cons, Nat.zero_add, Nat.reduceAdd, Nat.reduceLT, Nat.reduceEqDiff, Nat.le_refl, V.cells, calleeOf, Option.bind_some, List.getElem?_toArray, beq_self_eq_true, rowOf, tt33, wr_set, wr_getD, wr_get, lkF, runM, List.drop_succ_cons, List.drop_zero, stepM, valD, val1, maskB, Nat.reduceAdd]
        refine ⟨_, _, by simp only [purL, pur1, purCells, purCell, nilS], .inl (hMm), ?_⟩
        try simp only [St.put, if_true, if_false, List.length_cons, List.length_nil, List.getD_cons_zero, List.getD_cons_succ, List.drop_zero, List.take_succ_cons, List.take_zero, List.getElem?_cons_zero, List.getElem?_cons_succ, Nat.zero_add, Nat.reduceAdd, Nat.reduceLT, Nat.reduceEqDiff, Nat.le_refl, beq_self_eq_true, wr_set, wr_getD, wr_get, lkF, List.drop_zero, Nat.reduceAdd]
        refine ⟨_, _, by simp only [purL, pur1, purCells, purCell, nilS], .inl (hMn), ?_⟩
        try simp only [St.put, wr_set]
        refine hK1 _ ?_
        clear hK1 K1
        simp only [c3, wantedV, opV, St.eval, St.put, absV, if_true, if_false, List.length_cons, List.length_nil, List.getD_cons_zero, List.getD_cons_succ, List.drop_zero, List.drop_succ_cons, List.getElem?_cons_zero, List.getElem?_cons_succ, Nat.zero_add, Nat.reduceAdd, Nat.reduceLT, Nat.reduceEqDiff, Bool.false_eq_true, ev_add, ev_gtr, Option.bind_some, List.getElem?_toArray, beq_self_eq_true, gnCmp, wr_set, wr_getD, wr_get, lkF, runM, List.drop_succ_cons, List.drop_zero, stepM, valD, val1, Nat.reduceAdd]
        refine hK _ _ (by kernel_rfl) ?_
        clear hK K
        simp only [mkW, lkF, Nat.reduceAdd, Nat.reduceEqDiff, if_true, if_false]
        refine tri_cond rfl (tri_skip ?_)
        show Tri _ _ _ _ _ _
        refine tri_seq_mixed_w tt_ok mixed_ok 61 [0, 0, 0, 0, 0, 0, 0, 0, 0, 0, 0, 0, 2, 0, 0, 0, 0, 0, 0, 0, 0, 0, 0, 0, 0, 0, 0, 0, 0, 0, 0, 0, 0, 0, 0, 0, 1, 1, 1, 1, 1, 1, 1, 1, 1, 1, 1, 1, 1, 1, 1, 1, 1, 1, 1, 1, 1, 1, 1, 1, 1] (by kernel_rfl) [⟨.r, 0, [], []⟩, ⟨.r, 0, [], []⟩, ⟨.n, 0, [], []⟩, ⟨.r, 0, [], []⟩, ⟨.r, 0, [], []⟩, ⟨.n, 0, [], []⟩, ⟨.n, 0, [], []⟩, ⟨.n, 0, [], []⟩, ⟨.r, 0, [], []⟩, ⟨.r, 0, [], []⟩, ⟨.n, 0, [], []⟩, ⟨.r, 0, [], []⟩, ⟨.r, 0, [], []⟩, ⟨.n, 0, [], []⟩, ⟨.n, 0, [], []⟩, ⟨.n, 0, [], []⟩, ⟨.n, 0, [], []⟩, ⟨.r, 0, [], []⟩, ⟨.r, 0, [], []⟩, ⟨.n, 0, [], []⟩, ⟨.r, 0, [], []⟩, ⟨.r, 0, [], []⟩, ⟨.n, 0, [], []⟩, ⟨.n, 0, [], []⟩, ⟨.n, 0, [], []⟩, ⟨.n, 0, [], []⟩] 0 (by kernel_rfl) fun K hK => ?_
        refine runM_cut 3 (by simp) (by simp) fun K1 hK1 => ?_
        simp only [wantedV, opV, St.eval, St.put, if_true, if_false, List.length_cons, List.length_nil, List.nil_append, List.append_nil, List.getD_cons_zero, List.getD_cons_succ, List.map_nil, List.map_cons, loadV, pickCells, List.drop_zero, List.take_succ_cons, List.take_zero, List.getElem?_cons_zero, List.getElem?_cons_succ, List.head?_cons, Nat.zero_add, Nat.reduceAdd, Nat.reduceLT, Nat.reduceEqDiff, Nat.le_refl, V.cells, calleeOf, rowOf, tt25, wr_set, wr_getD, lkF, runM, List.drop_zero, stepM, valD, val1, maskB, List.replicate, Nat.reduceAdd]
        refine ⟨_, _, by simp only [purL, pur1, purCells, purCell, nilS], .inl (q1), ?_⟩
        try simp only [St.put, wr_set]
        refine hK1 _ ?_
        clear hK1 K1
        refine runM_cut 3 (by simp) (by simp) fun K1 hK1 => ?_
        simp only [wantedV, opV, St.eval, St.put, if_true, if_false, List.length_cons, List.length_nil, List.nil_append, List.append_nil, List.getD_cons_zero, List.getD_cons_succ, List.map_nil, List.map_cons, loadV, pickCells, List.drop_zero, List.drop_succ_cons, List.take_succ_cons, List.take_zero, List.getElem?_cons_zero, List.getElem?_cons_succ, List.head?_cons, Nat.zero_add, Nat.reduceAdd, Nat.reduceLT, Nat.reduceEqDiff, Nat.le_refl, V.cells, calleeOf, rowOf, tt25, wr_set, wr_getD, lkF, runM, List.drop_succ_cons, List.drop_zero, stepM, valD, val1, maskB, Nat.reduceAdd]
        refine ⟨_, _, by simp only [purL, pur1, purCells, purCell, nilS], .inl (q2), ?_⟩
        try simp only [St.put, wr_set]
        refine hK1 _ ?_
        clear hK1 K1
        refine runM_cut 5 (by simp) (by simp) fun K1 hK1 => ?_
        simp only [hbe, wantedV, opV, St.eval, St.put, if_true, if_false, List.length_cons, List.length_nil, List.nil_append, List.append_nil, List.getD_cons_zero, List.getD_cons_succ, List.map_nil, List.map_cons, loadV, pickCells, List.drop_zero, List.drop_succ_cons, List.take_succ_cons, List.take_zero, List.getElem?_cons_zero, List.getElem?_cons_succ, Nat.zero_add, Nat.reduceAdd, Nat.reduceLT, Nat.reduceEqDiff, Nat.le_refl, V.cells, calleeOf, Option.bind_some, List.getElem?_toArray, beq_self_eq_true, rowOf, gnCmp, tt29, wr_set, wr_getD, wr_get, lkF, runM, List.drop_succ_cons, List.drop_zero, stepM, valD, val1, maskB, Nat.reduceAdd]
        refine ⟨_, _, by simp only [purL, pur1, purCells, purCell, nilS], .inl (q3), ?_⟩
        try simp only [St.put, wr_set]
        refine hK1 _ ?_
        clear hK1 K1
        refine runM_cut 3 (by simp) (by simp) fun K1 hK1 => ?_
        simp only [wantedV, opV, St.eval, St.put, if_true, if_false, List.length_cons, List.length_nil, List.nil_append, List.append_nil, List.getD_cons_zero, List.getD_cons_succ, List.map_nil, List.map_cons, loadV, pickCells, List.drop_zero, List.drop_succ_cons, List.take_succ_cons, List.take_zero, List.getElem?_cons_zero, List.getElem?_cons_succ, List.head?_cons, Nat.zero_add, Nat.reduceAdd, Nat.reduceLT, Nat.reduceEqDiff, Nat.le_refl, V.cells, calleeOf, Option.bind_some, List.getElem?_toArray, beq_self_eq_true, rowOf, tt29, wr_set, wr_getD, wr_get, lkF, runM, List.drop_succ_cons, List.drop_zero, stepM, valD, val1, maskB, Nat.reduceAdd]
        refine ⟨_, _, by simp only [purL, pur1, purCells, purCell, nilS], .inl (q4), ?_⟩
        try simp only [St.put, wr_set]
        refine hK1 _ ?_
        clear hK1 K1
        refine runM_cut 6 (by simp) (by simp) fun K1 hK1 => ?_
        simp only [hbe, wantedV, opV, St.eval, St.put, absV, if_true, if_false, List.length_cons, List.length_nil, List.nil_append, List.append_nil, List.getD_cons_zero, List.getD_cons_succ, List.map_nil, List.map_cons, loadV, pickCells, List.drop_zero, List.drop_succ_cons, List.take_succ_cons, List.take_zero, List.getElem?_cons_zero, List.getElem?_cons_succ, Nat.zero_add, Nat.reduceAdd, Nat.reduceLT, Nat.reduceEqDiff, Nat.le_refl, V.cells, calleeOf, Option.bind_some, List.getElem?_toArray, beq_self_eq_true, rowOf, gnCmp, tt33, wr_set, wr_getD, wr_get, lkF, runM, List.drop_succ_cons, List.drop_zero, stepM, valD, val1, maskB, Nat.reduceAdd]
        refine ⟨_, _, by simp only [purL, pur1, purCells, purCell, nilS], .inl (q5), ?_⟩
        try simp only [St.put, wr_set]
        refine hK1 _ ?_
        clear hK1 K1
        refine runM_cut 3 (by simp) (by simp) fun K1 hK1 => ?_
        simp only [wantedV, opV, St.eval, St.put, if_true, if_false, List.length_cons, List.length_nil, List.nil_append, List.append_nil, List.getD_cons_zero, List.getD_cons_succ, List.map_nil, List.map_cons, loadV, pickCells, List.drop_zero, List.drop_succ_cons, List.take_succ_cons, List.take_zero, List.getElem?_cons_zero, List.getElem?_cons_succ, List.head?_cons, Nat.zero_add, Nat.reduceAdd, Nat.reduceLT, Nat.reduceEqDiff, Nat.le_refl, V.cells, calleeOf, Option.bind_some, List.getElem?_toArray, beq_self_eq_true, rowOf, tt33, wr_set, wr_getD, wr_get, lkF, runM, List.drop_succ_cons, List.drop_zero, stepM, valD, val1, maskB, Nat.reduceAdd]
        refine ⟨_, _, by simp only [purL, pur1, purCells, purCell, nilS], .inl (q6), ?_⟩
        try simp only [St.put, wr_set]
        refine hK1 _ ?_
        clear hK1 K1
        simp only [hbe, wantedV, opV, St.eval, St.put, absV, if_true, if_false, List.length_cons, List.length_nil, List.getD_cons_zero, List.getD_cons_succ, List.drop_zero, List.drop_succ_cons, List.getElem?_cons_zero, List.getElem?_cons_succ, Nat.zero_add, Nat.reduceAdd, Nat.reduceLT, Nat.reduceEqDiff, Option.bind_some, List.getElem?_toArray, beq_self_eq_true, gnCmp, wr_set, wr_getD, wr_get, lkF, runM, List.drop_succ_cons, List.drop_zero, stepM, valD, val1, Nat.reduceAdd]
        refine hK _ _ (by kernel_rfl) ?_
        clear hK K
        simp only [mkW, lkF, Nat.reduceAdd, Nat.reduceEqDiff, if_true, if_false]
        exact tri_ret ⟨.inl rfl, rfl⟩
end Go.Proofs.YtpjdfcigadnhcaaGreatDoor
end

section
namespace Go.Proofs.YtpjdfcigadnhcaaGreatDoor.lawSyntaxEquals
open Go.Eng
set_option maxRecDepth 100000
open Go.ChangeShapes Go.WideShapes Go.ChangeAt Go.RowKit
theorem contract (H : Type) (enc : TypeId × Value → H) (W : World) (args : Array Value) (ds gs : List (DataW H)) (before : List MemPlace)
    (hW : DataW.Whole enc Tryz.prog Tryz.f6.params.toList Rows.syntaxEqualsSpec.vars false W args.toList ds gs before) (hb : Rows.uptoBulkAll (ds ++ gs) ≤ 1048576) (hS : W.ShapedOpen Tryz.prog) :
    Calls Tryz.prog 6 args W fun e W' => ∃ v, e = .returned v ∧ Rows.syntaxEqualsSpec.post enc Tryz.prog Tryz.f6 false true false false W args v W' := by
  have hW' := hW
  have hlt := hW.lt
  obtain ⟨p, q, hA0, hV, rfl, hfz, hnd⟩ := hW
  have hA : DataW.TrodAll enc Tryz.prog W 0 (fun _ => true) true Tryz.f6.params.toList args.toList ds p := hA0
  rw [Tryz.params6] at hA
  obtain ⟨v0, vs0, d0, ds0, p0, q0, hargs, rfl, rfl, h0, r0⟩ := trodAll_cons hA
  obtain ⟨v1, vs1, d1, ds1, p1, q1, rfl, rfl, rfl, h1, r1⟩ := trodAll_cons r0
  obtain ⟨v2, vs2, d2, ds2, p2, q2, rfl, rfl, rfl, h2, r2⟩ := trodAll_cons r1
  obtain ⟨v3, vs3, d3, ds3, p3, q3, rfl, rfl, rfl, h3, r3⟩ := trodAll_cons r2
  obtain ⟨v4, vs4, d4, ds4, p4, q4, rfl, rfl, rfl, h4, r4⟩ := trodAll_cons r3
  obtain ⟨v5, vs5, d5, ds5, p5, q5, rfl, rfl, rfl, h5, r5⟩ := trodAll_cons r4
  obtain ⟨rfl, rfl, rfl⟩ := trodAll_nil r5
  obtain rfl : args = #[v0, v1, v2, v3, v4, v5] := by cases args; simp_all
  obtain ⟨rfl, rfl⟩ := trodVars_none hV
  clear hA0 hA r0 r1 r2 r3 r4 r5 hargs hV
  simp only [List.append_nil] at hW' hlt
  simp only [List.append_nil, Rows.uptoBulkAll] at hb
  have h0' := h0
  have h1' := h1
  have h2' := h2
  have h3' := h3
  have h4' := h4
  have h5' := h5
  obtain ⟨f0, h0⟩ := h0
  obtain ⟨f1, h1⟩ := h1
  obtain ⟨f2, h2⟩ := h2
  obtain ⟨f3, h3⟩ := h3
  obtain ⟨f4, h4⟩ := h4
  obtain ⟨f5, h5⟩ := h5
  have main : Calls Tryz.prog 6 #[v0, v1, v2, v3, v4, v5] W fun e W' => e = .returned (.bool true) ∧ Below W.heap.size W W' := by
    obtain ⟨n, hn⟩ := maxLen_at hS
    have go : ∀ (G : Glob) (hg : @Gl G W.cell?), @FnOk G Tryz.prog 10 [] tru → Calls Tryz.prog 6 #[v0, v1, v2, v3, v4, v5] W fun e W' => e = .returned (.bool true) ∧ Below W.heap.size W W' := fun G hg haw => by
      obtain ⟨x0, hx0, b0⟩ := rd_ty (F := W.cell?) (hg := hg) rfl _ h0
      obtain ⟨x1, hx1, b1⟩ := rd_ty (F := W.cell?) (hg := hg) rfl _ h1
      obtain ⟨x2, hx2, b2⟩ := rd_ex (F := W.cell?) (hg := hg) rfl _ h2
      obtain ⟨x3, hx3, b3⟩ := rd_ex (F := W.cell?) (hg := hg) rfl _ h3
      obtain ⟨x4, hx4, b4⟩ := rd_md (F := W.cell?) (hg := hg) rfl h4
      obtain ⟨x5, hx5, b5⟩ := rd_md (F := W.cell?) (hg := hg) rfl h5
      rw [encTy_eq] at hx0
      rw [encTy_eq] at hx1
      rw [encEx_eq] at hx2
      rw [encEx_eq] at hx3
      rw [encMd_eq] at hx4
      rw [encMd_eq] at hx5
      have hc := equals_ok haw x0 x1 x2 x3 x4 x5 (by omega) (by omega) (by omega) (by omega) (by omega) (by omega)
      refine (hc.2 W.cell? hg W #[v0, v1, v2, v3, v4, v5] (fun _ _ h => h) ?_).mono fun o W' h => ?_
      · simp only [encEx_eq, encMd_eq, encTy_eq]
        exact .cons (rep_one (by simp [tyCells]) hx0) (.cons (rep_one (by simp [tyCells]) hx1) (.cons (rep_one (by simp [exCells]) hx2) (.cons (rep_one (by simp [exCells]) hx3) (.cons (rep_one (by simp [mdCells]) hx4) (.cons (rep_one (by simp [mdCells]) hx5) (.nil _))))))
      · obtain ⟨F', x, rfl, -, -, -, ⟨hg', hx⟩, hbel⟩ := h
        obtain rfl := rep_sc hx
        exact ⟨rfl, hbel⟩
    by_cases hge : 4 ≤ n
    · exact go (gGe n hge) (@Gl.mk (gGe n hge) _ (fun g hg => by cases hg; exact hn) (fun g cs j x h => by cases h)) (awake_ge n hge)
    · by_cases he3 : n = 3
      · subst he3
        exact go gEq (@Gl.mk gEq _ (fun g hg => by cases hg; exact hn) (fun g cs j x h => by cases h)) awake_eq
      · have hl : n < 3 := by omega
        exact go (gLt n hl) (@Gl.mk (gLt n hl) _ (fun g hg => by cases hg; exact hn) (fun g cs j x h => by cases h)) (awake_lt n hl)
  refine main.mono fun e W' ⟨he, hbel⟩ => ?_
  subst he
  have hlaid : laidOutB Tryz.prog = true := by kernel_rfl
  refine ⟨_, rfl, post_kept (pa := p0 ++ (p1 ++ (p2 ++ (p3 ++ (p4 ++ (p5 ++ [])))))) (pv := []) hW' (fun _ _ _ => trodAll_cons_mk (shut_bool Tryz.underlying4 _) trodAll_mk0) (fun sp hsp => ?_) (fun _ _ => rfl) (by simp)
    hbel (ok_one (by kernel_rfl) rfl (okWide_bool_mk Tryz.underlying4 _))⟩
  · refine trodAll_cons_mk (WideElems.Trod_stays hlaid (by kernel_rfl) (of_decide_eq_true (by kernel_rfl)) h0' (fun x hx => hbel.same (hlt x (by simp [hx]))) (fun x hx => hsp x (by simp [hx])))
      (trodAll_cons_mk (WideElems.Trod_stays hlaid (by kernel_rfl) (of_decide_eq_true (by kernel_rfl)) h1' (fun x hx => hbel.same (hlt x (by simp [hx]))) (fun x hx => hsp x (by simp [hx])))
      (trodAll_cons_mk (WideElems.Trod_stays hlaid (by kernel_rfl) (of_decide_eq_true (by kernel_rfl)) h2' (fun x hx => hbel.same (hlt x (by simp [hx]))) (fun x hx => hsp x (by simp [hx])))
      (trodAll_cons_mk (WideElems.Trod_stays hlaid (by kernel_rfl) (of_decide_eq_true (by kernel_rfl)) h3' (fun x hx => hbel.same (hlt x (by simp [hx]))) (fun x hx => hsp x (by simp [hx])))
      (trodAll_cons_mk (WideElems.Trod_stays hlaid (by kernel_rfl) (of_decide_eq_true (by kernel_rfl)) h4' (fun x hx => hbel.same (hlt x (by simp [hx]))) (fun x hx => hsp x (by simp [hx])))
      (trodAll_cons_mk (WideElems.Trod_stays hlaid (by kernel_rfl) (of_decide_eq_true (by kernel_rfl)) h5' (fun x hx => hbel.same (hlt x (by simp [hx]))) (fun x hx => hsp x (by simp [hx])))
      trodAll_mk0)))))
end Go.Proofs.YtpjdfcigadnhcaaGreatDoor.lawSyntaxEquals
end

section
namespace Go.Proofs.YtpjdfcigadnhcaaGreatDoor
open Go.ChangeShapes Go.WideShapes Go.ChangeAt Go.RowKit
theorem own : ownKnob Tryz.prog.godebug = none := by kernel_rfl
/-- The witness: the empty trees. -/
def wTy : Value := .agg #[.int .i64 0, .string ⟨#[]⟩, .string ⟨#[]⟩, .slice none 0 0, .slice none 0 0]
def wEx : Value := .agg #[.int .i64 0, .string ⟨#[]⟩, .string ⟨#[]⟩, .string ⟨#[]⟩, .int .i64 0, .slice none 0 0, .slice none 0 0, .slice none 0 0]
def wMd : Value := .agg #[.string ⟨#[]⟩, .slice none 0 0, .slice none 0 0]
def dTy (H : Type) : DataW H := .agg [.lit (.int .i64 0), .lit (.string []), .lit (.string []), .nil, .nil]
def dEx (H : Type) : DataW H := .agg [.lit (.int .i64 0), .lit (.string []), .lit (.string []), .lit (.string []), .lit (.int .i64 0), .nil, .nil, .nil]
def dMd (H : Type) : DataW H := .agg [.lit (.string []), .nil, .nil]
def layAs (cs : Array Value) : Obj → Obj
  | .cells _ t frozen => .cells cs t frozen
  | o => o
def accZ : List Nat := [128, 191, 160, 191, 128, 159, 144, 191, 128, 143, 0, 0, 0, 0, 0, 0, 0, 0, 0, 0, 0, 0, 0, 0, 0, 0, 0, 0, 0, 0, 0, 0]
/-- A world for the witness: the settled one, the two listed tables holding what the row lists. -/
noncomputable def laidWorld (os : Os) : World :=
  { World.holding Tryz.prog os ⟨#[], #[], []⟩ with heap := ((World.holding Tryz.prog os ⟨#[], #[], []⟩).heap.modify 1 (layAs ⟨Pinned.utf8FirstZ.map fun n => Value.int .u8 (Int.ofNat n)⟩)).modify 2 (layAs ⟨accZ.map fun n => Value.int .u8 (Int.ofNat n)⟩) }
def wArgs : Array Value := #[wTy, wEx, wMd]
def wData (H : Type) : List (DataW H) := [dTy H, dEx H, dMd H]
theorem laid_met (os : Os) : laidMet Tryz.prog Rows.syntaxSizesUptoRow.laid ((laidWorld os).forCall (fun _ _ => 0) ⟨#[], wArgs, []⟩).memory :=
  laidMet_of_run' 8 (by kernel_rfl) (by kernel_rfl)
end Go.Proofs.YtpjdfcigadnhcaaGreatDoor
end
