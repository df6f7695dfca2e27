/-
  THE DATA of the language's trees, and the abstract values that stand for them.
  CONTRACTS: the reference's Parts, TypeSize, TypeDepth.
  CONTRACTS: slices.Clone; the parts of a type; the depth of a type.
  CONTRACTS: the depth of a type.
  CONTRACTS: the walk over a type's nodes.
  CONTRACTS: a range over a type's nodes.
  CONTRACTS: the size of a type.
  CONTRACTS: the walk over an expression's nodes.
  CONTRACTS: the types of an expression's node itself.
  CONTRACTS: the size of an expression.
  CONTRACTS: the reference's ExprSize.
  CONTRACTS: slices.EqualFunc on types and on fields.
  CONTRACTS: EqualTypes of the program.
  CONTRACTS: the reference's EqualTypeLists and EqualTypes.
-/
import Derived.Test.YtpjdfcigadnhcaaGreatDoorE5
import Derived.IntWalk
set_option linter.all false
section
namespace Go.Proofs.YtpjdfcigadnhcaaGreatDoor
open Go.Eng
variable [Glob]
mutual
inductive Ty where
  | mk (kind : Int) (mod name : ByteArray) (args : List Ty) (flds : List Fd)
inductive Fd where
  | mk (name : ByteArray) (ty : Ty) (opt : Bool)
end
structure Lb where
  name : ByteArray
  var : ByteArray
  ty : Ty
  opt : Bool
inductive Ex where
  | mk (kind : Int) (mod name text : ByteArray) (num : Int) (types : List Ty) (labels : List Lb) (kids : List Ex)
structure Pm where
  name : ByteArray
  variance : Int
  bound : Ty
structure Im where
  path : ByteArray
  alias : ByteArray
structure Dc where
  kind : Int
  name : ByteArray
  exported : Bool
  deprecated : Bool
  note : ByteArray
  params : List Pm
  lower : Ty
  upper : Ty
  type : Ty
  expr : Ex
  mod : ByteArray
  target : ByteArray
structure Md where
  path : ByteArray
  imports : List Im
  decls : List Dc

abbrev str (s : ByteArray) : V := .sc (.string s)
abbrev num (n : Int) : V := .sc (.int .i64 n)
abbrev bl (b : Bool) : V := .sc (.bool b)
mutual
def encTy : Ty → V
  | .mk k m n ts fs => .agg [.sc (.int .i64 k), .sc (.string m), .sc (.string n), .slice (encTys ts), .slice (encFds fs)]
def encTys : List Ty → List V
  | [] => []
  | t :: r => encTy t :: encTys r
def encFd : Fd → V
  | .mk n (.mk k m n' ts fs) o => .agg [.sc (.string n), .sc (.int .i64 k), .sc (.string m), .sc (.string n'), .slice (encTys ts), .slice (encFds fs), .sc (.bool o)]
def encFds : List Fd → List V
  | [] => []
  | f :: r => encFd f :: encFds r
end
def Fd.ty : Fd → Ty | .mk _ t _ => t
def Fd.name : Fd → ByteArray | .mk n _ _ => n
def Fd.opt : Fd → Bool | .mk _ _ o => o
def Ty.flds : Ty → List Fd | .mk _ _ _ _ fs => fs
def Ty.args : Ty → List Ty | .mk _ _ _ ts _ => ts
def Ty.kind : Ty → Int | .mk k _ _ _ _ => k
def Ty.mod : Ty → ByteArray | .mk _ m _ _ _ => m
def Ty.name : Ty → ByteArray | .mk _ _ n _ _ => n
def Ty.parts (t : Ty) : List Ty := t.args ++ t.flds.map Fd.ty
def tyCells (t : Ty) : List V := [.sc (.int .i64 t.kind), .sc (.string t.mod), .sc (.string t.name), .slice (encTys t.args), .slice (encFds t.flds)]
theorem encTy_eq (t : Ty) : encTy t = .agg (tyCells t) := by obtain ⟨k, m, n, ts, fs⟩ := t; rfl
theorem encTys_map (ts : List Ty) : encTys ts = ts.map encTy := by induction ts with | nil => rfl | cons t r ih => simp [encTys, ih]
theorem encFds_map (ts : List Fd) : encFds ts = ts.map encFd := by induction ts with | nil => rfl | cons t r ih => simp [encFds, ih]
theorem encFd_eq (f : Fd) : encFd f = .agg ([str f.name] ++ tyCells f.ty ++ [bl f.opt]) := by obtain ⟨n', ⟨k, m, n, ts, fs⟩, o⟩ := f; rfl
def encLb (l : Lb) : V := .agg ([str l.name, str l.var] ++ tyCells l.ty ++ [bl l.opt])
mutual
def encEx : Ex → V
  | .mk k m n t i ts ls ks => .agg [.sc (.int .i64 k), .sc (.string m), .sc (.string n), .sc (.string t), .sc (.int .i64 i), .slice (encTys ts), .slice (ls.map encLb), .slice (encExs ks)]
def encExs : List Ex → List V
  | [] => []
  | e :: r => encEx e :: encExs r
end
def Ex.kind : Ex → Int | .mk k _ _ _ _ _ _ _ => k
def Ex.mod : Ex → ByteArray | .mk _ m _ _ _ _ _ _ => m
def Ex.name : Ex → ByteArray | .mk _ _ n _ _ _ _ _ => n
def Ex.text : Ex → ByteArray | .mk _ _ _ t _ _ _ _ => t
def Ex.num : Ex → Int | .mk _ _ _ _ i _ _ _ => i
def Ex.types : Ex → List Ty | .mk _ _ _ _ _ ts _ _ => ts
def Ex.labels : Ex → List Lb | .mk _ _ _ _ _ _ ls _ => ls
def Ex.kids : Ex → List Ex | .mk _ _ _ _ _ _ _ ks => ks
theorem encExs_map (ts : List Ex) : encExs ts = ts.map encEx := by induction ts with | nil => rfl | cons t r ih => simp [encExs, ih]
def exCells (e : Ex) : List V := [.sc (.int .i64 e.kind), .sc (.string e.mod), .sc (.string e.name), .sc (.string e.text), .sc (.int .i64 e.num), .slice (encTys e.types), .slice (e.labels.map encLb), .slice (encExs e.kids)]
theorem encEx_eq (e : Ex) : encEx e = .agg (exCells e) := by obtain ⟨k, m, n, t, i, ts, ls, ks⟩ := e; rfl
def encPm (p : Pm) : V := .agg ([str p.name, num p.variance] ++ tyCells p.bound)
def encIm (i : Im) : V := .agg [str i.path, str i.alias]
def encDc (d : Dc) : V := .agg ([num d.kind, str d.name, bl d.exported, bl d.deprecated, str d.note, .slice (d.params.map encPm)] ++ tyCells d.lower ++ tyCells d.upper ++ tyCells d.type ++ exCells d.expr ++ [str d.mod, str d.target])
def encMd (m : Md) : V := .agg [str m.path, .slice (m.imports.map encIm), .slice (m.decls.map encDc)]
theorem len_encTy (t : Ty) : (encTy t).cells.length = 5 := by rw [encTy_eq]; rfl
theorem len_encFd (t : Fd) : (encFd t).cells.length = 7 := by rw [encFd_eq]; rfl
theorem len_encEx (e : Ex) : (encEx e).cells.length = 8 := by rw [encEx_eq]; rfl
theorem first_ty (ts : List Ty) (n : Nat) : firstOk (encTys ts) n 5 = true := by
  rw [encTys_map]; unfold firstOk; split
  · rename_i h; simp at h; obtain ⟨t, -, rfl⟩ := h; simp [len_encTy]
  · rfl
theorem length_encTys (ts : List Ty) : (encTys ts).length = ts.length := by simp [encTys_map]
theorem length_encFds (ts : List Fd) : (encFds ts).length = ts.length := by simp [encFds_map]
theorem length_encExs (ts : List Ex) : (encExs ts).length = ts.length := by simp [encExs_map]
theorem get_encTys (ts : List Ty) (i : Nat) : (encTys ts)[i]? = ts[i]?.map encTy := by simp [encTys_map]
theorem get_encFds (ts : List Fd) (i : Nat) : (encFds ts)[i]? = ts[i]?.map encFd := by simp [encFds_map]
theorem get_encExs (ts : List Ex) (i : Nat) : (encExs ts)[i]? = ts[i]?.map encEx := by simp [encExs_map]

mutual
def Ty.size : Ty → Nat
  | .mk _ _ _ ts fs => 1 + sizeTys ts + sizeFds fs
def sizeTys : List Ty → Nat
  | [] => 0
  | t :: r => t.size + sizeTys r
def Fd.size : Fd → Nat
  | .mk _ (.mk _ _ _ ts fs) _ => 1 + sizeTys ts + sizeFds fs
def sizeFds : List Fd → Nat
  | [] => 0
  | f :: r => f.size + sizeFds r
end
theorem Fd.size_ty (f : Fd) : f.size = f.ty.size := by obtain ⟨n', ⟨k, m, n, ts, fs⟩, o⟩ := f; rfl
def sumBy {α : Type} (g : α → Nat) : List α → Nat
  | [] => 0
  | a :: r => g a + sumBy g r
theorem sumBy_append {α : Type} (g : α → Nat) (a b : List α) : sumBy g (a ++ b) = sumBy g a + sumBy g b := by induction a with | nil => simp [sumBy] | cons x r ih => simp [sumBy, ih]; omega
theorem sumBy_map {α β : Type} (g : β → Nat) (h : α → β) (a : List α) : sumBy g (a.map h) = sumBy (fun x => g (h x)) a := by induction a with | nil => rfl | cons x r ih => simp [sumBy, ih]
theorem sizeTys_sum (ts : List Ty) : sizeTys ts = sumBy Ty.size ts := by induction ts with | nil => rfl | cons t r ih => simp [sizeTys, sumBy, ih]
theorem sizeFds_sum (ts : List Fd) : sizeFds ts = sumBy (fun f => f.ty.size) ts := by induction ts with | nil => rfl | cons t r ih => simp [sizeFds, sumBy, ih, Fd.size_ty]
theorem Ty.size_parts (t : Ty) : t.size = 1 + sumBy Ty.size t.parts := by
  obtain ⟨k, m, n, ts, fs⟩ := t
  simp only [Ty.size, Ty.parts, Ty.args, Ty.flds, sumBy_append, sumBy_map, sizeTys_sum, sizeFds_sum]; omega
theorem sumBy_take_succ {α : Type} (g : α → Nat) {l : List α} {i : Nat} {a : α} (h : l[i]? = some a) : sumBy g (l.take (i + 1)) = sumBy g (l.take i) + g a := by
  rw [List.take_add_one, h, sumBy_append]; simp [sumBy]
theorem sumBy_take_le {α : Type} (g : α → Nat) (l : List α) (i : Nat) : sumBy g (l.take i) ≤ sumBy g l := by
  conv => rhs; rw [← List.take_append_drop i l, sumBy_append]
  omega
theorem sumBy_mem {α : Type} (g : α → Nat) {l : List α} {i : Nat} {a : α} (h : l[i]? = some a) : g a ≤ sumBy g l := by
  have := sumBy_take_succ g h; have := sumBy_take_le g l (i + 1); omega
theorem Ty.size_pos (t : Ty) : 0 < t.size := by rw [Ty.size_parts]; omega
theorem length_le_sum {α : Type} (g : α → Nat) (hg : ∀ a, 0 < g a) (l : List α) : l.length ≤ sumBy g l := by
  induction l with
  | nil => simp
  | cons a r ih => simp [sumBy]; have := hg a; omega
theorem Ty.parts_length (t : Ty) : t.args.length + t.flds.length < t.size := by
  have := length_le_sum Ty.size Ty.size_pos t.parts
  rw [Ty.size_parts]
  simp only [Ty.parts, List.length_append, List.length_map] at this
  simp only [Ty.parts]; omega
theorem i64_nat (n : Nat) (h : n ≤ 1152921504606846976) : IntKind.i64.wrap (n : Int) = n := by rw [IntWalk.i64_in _ (by omega)]
theorem i64_add (a b : Nat) (h : a + b ≤ 1152921504606846976) : IntKind.i64.wrap ((a : Int) + (b : Int)) = ((a + b : Nat) : Int) := by rw [IntWalk.i64_in _ (by omega)]; omega
theorem i64_succ (a : Nat) (h : a + 1 ≤ 1152921504606846976) : IntKind.i64.wrap ((a : Int) + 1) = ((a + 1 : Nat) : Int) := by rw [IntWalk.i64_in _ (by omega)]; omega
theorem lt_dec {a b : Nat} (h : a < b) : decide ((a : Int) < (b : Int)) = true := by simpa using h
theorem ge_dec {a b : Nat} (h : ¬ a < b) : decide ((a : Int) < (b : Int)) = false := by simpa using h
end Go.Proofs.YtpjdfcigadnhcaaGreatDoor
end

section
namespace Go.Proofs.YtpjdfcigadnhcaaGreatDoor
open Go.Eng
variable [Glob]

theorem parts_ok (t : Ty) (hl : t.args.length + t.flds.length ≤ 34359738368) : FnOk Tryz.prog 21 [encTy t] (.slice (encTys t.parts)) := by
  obtain ⟨k, m, n, ts, fs⟩ := t
  simp only [Ty.args, Ty.flds] at hl
  have hl1 : ts.length ≤ 34359738368 := by omega
  refine fn_ok tt_ok (fn := Tryz.f21) Tryz.func21 rfl Tryz.call21 ?_
  simp only [startSt, Tryz.ntmps21, List.length_cons, List.length_nil, Nat.reduceAdd, Nat.reduceSub, List.replicate_succ, List.replicate_zero, List.cons_append, List.nil_append]
  refine tri_seq_region tt_ok fun K hK => ?_
  simp only [encTy, runOps, stepOp, wantedV, opV, St.eval, St.put, absV, cellsV, oneV, List.all_cons, List.all_nil, Bool.and_self, Value.oneCell', if_true, if_false, setMem, List.length_nil, Nat.lt_irrefl, List.nil_append, List.set_cons_zero, List.set_cons_succ, List.getD_cons_zero]
  refine hK _ ?_
  clear hK K
  refine tri_seq_region tt_ok fun K hK => ?_
  simp only [first_ty, length_encTys, hl1, runOps, stepOp, wantedV, opV, St.eval, St.put, absV, if_true, if_false, setMem, List.length_cons, List.length_nil, Nat.lt_irrefl, List.nil_append, List.cons_append, List.set_cons_zero, List.set_cons_succ, List.getD_cons_zero, List.getD_cons_succ, litV, tElem, tSize, seqParts, litRows, List.map_nil, List.map_cons, Nat.zero_mul, fieldV, tOff, fieldAt, loadV, pickCells, List.drop_zero, List.drop_succ_cons, List.take_succ_cons, List.take_zero, List.getElem?_cons_zero, List.getElem?_cons_succ, List.head?_cons, Nat.zero_add, Nat.reduceAdd, Nat.reduceLT, Nat.reduceLeDiff, Nat.zero_le, and_self, appendV, liveRows, rowsOf, appOut, Bool.false_eq_true, tt22, tt25]
  refine hK _ ?_
  clear hK K
  refine tri_seq ?_
  refine tri_seq_region tt_ok fun K hK => ?_
  simp only [runOps, stepOp, wantedV, opV, St.eval, St.put, absV, List.set_cons_zero, List.set_cons_succ]
  refine hK _ ?_
  clear hK K
  refine tri_block (tri_loop_inv (fun N st => ∃ (i ver : Nat) (acc : List Ty), N = fs.length - i ∧ i ≤ fs.length ∧ acc = ts ++ (fs.take i).map Fd.ty ∧
    st = { fr := [encTy (.mk k m n ts fs), .ptr 0 0, .undef, .ms 1 ver 0 acc.length, .sc (.int .i64 i)] ++ List.replicate 21 .undef, mem := [.box (encTy (.mk k m n ts fs)).cells, .rows ver 5 (encTys acc)] }) fs.length ?_ ?_)
  · exact ⟨2, [true, true, false, true, true], by omega, by simp only [maskFr, if_true, if_false, Bool.false_eq_true, List.all_cons, List.all_nil, belowV, belowL, Nat.reduceLT, decide_true, Bool.and_self], by simp only [List.all_cons, List.all_nil, belowV, belowB, Bool.and_self, List.take_succ_cons, List.take_nil], 0, 1, ts, by omega, by omega, by simp, rfl⟩
  · rintro N st ⟨i, ver, acc, rfl, hi, hacc, rfl⟩
    have hal : acc.length ≤ 34359738367 ∨ i = fs.length := by
      rw [hacc]; simp; omega
    simp only [List.replicate_succ, List.replicate_zero, List.cons_append, List.nil_append, encTy, V.cells]
    refine tri_seq ?_
    by_cases hlt : i < fs.length
    · have hd := lt_dec hlt
      have hal' : acc.length ≤ 34359738367 := by omega
      refine tri_seq_region tt_ok fun K hK => ?_
      simp only [length_encFds, hd, runOps, stepOp, wantedV, opV, St.eval, St.put, if_true, if_false, List.length_cons, List.length_nil, List.set_cons_zero, List.set_cons_succ, List.getD_cons_zero, List.getD_cons_succ, tElem, List.map_nil, List.map_cons, fieldV, tOff, fieldAt, loadV, pickCells, List.drop_zero, List.drop_succ_cons, List.take_succ_cons, List.take_zero, List.getElem?_cons_zero, List.getElem?_cons_succ, List.head?_cons, Nat.zero_add, Nat.le_refl, Bool.false_eq_true, lenV, ev_lss, List.getElem?_toArray, nilLen, ev_len1, gnCmp, tt23, tt25]
      refine hK _ ?_
      clear hK K
      refine tri_cond rfl (tri_skip ?_)
      refine tri_seq (tri_block ?_)
      obtain ⟨f, hf⟩ : ∃ f, fs[i]? = some f := ⟨_, List.getElem?_eq_getElem hlt⟩
      have hft : (fs.take (i + 1)).map Fd.ty = (fs.take i).map Fd.ty ++ [f.ty] := by
        rw [List.take_add_one, hf]; simp
      obtain ⟨fnm, ⟨fk, fm, fn, fts, ffs⟩, fo⟩ := f
      refine tri_last_region tt_ok fun K hK => ?_
      simp only [get_encFds, hf, encFd, length_encTys, hal', runOps, stepOp, wantedV, opV, St.eval, St.put, absV, cellsV, oneV, List.all_cons, List.all_nil, Bool.and_self, Value.oneCell', if_true, if_false, setMem, List.length_cons, List.length_nil, Nat.lt_irrefl, List.nil_append, List.cons_append, List.set_cons_zero, List.set_cons_succ, List.getD_cons_zero, List.getD_cons_succ, litV, tElem, tSize, seqParts, litRows, List.map_nil, List.map_cons, fieldV, tOff, fieldAt, loadV, pickCells, List.drop_zero, List.drop_succ_cons, List.take_succ_cons, List.take_zero, List.getElem?_cons_zero, List.getElem?_cons_succ, List.head?_cons, Nat.zero_add, Nat.reduceAdd, Nat.reduceLT, Nat.reduceLeDiff, Nat.reduceMul, Nat.le_refl, and_self, appendV, liveRows, rowsOf, appOut, Bool.false_eq_true, Int.natCast_nonneg, indexV, indexAt, Int.toNat_natCast, V.cells, Option.map_some, beq_self_eq_true, pureCell, rowV, nilS, tt22, tt23, tt25, tt86]
      refine hK _ ?_
      clear hK K
      refine tri_last_region tt_ok fun K hK => ?_
      simp only [runOps, stepOp, wantedV, opV, St.eval, St.put, absV, List.set_cons_zero, List.set_cons_succ, List.getD_cons_zero, List.getD_cons_succ, ev_add, nilLen, gnCmp]
      refine hK _ ?_
      clear hK K
      refine ⟨fs.length - (i + 1), by omega, 2, [true, true, false, true, true], by omega, by simp only [maskFr, if_true, if_false, Bool.false_eq_true, List.all_cons, List.all_nil, belowV, belowL, Nat.reduceLT, decide_true, Bool.and_self], by simp only [List.all_cons, List.all_nil, belowV, belowB, Bool.and_self, List.take_succ_cons, List.take_zero], i + 1, ver + 1, acc ++ [.mk fk fm fn fts ffs], rfl, hlt, by rw [hacc, hft]; simp [Fd.ty], ?_⟩
      have hw : IntKind.i64.wrap ((i : Int) + 1) = ((i + 1 : Nat) : Int) := i64_succ i (by omega)
      rw [hw]
      simp [maskFr, encTys_map, encTy]
    · have hd := ge_dec hlt
      refine tri_seq_region tt_ok fun K hK => ?_
      simp only [length_encFds, hd, runOps, stepOp, wantedV, opV, St.eval, St.put, if_true, if_false, List.length_cons, List.length_nil, List.set_cons_zero, List.set_cons_succ, List.getD_cons_zero, List.getD_cons_succ, tElem, List.map_nil, List.map_cons, fieldV, tOff, fieldAt, loadV, pickCells, List.drop_zero, List.drop_succ_cons, List.take_succ_cons, List.take_zero, List.getElem?_cons_zero, List.getElem?_cons_succ, List.head?_cons, Nat.zero_add, Nat.le_refl, Bool.false_eq_true, lenV, ev_lss, List.getElem?_toArray, nilLen, ev_len1, gnCmp, tt23, tt25]
      refine hK _ ?_
      clear hK K
      refine tri_cond rfl (tri_exit ?_)
      have hie : i = fs.length := by omega
      subst hie
      show Tri _ _ _ _ _ _
      refine tri_seq_region tt_ok fun K hK => ?_
      simp only [runOps, stepOp, wantedV, opV, St.eval, St.put, List.set_cons_zero, List.set_cons_succ, List.getD_cons_zero, List.getD_cons_succ]
      refine hK _ ?_
      clear hK K
      refine tri_ret ⟨.inl rfl, ?_⟩
      rw [List.take_length] at hacc
      have hr : encTys (Ty.mk k m n ts fs).parts = encTys acc := by rw [hacc]; rfl
      rw [hr]
      simp [retV, resL, resV, Tryz.f21, pur, pur1, purCell, length_encTys]
      rw [← length_encTys]; simp

theorem tsize_ok : ∀ (N : Nat) (t : Ty), t.size ≤ N → N ≤ 1048576 → FnOk Tryz.prog 15 [encTy t] (num t.size) := by
  intro N
  induction N with
  | zero => intro t h; have := t.size_pos; omega
  | succ N ih =>
    intro t hN hb
    have hpl := t.parts_length
    have hps := t.size_parts
    have hpn := length_le_sum Ty.size Ty.size_pos t.parts
    have hp := parts_ok t (by omega)
    refine fn_ok tt_ok (fn := Tryz.f15) Tryz.func15 rfl Tryz.call15 ?_
    simp only [startSt, Tryz.ntmps15, List.length_cons, List.length_nil, Nat.reduceAdd, Nat.reduceSub, List.replicate_succ, List.replicate_zero, List.cons_append, List.nil_append]
    rw [encTy_eq] at hp ⊢
    simp only [tyCells] at hp ⊢
    refine tri_seq_region tt_ok fun K hK => ?_
    simp only [runOps, stepOp, wantedV, opV, St.eval, St.put, absV, cellsV, oneV, List.all_cons, List.all_nil, Bool.and_self, Value.oneCell', if_true, if_false, setMem, List.length_nil, Nat.lt_irrefl, List.nil_append, List.set_cons_zero, List.set_cons_succ, List.getD_cons_zero]
    refine hK _ ?_
    clear hK K
    refine tri_seq_region tt_ok fun K hK => ?_
    simp only [runOps, stepOp, wantedV, opV, St.eval, St.put, absV, List.set_cons_zero, List.set_cons_succ]
    refine hK _ ?_
    clear hK K
    refine tri_seq_region tt_ok fun K hK => ?_
    simp only [runOps, stepOp, wantedV, opV, St.eval, St.put, if_true, List.length_cons, List.length_nil, List.nil_append, List.append_nil, List.set_cons_zero, List.set_cons_succ, List.getD_cons_zero, List.getD_cons_succ, List.map_nil, List.map_cons, loadV, pickCells, List.drop_zero, List.take_succ_cons, List.take_zero, List.getElem?_cons_zero, List.head?_cons, Nat.zero_add, Nat.reduceAdd, Nat.le_refl, calleeOf, tt25]
    refine .inl ⟨_, _, by simp only [purL, pur1, purCells, purCell, nilS], hp, ?_⟩
    try simp only [St.put, List.append_nil, List.set_cons_zero, List.set_cons_succ, List.getD_cons_zero, List.getD_cons_succ, memAfter_nil, List.flatMap_cons, List.flatMap_nil, ref1, refCell]
    refine hK _ ?_
    clear hK K
    refine tri_seq ?_
    refine tri_seq_region tt_ok fun K hK => ?_
    simp only [runOps, stepOp, wantedV, opV, St.eval, St.put, absV, List.set_cons_zero, List.set_cons_succ]
    refine hK _ ?_
    clear hK K
    obtain ⟨ps, hps'⟩ : ∃ ps, ps = t.parts := ⟨_, rfl⟩
    rw [← hps'] at hps hpn ⊢
    refine tri_block (tri_loop_inv (fun N st => ∃ (i : Nat), N = ps.length - i ∧ i ≤ ps.length ∧
      st = { fr := [.undef, .undef, .undef, num ((1 + sumBy Ty.size (ps.take i) : Nat)), .slice (encTys ps), num i] ++ List.replicate 16 .undef, mem := [] }) ps.length ?_ ?_)
    · exact ⟨0, [false, false, false, true, true, true], by omega, by simp only [maskFr, if_true, if_false, Bool.false_eq_true, List.all_cons, List.all_nil, belowV, Bool.and_self], by simp only [List.all_nil, List.take_zero], 0, by omega, by omega, rfl⟩
    · rintro N st ⟨i, rfl, hi, rfl⟩
      simp only [List.replicate_succ, List.replicate_zero, List.cons_append, List.nil_append]
      refine tri_seq ?_
      by_cases hlt : i < ps.length
      · have hd := lt_dec hlt
        refine tri_seq_region tt_ok fun K hK => ?_
        simp only [length_encTys, hd, runOps, stepOp, wantedV, opV, St.eval, St.put, List.set_cons_zero, List.set_cons_succ, List.getD_cons_zero, List.getD_cons_succ, tElem, List.map_nil, List.map_cons, List.getElem?_cons_zero, lenV, ev_lss, List.getElem?_toArray, nilLen, ev_len1, gnCmp, tt22]
        refine hK _ ?_
        clear hK K
        refine tri_cond rfl (tri_skip ?_)
        refine tri_seq (tri_block ?_)
        obtain ⟨u, hu⟩ : ∃ u, ps[i]? = some u := ⟨_, List.getElem?_eq_getElem hlt⟩
        have hus := sumBy_mem Ty.size hu
        have hts := sumBy_take_succ Ty.size hu
        have htl := sumBy_take_le Ty.size ps (i + 1)
        have hrec := ih u (by omega) (by omega)
        rw [encTy_eq] at hrec
        simp only [tyCells] at hrec
        refine tri_last_region tt_ok fun K hK => ?_
        simp only [get_encTys, hu, encTy_eq, tyCells, runOps, stepOp, wantedV, opV, St.eval, St.put, if_true, List.length_cons, List.length_nil, List.nil_append, List.append_nil, List.set_cons_zero, List.set_cons_succ, List.getD_cons_zero, List.getD_cons_succ, tElem, tSize, List.map_nil, List.map_cons, loadV, pickCells, List.take_succ_cons, List.take_zero, List.head?_cons, Nat.zero_add, Nat.reduceAdd, Nat.le_refl, Int.natCast_nonneg, indexV, indexAt, Int.toNat_natCast, V.cells, calleeOf, Option.map_some, nilLen, gnCmp, tt22, tt25]
        refine .inl ⟨_, _, by simp only [purL, pur1, purCells, purCell, nilS], hrec, ?_⟩
        try simp only [St.put, List.append_nil, List.set_cons_zero, List.set_cons_succ, List.getD_cons_zero, List.getD_cons_succ, ev_add, memAfter_nil, List.flatMap_cons, List.flatMap_nil, ref1, refCell]
        refine hK _ ?_
        clear hK K
        have hw : IntKind.i64.wrap (((1 + sumBy Ty.size (ps.take i) : Nat) : Int) + (u.size : Int)) = ((1 + sumBy Ty.size (ps.take (i + 1)) : Nat) : Int) := by rw [i64_add _ _ (by omega)]; congr 1; omega
        rw [hw]
        refine tri_last_region tt_ok fun K hK => ?_
        simp only [runOps, stepOp, wantedV, opV, St.eval, St.put, absV, List.set_cons_zero, List.set_cons_succ, List.getD_cons_zero, List.getD_cons_succ, ev_add, nilLen, gnCmp]
        refine hK _ ?_
        clear hK K
        have hw2 := i64_succ i (by omega)
        rw [hw2]
        exact ⟨ps.length - (i + 1), by omega, 0, [false, false, false, true, true, true], by omega, by simp only [maskFr, if_true, if_false, Bool.false_eq_true, List.all_cons, List.all_nil, belowV, Bool.and_self], by simp only [List.all_nil, List.take_nil], i + 1, rfl, hlt, by simp [maskFr]⟩
      · have hd := ge_dec hlt
        refine tri_seq_region tt_ok fun K hK => ?_
        simp only [length_encTys, hd, runOps, stepOp, wantedV, opV, St.eval, St.put, List.set_cons_zero, List.set_cons_succ, List.getD_cons_zero, List.getD_cons_succ, tElem, List.map_nil, List.map_cons, List.getElem?_cons_zero, lenV, ev_lss, List.getElem?_toArray, nilLen, ev_len1, gnCmp, tt22]
        refine hK _ ?_
        clear hK K
        refine tri_cond rfl (tri_exit ?_)
        have hie : i = ps.length := by omega
        subst hie
        show Tri _ _ _ _ _ _
        refine tri_seq_region tt_ok fun K hK => ?_
        simp only [runOps, stepOp, wantedV, opV, St.eval, St.put, List.set_cons_zero, List.set_cons_succ, List.getD_cons_zero, List.getD_cons_succ]
        refine hK _ ?_
        clear hK K
        refine tri_ret ⟨.inl rfl, ?_⟩
        rw [List.take_length, ← hps]
        simp [retV, resL, resV, Tryz.f15, pur, pur1, purCell, nilS]
end Go.Proofs.YtpjdfcigadnhcaaGreatDoor
end

section
namespace Go.Proofs.YtpjdfcigadnhcaaGreatDoor
open Go.Eng
variable [Glob]

theorem cloneTy_ok (rows : List V) (h1 : firstOk rows 0 5 = true) (hl : rows.length ≤ 34359738368) : FnOkS Tryz.prog 61 [.slice rows] [] (.ms 0 1 0 rows.length) [.rows 1 5 rows] := by
  refine fns_ok tt_ok (fn := Tryz.f61) 1 (by simp) Tryz.func61 rfl Tryz.call61 ?_
  simp only [startSt, Tryz.ntmps61, List.length_cons, List.length_nil, Nat.reduceAdd, Nat.reduceSub, List.replicate_succ, List.replicate_zero, List.cons_append, List.nil_append]
  refine tri_seq_region tt_ok fun K hK => ?_
  simp only [runOps, stepOp, wantedV, opV, St.eval, St.put, absV, List.set_cons_zero, List.set_cons_succ]
  refine hK _ ?_
  clear hK K
  refine tri_seq ?_
  refine tri_seq_region tt_ok fun K hK => ?_
  simp only [runOps, stepOp, wantedV, opV, St.eval, St.put, absV, List.set_cons_zero, List.set_cons_succ, List.getD_cons_zero, List.getD_cons_succ, tElem, nilLen, sliceLen, nilAns, ne_eq, tt22]
  intro b hb
  refine hK _ ?_
  clear hK K
  cases b with
  | true =>
    have h0 : rows = [] := by
      cases rows with
      | nil => rfl
      | cons a r => have := hb (by simp); cases this
    subst h0
    refine tri_cond rfl ?_
    refine tri_seq_region tt_ok fun K hK => ?_
    simp only [runOps, stepOp, wantedV, opV, St.eval, St.put, absV, List.set_cons_zero, List.set_cons_succ]
    refine hK _ ?_
    clear hK K
    refine tri_nilMs 2 1 5 rfl ?_
    exact tri_ret ⟨.inl rfl, rfl, rfl, rfl, rfl⟩
  | false =>
    refine tri_cond rfl (tri_skip ?_)
    show Tri _ _ _ _ _ _
    refine tri_seq_region tt_ok fun K hK => ?_
    simp only [h1, hl, runOps, stepOp, wantedV, opV, St.eval, St.put, absV, if_true, if_false, setMem, List.length_cons, List.length_nil, Nat.lt_irrefl, List.nil_append, List.set_cons_zero, List.set_cons_succ, List.getD_cons_zero, List.getD_cons_succ, litV, tElem, tSize, seqParts, litRows, List.map_nil, List.map_cons, Nat.zero_mul, List.getElem?_cons_zero, Nat.zero_add, Nat.reduceAdd, Nat.reduceLT, Nat.reduceLeDiff, Nat.zero_le, and_self, appendV, liveRows, rowsOf, appOut, tt22, tt25]
    refine hK _ ?_
    clear hK K
    refine tri_ret ⟨.inl rfl, ?_⟩
    simp [resOne, resL, resV, Tryz.f61, belowV, belowB]

theorem sparts_ok (t : Ty) (hl : t.args.length + t.flds.length ≤ 34359738368) : FnOk Tryz.prog 52 [encTy t] (.slice (encTys t.parts)) := by
  obtain ⟨k, m, n, ts, fs⟩ := t
  simp only [Ty.args, Ty.flds] at hl
  have hl1 : ts.length ≤ 34359738368 := by omega
  refine fn_ok tt_ok (fn := Tryz.f52) Tryz.func52 rfl Tryz.call52 ?_
  simp only [startSt, Tryz.ntmps52, List.length_cons, List.length_nil, Nat.reduceAdd, Nat.reduceSub, List.replicate_succ, List.replicate_zero, List.cons_append, List.nil_append]
  refine tri_seq_region tt_ok fun K hK => ?_
  simp only [encTy, runOps, stepOp, wantedV, opV, St.eval, St.put, absV, cellsV, oneV, List.all_cons, List.all_nil, Bool.and_self, Value.oneCell', if_true, if_false, setMem, List.length_nil, Nat.lt_irrefl, List.nil_append, List.set_cons_zero, List.set_cons_succ, List.getD_cons_zero]
  refine hK _ ?_
  clear hK K
  refine tri_seq_region tt_ok fun K hK => ?_
  simp only [runOps, stepOp, wantedV, opV, St.eval, St.put, if_true, if_false, List.length_cons, List.length_nil, List.nil_append, List.append_nil, List.set_cons_zero, List.set_cons_succ, List.getD_cons_zero, List.getD_cons_succ, List.map_nil, List.map_cons, fieldV, tOff, fieldAt, loadV, pickCells, List.drop_zero, List.drop_succ_cons, List.take_succ_cons, List.take_zero, List.getElem?_cons_zero, List.getElem?_cons_succ, List.head?_cons, Nat.zero_add, Nat.reduceAdd, Nat.reduceLeDiff, Bool.false_eq_true, calleeOf, tt22, tt25]
  refine .inr <| .inl ⟨_, _, FnOkS.live (by simp only [purL, pur1, purCell]) (cloneTy_ok (encTys ts) (first_ty ts 0) (by rw [length_encTys]; exact hl1)) rfl _, ?_⟩
  try simp only [length_encTys, St.put, List.length_cons, List.length_nil, List.nil_append, List.cons_append, List.set_cons_zero, List.set_cons_succ, List.getD_cons_zero, List.getD_cons_succ, Nat.zero_add, Nat.add_zero]
  refine hK _ ?_
  clear hK K
  refine tri_seq ?_
  refine tri_seq_region tt_ok fun K hK => ?_
  simp only [length_encFds, runOps, stepOp, wantedV, opV, St.eval, St.put, absV, if_true, if_false, List.length_cons, List.length_nil, List.set_cons_zero, List.set_cons_succ, List.getD_cons_zero, List.getD_cons_succ, tElem, List.map_nil, List.map_cons, fieldV, tOff, fieldAt, loadV, pickCells, List.drop_zero, List.drop_succ_cons, List.take_succ_cons, List.take_zero, List.getElem?_cons_zero, List.getElem?_cons_succ, List.head?_cons, Nat.zero_add, Nat.le_refl, Bool.false_eq_true, lenV, List.getElem?_toArray, ev_len1, tt23, tt25]
  refine hK _ ?_
  clear hK K
  refine tri_block (tri_loop_inv (fun N st => ∃ (i ver : Nat) (acc : List Ty), N = fs.length - i ∧ i ≤ fs.length ∧ acc = ts ++ (fs.take i).map Fd.ty ∧
    st = { fr := [.undef, .ptr 0 0, .undef, .ms 1 ver 0 acc.length, .undef, .undef, .undef, .undef, .undef, .undef, .slice (encFds fs), num fs.length, num i] ++ List.replicate 10 .undef, mem := [.box (encTy (.mk k m n ts fs)).cells, .rows ver 5 (encTys acc)] }) fs.length ?_ ?_)
  · exact ⟨2, [false, true, false, true, false, false, false, false, false, false, true, true, true], by omega, by simp only [maskFr, if_true, if_false, Bool.false_eq_true, List.all_cons, List.all_nil, belowV, Nat.reduceLT, decide_true, Bool.and_self], by simp only [List.all_cons, List.all_nil, belowV, belowB, Bool.and_self, List.take_succ_cons, List.take_nil], 0, 1, ts, by omega, by omega, by simp, rfl⟩
  · rintro N st ⟨i, ver, acc, rfl, hi, hacc, rfl⟩
    have hal : acc.length ≤ 34359738367 ∨ i = fs.length := by
      rw [hacc]; simp; omega
    simp only [List.replicate_succ, List.replicate_zero, List.cons_append, List.nil_append, encTy, V.cells]
    by_cases hlt : i < fs.length
    · have hd := lt_dec hlt
      have hal' : acc.length ≤ 34359738367 := by omega
      refine tri_seq_region tt_ok fun K hK => ?_
      simp only [hd, runOps, stepOp, wantedV, opV, St.eval, St.put, List.set_cons_zero, List.set_cons_succ, List.getD_cons_zero, List.getD_cons_succ, ev_lss, nilLen, gnCmp]
      refine hK _ ?_
      clear hK K
      refine tri_seq (tri_cond rfl (tri_skip ?_))
      refine tri_seq (tri_block ?_)
      obtain ⟨f, hf⟩ : ∃ f, fs[i]? = some f := ⟨_, List.getElem?_eq_getElem hlt⟩
      have hft : (fs.take (i + 1)).map Fd.ty = (fs.take i).map Fd.ty ++ [f.ty] := by
        rw [List.take_add_one, hf]; simp
      obtain ⟨fnm, ⟨fk, fm, fn, fts, ffs⟩, fo⟩ := f
      refine tri_seq_region tt_ok fun K hK => ?_
      simp only [get_encFds, hf, encFd, runOps, stepOp, wantedV, opV, St.eval, St.put, cellsV, oneV, List.all_cons, List.all_nil, Bool.and_self, Value.oneCell', if_true, if_false, setMem, List.length_cons, List.length_nil, Nat.lt_irrefl, List.nil_append, List.cons_append, List.set_cons_zero, List.set_cons_succ, List.getD_cons_zero, List.getD_cons_succ, tElem, tSize, List.map_nil, List.map_cons, loadV, pickCells, List.take_succ_cons, List.take_zero, List.getElem?_cons_zero, List.getElem?_cons_succ, List.head?_cons, Nat.zero_add, Nat.reduceAdd, Nat.le_refl, Int.natCast_nonneg, indexV, indexAt, Int.toNat_natCast, V.cells, Option.map_some, storeV, spliceL, tt23, tt86]
      refine hK _ ?_
      clear hK K
      refine tri_last_region tt_ok fun K hK => ?_
      simp only [length_encTys, hal', runOps, stepOp, wantedV, opV, St.eval, St.put, absV, cellsV, oneV, List.all_cons, List.all_nil, Bool.and_self, Value.oneCell', if_true, if_false, setMem, List.length_cons, List.length_nil, Nat.lt_irrefl, List.nil_append, List.cons_append, List.set_cons_zero, List.set_cons_succ, List.getD_cons_zero, List.getD_cons_succ, litV, tElem, tSize, seqParts, litRows, List.map_nil, List.map_cons, fieldV, tOff, fieldAt, loadV, pickCells, List.drop_zero, List.drop_succ_cons, List.take_succ_cons, List.take_zero, List.getElem?_cons_zero, List.getElem?_cons_succ, List.head?_cons, Nat.zero_add, Nat.reduceAdd, Nat.reduceLT, Nat.reduceLeDiff, Nat.reduceMul, Nat.le_refl, and_self, appendV, liveRows, rowsOf, appOut, beq_self_eq_true, pureCell, rowV, nilS, tt22, tt25, tt86]
      refine hK _ ?_
      clear hK K
      refine tri_last_region tt_ok fun K hK => ?_
      simp only [runOps, stepOp, wantedV, opV, St.eval, St.put, absV, List.set_cons_zero, List.set_cons_succ, List.getD_cons_zero, List.getD_cons_succ, ev_add, nilLen, gnCmp]
      refine hK _ ?_
      clear hK K
      have hw := i64_succ i (by omega)
      rw [hw]
      refine ⟨fs.length - (i + 1), by omega, 2, [false, true, false, true, false, false, false, false, false, false, true, true, true], by omega, by simp only [maskFr, if_true, if_false, Bool.false_eq_true, List.all_cons, List.all_nil, belowV, Nat.reduceLT, decide_true, Bool.and_self], by simp only [List.all_cons, List.all_nil, belowV, belowB, Bool.and_self, List.take_succ_cons, List.take_zero], i + 1, ver + 1, acc ++ [.mk fk fm fn fts ffs], rfl, hlt, by rw [hacc, hft]; simp [Fd.ty], ?_⟩
      simp [maskFr, encTys_map, encTy]
    · have hd := ge_dec hlt
      refine tri_seq_region tt_ok fun K hK => ?_
      simp only [hd, runOps, stepOp, wantedV, opV, St.eval, St.put, List.set_cons_zero, List.set_cons_succ, List.getD_cons_zero, List.getD_cons_succ, ev_lss, nilLen, gnCmp]
      refine hK _ ?_
      clear hK K
      refine tri_seq (tri_cond rfl (tri_exit ?_))
      have hie : i = fs.length := by omega
      subst hie
      show Tri _ _ _ _ _ _
      refine tri_seq_region tt_ok fun K hK => ?_
      simp only [runOps, stepOp, wantedV, opV, St.eval, St.put, List.set_cons_zero, List.set_cons_succ, List.getD_cons_zero, List.getD_cons_succ]
      refine hK _ ?_
      clear hK K
      refine tri_ret ⟨.inl rfl, ?_⟩
      rw [List.take_length] at hacc
      have hr : encTys (Ty.mk k m n ts fs).parts = encTys acc := by rw [hacc]; rfl
      rw [hr]
      simp [retV, resL, resV, Tryz.f52, pur, pur1, purCell, length_encTys]
      rw [← length_encTys]; simp
end Go.Proofs.YtpjdfcigadnhcaaGreatDoor
end

section
namespace Go.Proofs.YtpjdfcigadnhcaaGreatDoor
open Go.Eng
variable [Glob]
mutual
def Ty.depth : Ty → Nat
  | .mk _ _ _ ts fs => 1 + max (depthTys ts) (depthFds fs)
def depthTys : List Ty → Nat
  | [] => 0
  | t :: r => max t.depth (depthTys r)
def Fd.depth : Fd → Nat
  | .mk _ (.mk _ _ _ ts fs) _ => 1 + max (depthTys ts) (depthFds fs)
def depthFds : List Fd → Nat
  | [] => 0
  | f :: r => max f.depth (depthFds r)
end
theorem Fd.depth_ty (f : Fd) : f.depth = f.ty.depth := by obtain ⟨n', ⟨k, m, n, ts, fs⟩, o⟩ := f; rfl
def maxBy {α : Type} (g : α → Nat) : List α → Nat
  | [] => 0
  | a :: r => max (g a) (maxBy g r)
theorem maxBy_append {α : Type} (g : α → Nat) (a b : List α) : maxBy g (a ++ b) = max (maxBy g a) (maxBy g b) := by induction a with | nil => simp [maxBy] | cons x r ih => simp [maxBy, ih, Nat.max_assoc]
theorem maxBy_map {α β : Type} (g : β → Nat) (h : α → β) (a : List α) : maxBy g (a.map h) = maxBy (fun x => g (h x)) a := by induction a with | nil => rfl | cons x r ih => simp [maxBy, ih]
theorem depthTys_max (ts : List Ty) : depthTys ts = maxBy Ty.depth ts := by induction ts with | nil => rfl | cons t r ih => simp [depthTys, maxBy, ih]
theorem depthFds_max (ts : List Fd) : depthFds ts = maxBy (fun f => f.ty.depth) ts := by induction ts with | nil => rfl | cons t r ih => simp [depthFds, maxBy, ih, Fd.depth_ty]
theorem Ty.depth_parts (t : Ty) : t.depth = 1 + maxBy Ty.depth t.parts := by
  obtain ⟨k, m, n, ts, fs⟩ := t
  simp only [Ty.depth, Ty.parts, Ty.args, Ty.flds, maxBy_append, maxBy_map, depthTys_max, depthFds_max]
theorem maxBy_take_succ {α : Type} (g : α → Nat) {l : List α} {i : Nat} {a : α} (h : l[i]? = some a) : maxBy g (l.take (i + 1)) = max (maxBy g (l.take i)) (g a) := by
  rw [List.take_add_one, h, maxBy_append]; simp [maxBy]
theorem maxBy_le_sumBy {α : Type} {g h : α → Nat} (hgh : ∀ a, g a ≤ h a) (l : List α) : maxBy g l ≤ sumBy h l := by
  induction l with
  | nil => simp [maxBy, sumBy]
  | cons a r ih => simp only [maxBy, sumBy]; have := hgh a; omega
theorem maxBy_take_le {α : Type} (g : α → Nat) (l : List α) (i : Nat) : maxBy g (l.take i) ≤ maxBy g l := by
  conv => rhs; rw [← List.take_append_drop i l, maxBy_append]
  omega
theorem maxBy_mem {α : Type} (g : α → Nat) {l : List α} {i : Nat} {a : α} (h : l[i]? = some a) : g a ≤ maxBy g l := by
  have := maxBy_take_succ g h; have := maxBy_take_le g l (i + 1); omega
theorem maxBy_lt {α : Type} (g : α → Nat) {B : Nat} : ∀ {l : List α}, (∀ (i : Nat) (a : α), l[i]? = some a → g a ≤ B) → maxBy g l ≤ B
  | [], _ => by simp [maxBy]
  | a :: r, h => by
    have h1 := h 0 a rfl
    have h2 := maxBy_lt g (l := r) (B := B) fun i b hb => h (i + 1) b (by simpa using hb)
    simp only [maxBy]; omega
theorem Ty.depth_le_size : ∀ (N : Nat) (t : Ty), t.size ≤ N → t.depth ≤ t.size := by
  intro N
  induction N with
  | zero => intro t h; have := t.size_pos; omega
  | succ N ih =>
    intro t hN
    rw [Ty.depth_parts, Ty.size_parts]
    have h1 := t.size_parts
    have := maxBy_lt Ty.depth (l := t.parts) (B := sumBy Ty.size t.parts) fun i a ha => by
      have := sumBy_mem Ty.size ha
      have := ih a (by omega)
      omega
    omega
theorem i64_max (a b : Nat) : (if ((a : Int) < (b : Int)) then ((b : Nat) : Int) else (a : Int)) = ((max a b : Nat) : Int) := by
  split <;> omega

theorem tdepth_ok : ∀ (N : Nat) (t : Ty), t.size ≤ N → N ≤ 1048576 → FnOk Tryz.prog 17 [encTy t] (num t.depth) := by
  intro N
  induction N with
  | zero => intro t h; have := t.size_pos; omega
  | succ N ih =>
    intro t hN hb
    have hpl := t.parts_length
    have hps := t.size_parts
    have hds := Ty.depth_le_size _ t (Nat.le_refl _)
    have hdp := t.depth_parts
    have hpn := length_le_sum Ty.size Ty.size_pos t.parts
    have hp := parts_ok t (by omega)
    refine fn_ok tt_ok (fn := Tryz.f17) Tryz.func17 rfl Tryz.call17 ?_
    simp only [startSt, Tryz.ntmps17, List.length_cons, List.length_nil, Nat.reduceAdd, Nat.reduceSub, List.replicate_succ, List.replicate_zero, List.cons_append, List.nil_append]
    rw [encTy_eq] at hp ⊢
    simp only [tyCells] at hp ⊢
    refine tri_seq_region tt_ok fun K hK => ?_
    simp only [runOps, stepOp, wantedV, opV, St.eval, St.put, absV, cellsV, oneV, List.all_cons, List.all_nil, Bool.and_self, Value.oneCell', if_true, if_false, setMem, List.length_nil, Nat.lt_irrefl, List.nil_append, List.set_cons_zero, List.set_cons_succ, List.getD_cons_zero]
    refine hK _ ?_
    clear hK K
    refine tri_seq_region tt_ok fun K hK => ?_
    simp only [runOps, stepOp, wantedV, opV, St.eval, St.put, absV, List.set_cons_zero, List.set_cons_succ]
    refine hK _ ?_
    clear hK K
    refine tri_seq_region tt_ok fun K hK => ?_
    simp only [runOps, stepOp, wantedV, opV, St.eval, St.put, if_true, List.length_cons, List.length_nil, List.nil_append, List.append_nil, List.set_cons_zero, List.set_cons_succ, List.getD_cons_zero, List.getD_cons_succ, List.map_nil, List.map_cons, loadV, pickCells, List.drop_zero, List.take_succ_cons, List.take_zero, List.getElem?_cons_zero, List.head?_cons, Nat.zero_add, Nat.reduceAdd, Nat.le_refl, calleeOf, tt25]
    refine .inl ⟨_, _, by simp only [purL, pur1, purCells, purCell, nilS], hp, ?_⟩
    try simp only [St.put, List.append_nil, List.set_cons_zero, List.set_cons_succ, List.getD_cons_zero, List.getD_cons_succ, memAfter_nil, List.flatMap_cons, List.flatMap_nil, ref1, refCell]
    refine hK _ ?_
    clear hK K
    refine tri_seq ?_
    refine tri_seq_region tt_ok fun K hK => ?_
    simp only [runOps, stepOp, wantedV, opV, St.eval, St.put, absV, List.set_cons_zero, List.set_cons_succ]
    refine hK _ ?_
    clear hK K
    obtain ⟨ps, hps'⟩ : ∃ ps, ps = t.parts := ⟨_, rfl⟩
    rw [← hps'] at hps hpn hdp ⊢
    refine tri_block (tri_loop_inv (fun N st => ∃ (i : Nat), N = ps.length - i ∧ i ≤ ps.length ∧
      st = { fr := [.undef, .undef, .undef, num ((maxBy Ty.depth (ps.take i) : Nat)), .slice (encTys ps), num i] ++ List.replicate 17 .undef, mem := [] }) ps.length ?_ ?_)
    · exact ⟨0, [false, false, false, true, true, true], by omega, by simp only [maskFr, if_true, if_false, Bool.false_eq_true, List.all_cons, List.all_nil, belowV, Bool.and_self], by simp only [List.all_nil, List.take_zero], 0, by omega, by omega, rfl⟩
    · rintro N st ⟨i, rfl, hi, rfl⟩
      simp only [List.replicate_succ, List.replicate_zero, List.cons_append, List.nil_append]
      refine tri_seq ?_
      by_cases hlt : i < ps.length
      · have hd := lt_dec hlt
        refine tri_seq_region tt_ok fun K hK => ?_
        simp only [length_encTys, hd, runOps, stepOp, wantedV, opV, St.eval, St.put, List.set_cons_zero, List.set_cons_succ, List.getD_cons_zero, List.getD_cons_succ, tElem, List.map_nil, List.map_cons, List.getElem?_cons_zero, lenV, ev_lss, List.getElem?_toArray, nilLen, ev_len1, gnCmp, tt22]
        refine hK _ ?_
        clear hK K
        refine tri_cond rfl (tri_skip ?_)
        refine tri_seq (tri_block ?_)
        obtain ⟨u, hu⟩ : ∃ u, ps[i]? = some u := ⟨_, List.getElem?_eq_getElem hlt⟩
        have hus := sumBy_mem Ty.size hu
        have hts := maxBy_take_succ Ty.depth hu
        have hrec := ih u (by omega) (by omega)
        rw [encTy_eq] at hrec
        simp only [tyCells] at hrec
        refine tri_last_region tt_ok fun K hK => ?_
        simp only [get_encTys, hu, encTy_eq, tyCells, runOps, stepOp, wantedV, opV, St.eval, St.put, if_true, List.length_cons, List.length_nil, List.nil_append, List.append_nil, List.set_cons_zero, List.set_cons_succ, List.getD_cons_zero, List.getD_cons_succ, tElem, tSize, List.map_nil, List.map_cons, loadV, pickCells, List.take_succ_cons, List.take_zero, List.head?_cons, Nat.zero_add, Nat.reduceAdd, Nat.le_refl, Int.natCast_nonneg, indexV, indexAt, Int.toNat_natCast, V.cells, calleeOf, Option.map_some, tt22, tt25]
        refine .inl ⟨_, _, by simp only [purL, pur1, purCells, purCell, nilS], hrec, ?_⟩
        try simp only [St.put, List.append_nil, List.set_cons_zero, List.set_cons_succ, List.getD_cons_zero, List.getD_cons_succ, ev_max, memAfter_nil, List.flatMap_cons, List.flatMap_nil, ref1, refCell]
        refine hK _ ?_
        clear hK K
        rw [i64_max, ← hts]
        refine tri_last_region tt_ok fun K hK => ?_
        simp only [runOps, stepOp, wantedV, opV, St.eval, St.put, absV, List.set_cons_zero, List.set_cons_succ, List.getD_cons_zero, List.getD_cons_succ, ev_add, nilLen, gnCmp]
        refine hK _ ?_
        clear hK K
        have hw2 := i64_succ i (by omega)
        rw [hw2]
        exact ⟨ps.length - (i + 1), by omega, 0, [false, false, false, true, true, true], by omega, by simp only [maskFr, if_true, if_false, Bool.false_eq_true, List.all_cons, List.all_nil, belowV, Bool.and_self], by simp only [List.all_nil, List.take_nil], i + 1, rfl, hlt, by simp [maskFr]⟩
      · have hd := ge_dec hlt
        refine tri_seq_region tt_ok fun K hK => ?_
        simp only [length_encTys, hd, runOps, stepOp, wantedV, opV, St.eval, St.put, List.set_cons_zero, List.set_cons_succ, List.getD_cons_zero, List.getD_cons_succ, tElem, List.map_nil, List.map_cons, List.getElem?_cons_zero, lenV, ev_lss, List.getElem?_toArray, nilLen, ev_len1, gnCmp, tt22]
        refine hK _ ?_
        clear hK K
        refine tri_cond rfl (tri_exit ?_)
        have hie : i = ps.length := by omega
        subst hie
        show Tri _ _ _ _ _ _
        refine tri_seq_region tt_ok fun K hK => ?_
        simp only [runOps, stepOp, wantedV, opV, St.eval, St.put, absV, List.set_cons_zero, List.set_cons_succ, List.getD_cons_zero, List.getD_cons_succ, ev_add, nilLen, gnCmp]
        refine hK _ ?_
        clear hK K
        refine tri_ret ⟨.inl rfl, ?_⟩
        rw [List.take_length, i64_succ _ (by omega)]
        have hfin : maxBy Ty.depth ps + 1 = t.depth := by omega
        rw [hfin]
        simp [retV, resL, resV, Tryz.f17, pur, pur1, purCell, nilS]

theorem stdepth_ok : ∀ (N : Nat) (t : Ty), t.size ≤ N → N ≤ 1048576 → FnOk Tryz.prog 16 [encTy t] (num t.depth) := by
  intro N
  induction N with
  | zero => intro t h; have := t.size_pos; omega
  | succ N ih =>
    intro t hN hb
    have hpl := t.parts_length
    have hps := t.size_parts
    have hds := Ty.depth_le_size _ t (Nat.le_refl _)
    have hdp := t.depth_parts
    have hpn := length_le_sum Ty.size Ty.size_pos t.parts
    have hp := sparts_ok t (by omega)
    refine fn_ok tt_ok (fn := Tryz.f16) Tryz.func16 rfl Tryz.call16 ?_
    simp only [startSt, Tryz.ntmps16, List.length_cons, List.length_nil, Nat.reduceAdd, Nat.reduceSub, List.replicate_succ, List.replicate_zero, List.cons_append, List.nil_append]
    rw [encTy_eq] at hp ⊢
    simp only [tyCells] at hp ⊢
    refine tri_seq_region tt_ok fun K hK => ?_
    simp only [runOps, stepOp, wantedV, opV, St.eval, St.put, absV, cellsV, oneV, List.all_cons, List.all_nil, Bool.and_self, Value.oneCell', if_true, if_false, setMem, List.length_nil, Nat.lt_irrefl, List.nil_append, List.set_cons_zero, List.set_cons_succ, List.getD_cons_zero]
    refine hK _ ?_
    clear hK K
    refine tri_seq_region tt_ok fun K hK => ?_
    simp only [runOps, stepOp, wantedV, opV, St.eval, St.put, absV, List.set_cons_zero, List.set_cons_succ]
    refine hK _ ?_
    clear hK K
    refine tri_seq ?_
    refine tri_seq_region tt_ok fun K hK => ?_
    simp only [runOps, stepOp, wantedV, opV, St.eval, St.put, absV, if_true, List.length_cons, List.length_nil, List.nil_append, List.append_nil, List.set_cons_zero, List.set_cons_succ, List.getD_cons_zero, List.getD_cons_succ, tElem, List.map_nil, List.map_cons, loadV, pickCells, List.drop_zero, List.take_succ_cons, List.take_zero, List.getElem?_cons_zero, List.head?_cons, Nat.zero_add, Nat.reduceAdd, Nat.le_refl, lenV, calleeOf, List.getElem?_toArray, tt22, tt25]
    refine .inl ⟨_, _, by simp only [purL, pur1, purCells, purCell, nilS], hp, ?_⟩
    try simp only [length_encTys, St.put, List.append_nil, List.set_cons_zero, List.set_cons_succ, List.getD_cons_zero, List.getD_cons_succ, memAfter_nil, List.flatMap_cons, List.flatMap_nil, ref1, refCell, ev_len1]
    refine hK _ ?_
    clear hK K
    obtain ⟨ps, hps'⟩ : ∃ ps, ps = t.parts := ⟨_, rfl⟩
    rw [← hps'] at hps hpn hdp ⊢
    refine tri_block (tri_loop_inv (fun N st => ∃ (i : Nat), N = ps.length - i ∧ i ≤ ps.length ∧
      st = { fr := [.undef, .undef, .undef, num ((maxBy Ty.depth (ps.take i) : Nat)), .undef, .undef, .undef, .slice (encTys ps), num ps.length, num i] ++ List.replicate 10 .undef, mem := [] }) ps.length ?_ ?_)
    · exact ⟨0, [false, false, false, true, false, false, false, true, true, true], by omega, by simp only [maskFr, if_true, if_false, Bool.false_eq_true, List.all_cons, List.all_nil, belowV, Bool.and_self], by simp only [List.all_nil, List.take_zero], 0, by omega, by omega, rfl⟩
    · rintro N st ⟨i, rfl, hi, rfl⟩
      simp only [List.replicate_succ, List.replicate_zero, List.cons_append, List.nil_append]
      by_cases hlt : i < ps.length
      · have hd := lt_dec hlt
        refine tri_seq_region tt_ok fun K hK => ?_
        simp only [hd, runOps, stepOp, wantedV, opV, St.eval, St.put, List.set_cons_zero, List.set_cons_succ, List.getD_cons_zero, List.getD_cons_succ, ev_lss, nilLen, gnCmp]
        refine hK _ ?_
        clear hK K
        refine tri_seq (tri_cond rfl (tri_skip ?_))
        refine tri_seq (tri_block ?_)
        obtain ⟨u, hu⟩ : ∃ u, ps[i]? = some u := ⟨_, List.getElem?_eq_getElem hlt⟩
        have hus := sumBy_mem Ty.size hu
        have hts := maxBy_take_succ Ty.depth hu
        have hrec := ih u (by omega) (by omega)
        rw [encTy_eq] at hrec
        simp only [tyCells] at hrec
        refine tri_seq_region tt_ok fun K hK => ?_
        simp only [get_encTys, hu, encTy_eq, tyCells, runOps, stepOp, wantedV, opV, St.eval, St.put, cellsV, oneV, List.all_cons, List.all_nil, Bool.and_self, Value.oneCell', if_true, if_false, setMem, List.length_cons, List.length_nil, Nat.lt_irrefl, List.nil_append, List.set_cons_zero, List.set_cons_succ, List.getD_cons_zero, List.getD_cons_succ, tElem, tSize, List.map_nil, List.map_cons, loadV, pickCells, List.take_succ_cons, List.take_zero, List.getElem?_cons_zero, List.head?_cons, Nat.zero_add, Nat.reduceAdd, Nat.le_refl, Int.natCast_nonneg, indexV, indexAt, Int.toNat_natCast, V.cells, Option.map_some, storeV, spliceL, tt22, tt25]
        refine hK _ ?_
        clear hK K
        refine tri_last_region tt_ok fun K hK => ?_
        simp only [runOps, stepOp, wantedV, opV, St.eval, St.put, if_true, List.length_cons, List.length_nil, List.nil_append, List.append_nil, List.set_cons_zero, List.set_cons_succ, List.getD_cons_zero, List.getD_cons_succ, List.map_nil, List.map_cons, loadV, pickCells, List.drop_zero, List.take_succ_cons, List.take_zero, List.getElem?_cons_zero, List.head?_cons, Nat.zero_add, Nat.reduceAdd, Nat.le_refl, calleeOf, tt25]
        refine .inl ⟨_, _, by simp only [purL, pur1, purCells, purCell, nilS], hrec, ?_⟩
        try simp only [St.put, List.append_nil, List.set_cons_zero, List.set_cons_succ, List.getD_cons_zero, List.getD_cons_succ, ev_max, memAfter_nil, List.flatMap_cons, List.flatMap_nil, ref1, refCell]
        refine hK _ ?_
        clear hK K
        rw [i64_max, ← hts]
        refine tri_last_region tt_ok fun K hK => ?_
        simp only [runOps, stepOp, wantedV, opV, St.eval, St.put, absV, List.set_cons_zero, List.set_cons_succ, List.getD_cons_zero, List.getD_cons_succ, ev_add, nilLen, gnCmp]
        refine hK _ ?_
        clear hK K
        have hw2 := i64_succ i (by omega)
        rw [hw2]
        exact ⟨ps.length - (i + 1), by omega, 0, [false, false, false, true, false, false, false, true, true, true], by omega, by simp only [maskFr, if_true, if_false, Bool.false_eq_true, List.all_cons, List.all_nil, belowV, Bool.and_self], by simp only [List.all_nil, List.take_zero], i + 1, rfl, hlt, by simp [maskFr]⟩
      · have hd := ge_dec hlt
        refine tri_seq_region tt_ok fun K hK => ?_
        simp only [hd, runOps, stepOp, wantedV, opV, St.eval, St.put, List.set_cons_zero, List.set_cons_succ, List.getD_cons_zero, List.getD_cons_succ, ev_lss, nilLen, gnCmp]
        refine hK _ ?_
        clear hK K
        refine tri_seq (tri_cond rfl (tri_exit ?_))
        have hie : i = ps.length := by omega
        subst hie
        show Tri _ _ _ _ _ _
        refine tri_seq_region tt_ok fun K hK => ?_
        simp only [runOps, stepOp, wantedV, opV, St.eval, St.put, absV, List.set_cons_zero, List.set_cons_succ, List.getD_cons_zero, List.getD_cons_succ, ev_add, nilLen, gnCmp]
        refine hK _ ?_
        clear hK K
        refine tri_ret ⟨.inl rfl, ?_⟩
        rw [List.take_length, i64_succ _ (by omega)]
        have hfin : maxBy Ty.depth ps + 1 = t.depth := by omega
        rw [hfin]
        simp [retV, resL, resV, Tryz.f16, pur, pur1, purCell, nilS]
end Go.Proofs.YtpjdfcigadnhcaaGreatDoor
end

section
namespace Go.Proofs.YtpjdfcigadnhcaaGreatDoor
open Go.Eng
variable [Glob]
mutual
def Ty.nodes : Ty → List Ty
  | .mk k m n ts fs => .mk k m n ts fs :: (nodesTys ts ++ nodesFds fs)
def nodesTys : List Ty → List Ty
  | [] => []
  | t :: r => t.nodes ++ nodesTys r
def Fd.nodes : Fd → List Ty
  | .mk _ (.mk k m n ts fs) _ => .mk k m n ts fs :: (nodesTys ts ++ nodesFds fs)
def nodesFds : List Fd → List Ty
  | [] => []
  | f :: r => f.nodes ++ nodesFds r
end
theorem Fd.nodes_ty (f : Fd) : f.nodes = f.ty.nodes := by obtain ⟨n', ⟨k, m, n, ts, fs⟩, o⟩ := f; rfl
theorem nodesTys_eq (ts : List Ty) : nodesTys ts = ts.flatMap Ty.nodes := by induction ts with | nil => rfl | cons t r ih => simp [nodesTys, ih]
theorem nodesFds_eq (ts : List Fd) : nodesFds ts = (ts.map Fd.ty).flatMap Ty.nodes := by induction ts with | nil => rfl | cons t r ih => simp [nodesFds, ih, Fd.nodes_ty]
theorem Ty.nodes_eq (t : Ty) : t.nodes = t :: t.parts.flatMap Ty.nodes := by
  obtain ⟨k, m, n, ts, fs⟩ := t
  simp only [Ty.nodes, Ty.parts, Ty.args, Ty.flds, nodesTys_eq, nodesFds_eq, List.flatMap_append]
theorem Ty.nodes_length : ∀ (N : Nat) (t : Ty), t.size ≤ N → t.nodes.length = t.size := by
  intro N
  induction N with
  | zero => intro t h; have := t.size_pos; omega
  | succ N ih =>
    intro t hN
    have h1 := t.size_parts
    have gen : ∀ (l : List Ty), sumBy Ty.size l ≤ N → (l.flatMap Ty.nodes).length = sumBy Ty.size l := by
      intro l
      induction l with
      | nil => intro _; rfl
      | cons a r ihr =>
        intro hl
        simp only [sumBy] at hl ⊢
        rw [List.flatMap_cons, List.length_append, ih a (by omega), ihr (by omega)]
    rw [Ty.nodes_eq, List.length_cons, gen _ (by omega)]; omega

section
variable {σ α : Type}
def stepL (step : σ → α → σ × Bool) : σ → List α → σ × Bool
  | s, [] => (s, true)
  | s, u :: r => if (step s u).2 = true then stepL step (step s u).1 r else ((step s u).1, false)
theorem stepL_append (step : σ → α → σ × Bool) : ∀ (a : List α) (s : σ) (b : List α), stepL step s (a ++ b) = if (stepL step s a).2 = true then stepL step (stepL step s a).1 b else ((stepL step s a).1, false)
  | [], s, b => by simp [stepL]
  | u :: r, s, b => by
    simp only [List.cons_append, stepL]
    split
    · exact stepL_append step r _ b
    · simp
theorem stepL_good (step : σ → α → σ × Bool) {G : σ → Prop} (hG : ∀ s u, G s → (step s u).2 = true → G (step s u).1) : ∀ (l : List α) (s : σ), G s → (stepL step s l).2 = true → G (stepL step s l).1
  | [], s, h, _ => h
  | u :: r, s, h, hs => by
    simp only [stepL] at hs ⊢
    split at hs
    · rename_i hu; rw [if_pos hu]; exact stepL_good step hG r _ (hG s u h hu) hs
    · cases hs
theorem stepL_one (step : σ → α → σ × Bool) (s : σ) (u : α) : stepL step s [u] = ((step s u).1, (step s u).2) := by
  simp only [stepL]; split
  · rename_i h; rw [h]
  · rename_i h; simp at h; rw [h]
end

section
variable {σ : Type} {M : σ → List Blk} {n k k1 k2 : Nat}
theorem walk_ok (hn : ∀ s, (M s).length = n) (hk : k < n) (hk1 : k1 < n) (hk2 : k2 < n) (h1 : ∀ s, (M s)[k1]? = some (.box [.yld k])) (h2 : ∀ s, (M s)[k2]? = some (.box [.clo (.func 92) [] [.ptr k1 0, .ptr k2 0]])) (hb : ∀ s, (M s).all (belowB n) = true)
    (step : σ → Ty → σ × Bool) (G : σ → Prop) (hG : ∀ s u, G s → (step s u).2 = true → G (step s u).1) {B : Nat} (hB : B ≤ 1048576) (hy : ∀ s u, G s → u.size ≤ B → YOk Tryz.prog k [encTy u] (M s) (step s u).2 (M (step s u).1)) :
    ∀ (N : Nat) (t : Ty) (s : σ), G s → t.size ≤ N → N ≤ B → FnOkS Tryz.prog 92 [encTy t, .ptr k1 0, .ptr k2 0] (M s) (bl (stepL step s t.nodes).2) (M (stepL step s t.nodes).1) := by
  have g0 : ∀ s (l : List Blk), (M s ++ l)[n]? = l[0]? := fun s l => by rw [List.getElem?_append_right (by rw [hn]; exact Nat.le_refl _), hn, Nat.sub_self]
  have g1 : ∀ s (l : List Blk), (M s ++ l)[n + 1]? = l[1]? := fun s l => by rw [List.getElem?_append_right (by rw [hn]; omega), hn, Nat.add_sub_cancel_left]
  have gk1 : ∀ s (l : List Blk), (M s ++ l)[k1]? = some (.box [.yld k]) := fun s l => by rw [List.getElem?_append_left (by rw [hn]; exact hk1)]; exact h1 s
  have gk2 : ∀ s (l : List Blk), (M s ++ l)[k2]? = some (.box [.clo (.func 92) [] [.ptr k1 0, .ptr k2 0]]) := fun s l => by rw [List.getElem?_append_left (by rw [hn]; exact hk2)]; exact h2 s
  have gs : ∀ s (l : List Blk) X, (M s ++ l).set n X = M s ++ l.set 0 X := fun s l X => by rw [List.set_append_right _ _ (by rw [hn]; exact Nat.le_refl _), hn, Nat.sub_self]
  have gt : ∀ s (l : List Blk), (M s ++ l).take n = M s := fun s l => by rw [← hn s, List.take_left]
  have gt' : ∀ s, (M s).take n = M s := fun s => by rw [List.take_of_length_le (by rw [hn]; exact Nat.le_refl _)]
  have fy : ∀ s u (l : List Blk), G s → u.size ≤ B → YOk Tryz.prog k [encTy u] (M s ++ l) (step s u).2 (M (step s u).1 ++ l) := fun s u l hg hu => by
    refine (hy s u hg hu).frame (by rw [hn]; exact hk) ?_ (by rw [hn]; exact hb s) (by rw [hn, hn]) (by rw [hn]; exact hb _) l
    rw [encTy_eq]; simp [belowV, belowL, tyCells]
  intro N
  induction N with
  | zero => intro t s hg h; have := t.size_pos; omega
  | succ N ih =>
    intro t s hg hN hNB
    have hpl := t.parts_length
    have hps := t.size_parts
    have hpn := length_le_sum Ty.size Ty.size_pos t.parts
    have hne := t.nodes_eq
    have hp := sparts_ok t (by omega)
    have hyt := fun l => fy s t l hg (by omega)
    have ihf : ∀ u s (l : List Blk), G s → u.size ≤ N → FnOkS Tryz.prog 92 [encTy u, .ptr k1 0, .ptr k2 0] (M s ++ l) (bl (stepL step s u.nodes).2) (M (stepL step s u.nodes).1 ++ l) := fun u s l hg hu => by
      refine (ih u s hg hu (by omega)).frame ?_ (by rw [hn]; exact hb s) rfl (by rw [hn, hn]) (by rw [hn]; exact hb _) l
      rw [encTy_eq, hn]; simp [belowV, belowL, tyCells, hk1, hk2]
    simp only [encTy_eq, tyCells] at ihf
    refine fns_ok tt_ok (fn := Tryz.f92) n (by rw [hn]; exact Nat.le_refl _) Tryz.func92 rfl Tryz.call92 ?_
    simp only [startSt, Tryz.ntmps92, List.length_cons, List.length_nil, Nat.reduceAdd, Nat.reduceSub, List.replicate_succ, List.replicate_zero, List.cons_append, List.nil_append]
    rw [encTy_eq] at hp hyt ⊢
    simp only [tyCells] at hp hyt ⊢
    refine tri_seq_region tt_ok fun K hK => ?_
    simp only [hn, runOps, stepOp, wantedV, opV, St.eval, St.put, absV, cellsV, oneV, List.all_cons, List.all_nil, Bool.and_self, Value.oneCell', if_true, if_false, setMem, Nat.lt_irrefl, List.set_cons_zero, List.set_cons_succ, List.getD_cons_zero]
    refine hK _ ?_
    clear hK K
    refine tri_seq ?_
    refine tri_seq_region tt_ok fun K hK => ?_
    simp only [gk1, g0, runOps, stepOp, wantedV, opV, St.eval, St.put, if_true, if_false, List.length_cons, List.length_nil, List.set_cons_zero, List.set_cons_succ, List.getD_cons_zero, List.getD_cons_succ, List.map_nil, List.map_cons, loadV, pickCells, List.drop_zero, List.take_succ_cons, List.take_zero, List.getElem?_cons_zero, List.head?_cons, Nat.zero_add, Nat.reduceAdd, Nat.le_refl, Bool.false_eq_true, ev_not, tt25, tt127]
    refine .inl ⟨_, _, hyt _, ?_⟩
    try simp only [runOps, stepOp, wantedV, opV, St.eval, St.put, absV, cellsV, oneV, List.all_cons, List.all_nil, Bool.and_true, Bool.true_and, Bool.and_self, Value.oneCell', if_true, if_false, reduceIte, setMem, List.length_cons, List.length_nil, Nat.lt_irrefl, List.nil_append, List.cons_append, List.append_nil, List.set_cons_zero, List.set_cons_succ, List.getD_cons_zero, List.getD_cons_succ, litV, tElem, tSize, seqParts, litRows, List.map_nil, List.map_cons, Nat.zero_mul, fieldV, tOff, fieldAt, loadV, pickCells, List.drop_zero, List.drop_succ_cons, List.take_succ_cons, List.take_zero, List.getElem?_cons_zero, List.getElem?_cons_succ, List.head?_cons, Nat.zero_add, Nat.add_zero, Nat.reduceAdd, Nat.reduceLT, Nat.reduceLeDiff, Nat.reduceMul, Nat.reduceEqDiff, Nat.reduceSub, Nat.zero_le, Nat.le_refl, true_and, and_true, and_self, appendV, liveRows, rowsOf, appOut, reduceCtorEq, Bool.false_eq_true, lenV, ev_add, ev_sub, ev_mul, ev_lss, ev_leq, ev_gtr, ev_geq, ev_eql, ev_neq, ev_max, ev_min, ev_not, ev_seql, ev_sneq, ev_slss, ev_sgtr, Int.natCast_nonneg, indexV, indexAt, Int.toNat_natCast, V.cells, intV, cutV, nilV, calleeOf, Option.map_some, Option.map_none, Option.bind_some, List.size_toArray, List.getElem?_toArray, beq_self_eq_true, decide_true, decide_false, Bool.not_true, Bool.not_false, nilLen, sliceLen, nilAns, storeV, spliceL, pureCell, rowV, nilS, rowOf, sizeOfBlk, ne_eq, not_true_eq_false, not_false_eq_true, buildV, fillL, V.sc.injEq, Value.bool.injEq, memAfter_nil, List.flatMap_cons, List.flatMap_nil, ref1, refCell, ev_ft, ev_tf, ev_len1, ev_len2, ev_len3, gnCmp, tt1, tt2, tt3, tt4, tt5, tt6, tt7, tt8, tt9, tt10, tt11, tt12, tt13, tt14, tt15, tt16, tt17, tt18, tt19, tt20, tt21, tt22, tt23, tt24, tt25, tt26, tt27, tt28, tt29, tt30, tt31, tt32, tt33, tt34, tt35, tt36, tt37, tt38, tt39, tt40, tt41, tt42, tt43, tt44, tt45, tt46, tt47, tt48, tt49, tt50, tt51, tt52, tt53, tt55, tt56, tt57, tt58, tt59, tt60, tt61, tt62, tt63, tt64, tt65, tt66, tt67, tt68, tt69, tt70, tt71, tt72, tt73, tt74, tt75, tt76, tt77, tt78, tt79, tt80, tt81, tt82, tt83, tt84, tt85, tt86, tt87, tt88, tt89, tt90, tt91, tt92, tt93, tt94, tt95, tt96, tt97, tt98, tt99, tt100, tt101, tt102, tt103, tt104, tt105, tt106, tt107, tt108, tt109, tt110, tt111, tt112, tt113, tt114, tt115, tt116, tt117, tt118, tt119, tt120, tt121, tt122, tt123, tt124, tt125, tt126, tt127, tt128, tt129, tt130]
    refine hK _ ?_
    clear hK K
    cases hbb : (step s t).2 with
    | false =>
      refine tri_cond rfl ?_
      refine tri_seq_region tt_ok fun K hK => ?_
      simp only [runOps, stepOp, wantedV, opV, St.eval, St.put, absV, List.set_cons_zero, List.set_cons_succ, Bool.not_false]
      refine hK _ ?_
      clear hK K
      refine tri_ret ⟨.inl rfl, ?_⟩
      have hst : stepL step s t.nodes = ((step s t).1, false) := by rw [hne]; simp [stepL, hbb]
      rw [hst]
      exact ⟨rfl, rfl, by dsimp only; rw [gt]; exact hb _, (gt _ _).symm⟩
    | true =>
      refine tri_cond rfl (tri_skip ?_)
      show Tri _ _ _ _ _ _
      refine tri_seq ?_
      refine tri_seq_region tt_ok fun K hK => ?_
      simp only [g0, runOps, stepOp, wantedV, opV, St.eval, St.put, absV, if_true, List.length_cons, List.length_nil, List.nil_append, List.append_nil, List.set_cons_zero, List.set_cons_succ, List.getD_cons_zero, List.getD_cons_succ, tElem, List.map_nil, List.map_cons, loadV, pickCells, List.drop_zero, List.take_succ_cons, List.take_zero, List.getElem?_cons_zero, List.head?_cons, Nat.zero_add, Nat.reduceAdd, Nat.le_refl, lenV, calleeOf, List.getElem?_toArray, Bool.not_true, tt22, tt25]
      refine .inl ⟨_, _, by simp only [purL, pur1, purCells, purCell, nilS], hp, ?_⟩
      try simp only [length_encTys, St.put, List.append_nil, List.set_cons_zero, List.set_cons_succ, List.getD_cons_zero, List.getD_cons_succ, memAfter_nil, List.flatMap_cons, List.flatMap_nil, ref1, refCell, ev_len1]
      refine hK _ ?_
      clear hK K
      obtain ⟨ps, hps'⟩ : ∃ ps, ps = t.parts := ⟨_, rfl⟩
      rw [← hps'] at hps hpn hne ⊢
      refine tri_block (tri_loop_inv (fun N st => ∃ (i : Nat) (s' : σ), G s' ∧ N = ps.length - i ∧ i ≤ ps.length ∧ stepL step s (t :: (ps.take i).flatMap Ty.nodes) = (s', true) ∧
        st = { fr := [.undef, .ptr k1 0, .ptr k2 0, .undef, .undef, .undef, .undef, .undef, .undef, .undef, .undef, .undef, .slice (encTys ps), num ps.length, num i] ++ List.replicate 8 .undef, mem := M s' }) ps.length ?_ ?_)
      · refine ⟨n, [false, true, true, false, false, false, false, false, false, false, false, false, true, true, true], by rw [hn]; exact Nat.le_refl _, by simp only [maskFr, if_true, if_false, Bool.false_eq_true, List.all_cons, List.all_nil, belowV, decide_true, Bool.and_self, hk1, hk2], by dsimp only; rw [gt]; exact hb _, 0, (step s t).1, hG s t hg hbb, by omega, by omega, by simp [stepL, hbb], ?_⟩
        dsimp only; rw [gt]; rfl
      · rintro N' st ⟨i, s', hg', rfl, hi, hsi, rfl⟩
        simp only [List.replicate_succ, List.replicate_zero, List.cons_append, List.nil_append]
        by_cases hlt : i < ps.length
        · have hd := lt_dec hlt
          refine tri_seq_region tt_ok fun K hK => ?_
          simp only [hd, runOps, stepOp, wantedV, opV, St.eval, St.put, List.set_cons_zero, List.set_cons_succ, List.getD_cons_zero, List.getD_cons_succ, ev_lss, nilLen, gnCmp]
          refine hK _ ?_
          clear hK K
          refine tri_seq (tri_cond rfl (tri_skip ?_))
          refine tri_seq (tri_block ?_)
          obtain ⟨u, hu⟩ : ∃ u, ps[i]? = some u := ⟨_, List.getElem?_eq_getElem hlt⟩
          have hus := sumBy_mem Ty.size hu
          have hrec := fun l => ihf u s' l hg' (by omega)
          have htk : (ps.take (i + 1)).flatMap Ty.nodes = (ps.take i).flatMap Ty.nodes ++ u.nodes := by rw [List.take_add_one, hu]; simp
          have hnx : stepL step s (t :: (ps.take (i + 1)).flatMap Ty.nodes) = stepL step s' u.nodes := by
            rw [htk, ← List.cons_append, stepL_append, hsi]; simp
          refine tri_seq_region tt_ok fun K hK => ?_
          simp only [get_encTys, hu, encTy_eq, tyCells, hn, g0, gs, runOps, stepOp, wantedV, opV, St.eval, St.put, cellsV, oneV, List.all_cons, List.all_nil, Bool.and_self, Value.oneCell', if_true, if_false, setMem, List.length_cons, List.length_nil, Nat.lt_irrefl, List.set_cons_zero, List.set_cons_succ, List.getD_cons_zero, List.getD_cons_succ, tElem, tSize, List.map_nil, List.map_cons, loadV, pickCells, List.take_succ_cons, List.take_zero, List.getElem?_cons_zero, List.head?_cons, Nat.zero_add, Nat.reduceAdd, Nat.le_refl, Int.natCast_nonneg, indexV, indexAt, Int.toNat_natCast, V.cells, Option.map_some, storeV, spliceL, tt22, tt25]
          refine hK _ ?_
          clear hK K
          refine tri_seq_region tt_ok fun K hK => ?_
          simp only [gk2, g0, runOps, stepOp, wantedV, opV, St.eval, St.put, if_true, if_false, List.length_cons, List.length_nil, List.nil_append, List.cons_append, List.set_cons_zero, List.set_cons_succ, List.getD_cons_zero, List.getD_cons_succ, List.map_nil, List.map_cons, loadV, pickCells, List.drop_zero, List.take_succ_cons, List.take_zero, List.getElem?_cons_zero, List.head?_cons, Nat.zero_add, Nat.reduceAdd, Nat.le_refl, Bool.false_eq_true, calleeOf, tt25, tt127]
          refine .inr <| .inl ⟨_, _, hrec _, ?_⟩
          try simp only [St.put, List.set_cons_zero, List.set_cons_succ, List.getD_cons_zero, List.getD_cons_succ, ev_not]
          refine hK _ ?_
          clear hK K
          cases hbu : (stepL step s' u.nodes).2 with
          | false =>
            refine tri_cond rfl ?_
            refine tri_seq_region tt_ok fun K hK => ?_
            simp only [runOps, stepOp, wantedV, opV, St.eval, St.put, absV, List.set_cons_zero, List.set_cons_succ, Bool.not_false]
            refine hK _ ?_
            clear hK K
            refine tri_ret ⟨.inl rfl, ?_⟩
            have hst : stepL step s t.nodes = ((stepL step s' u.nodes).1, false) := by
              have hsplit : ps.flatMap Ty.nodes = (ps.take (i + 1)).flatMap Ty.nodes ++ (ps.drop (i + 1)).flatMap Ty.nodes := by rw [← List.flatMap_append, List.take_append_drop]
              rw [hne, hsplit, ← List.cons_append, stepL_append, hnx, hbu]; simp
            rw [hst]
            exact ⟨rfl, rfl, by dsimp only; rw [gt]; exact hb _, (gt _ _).symm⟩
          | true =>
            refine tri_cond rfl (tri_skip ?_)
            show Tri _ _ _ _ _ _
            refine tri_last_region tt_ok fun K hK => ?_
            simp only [runOps, stepOp, wantedV, opV, St.eval, St.put, absV, List.set_cons_zero, List.set_cons_succ, List.getD_cons_zero, List.getD_cons_succ, ev_add, Bool.not_true, nilLen, gnCmp]
            refine hK _ ?_
            clear hK K
            have hw2 := i64_succ i (by omega)
            rw [hw2]
            refine ⟨ps.length - (i + 1), by omega, n, [false, true, true, false, false, false, false, false, false, false, false, false, true, true, true], by rw [hn]; exact Nat.le_refl _, by simp only [maskFr, if_true, if_false, Bool.false_eq_true, List.all_cons, List.all_nil, belowV, decide_true, Bool.and_self, hk1, hk2], by dsimp only; rw [gt]; exact hb _, i + 1, (stepL step s' u.nodes).1, stepL_good step hG _ _ hg' hbu, rfl, hlt, by rw [hnx, ← hbu], ?_⟩
            dsimp only; rw [gt]; rfl
        · have hd := ge_dec hlt
          refine tri_seq_region tt_ok fun K hK => ?_
          simp only [hd, runOps, stepOp, wantedV, opV, St.eval, St.put, List.set_cons_zero, List.set_cons_succ, List.getD_cons_zero, List.getD_cons_succ, ev_lss, nilLen, gnCmp]
          refine hK _ ?_
          clear hK K
          refine tri_seq (tri_cond rfl (tri_exit ?_))
          have hie : i = ps.length := by omega
          subst hie
          show Tri _ _ _ _ _ _
          refine tri_seq_region tt_ok fun K hK => ?_
          simp only [runOps, stepOp, wantedV, opV, St.eval, St.put, absV, List.set_cons_zero, List.set_cons_succ]
          refine hK _ ?_
          clear hK K
          refine tri_ret ⟨.inl rfl, ?_⟩
          rw [List.take_length] at hsi
          rw [hne, hsi]
          exact ⟨rfl, rfl, by dsimp only; rw [gt']; exact hb _, (gt' _).symm⟩
end
end Go.Proofs.YtpjdfcigadnhcaaGreatDoor
end

section
namespace Go.Proofs.YtpjdfcigadnhcaaGreatDoor
open Go.Eng
variable [Glob]

theorem types_ok (t : Ty) (m : List Blk) (hb : m.all (belowB (m.length + 1)) = true) : FnOkS Tryz.prog 51 [encTy t] m (.clo (.func 91) [] [.ptr m.length 0]) (m ++ [.box (tyCells t)]) := by
  refine fns_ok tt_ok (fn := Tryz.f51) (m.length + 1) (by omega) Tryz.func51 rfl Tryz.call51 ?_
  simp only [startSt, Tryz.ntmps51, List.length_cons, List.length_nil, Nat.reduceAdd, Nat.reduceSub, List.replicate_succ, List.replicate_zero, List.cons_append, List.nil_append]
  rw [encTy_eq]
  simp only [tyCells]
  refine tri_seq_region tt_ok fun K hK => ?_
  simp only [runOps, stepOp, wantedV, opV, St.eval, St.put, absV, cellsV, oneV, List.all_cons, List.all_nil, Bool.and_self, Value.oneCell', if_true, if_false, setMem, Nat.lt_irrefl, List.set_cons_zero, List.set_cons_succ, List.getD_cons_zero]
  refine hK _ ?_
  clear hK K
  refine tri_seq_region tt_ok fun K hK => ?_
  simp only [runOps, stepOp, wantedV, opV, St.eval, St.put, List.set_cons_zero, List.set_cons_succ, List.getD_cons_zero, List.getD_cons_succ, List.map_nil, List.map_cons]
  refine hK _ ?_
  clear hK K
  have ht : ∀ B : Blk, (m ++ [B]).take (m.length + 1) = m ++ [B] := fun B => List.take_of_length_le (by simp)
  refine tri_ret ⟨.inl rfl, rfl, by simp [belowV, belowL], ?_, ?_⟩
  · dsimp only; rw [ht]; simp [hb, belowB, belowV]
  · dsimp only; rw [ht]

section
variable {σ : Type} {M : σ → List Blk} {n k kt : Nat}
theorem iter_ok (hn : ∀ s, (M s).length = n) (hk : k < n) (hkt : kt < n) {t : Ty} (h1 : ∀ s, (M s)[kt]? = some (.box (tyCells t))) (hb : ∀ s, (M s).all (belowB n) = true)
    (step : σ → Ty → σ × Bool) (G : σ → Prop) (hG : ∀ s u, G s → (step s u).2 = true → G (step s u).1) {B : Nat} (hB : B ≤ 1048576) (hy : ∀ s u, G s → u.size ≤ B → YOk Tryz.prog k [encTy u] (M s) (step s u).2 (M (step s u).1)) (ht : t.size ≤ B) (s : σ) (hs : G s) :
    FnOkS Tryz.prog 91 [.yld k, .ptr kt 0] (M s) (.tup []) (M (stepL step s t.nodes).1) := by
  have g0 : ∀ s (l : List Blk), (M s ++ l)[n]? = l[0]? := fun s l => by rw [List.getElem?_append_right (by rw [hn]; exact Nat.le_refl _), hn, Nat.sub_self]
  have g1 : ∀ s (l : List Blk), (M s ++ l)[n + 1]? = l[1]? := fun s l => by rw [List.getElem?_append_right (by rw [hn]; omega), hn, Nat.add_sub_cancel_left]
  have gkt : ∀ s (l : List Blk), (M s ++ l)[kt]? = some (.box (tyCells t)) := fun s l => by rw [List.getElem?_append_left (by rw [hn]; exact hkt)]; exact h1 s
  have gs : ∀ s (l : List Blk) X, (M s ++ l).set (n + 1) X = M s ++ l.set 1 X := fun s l X => by rw [List.set_append_right _ _ (by rw [hn]; omega), hn, Nat.add_sub_cancel_left]
  have gt : ∀ s (l : List Blk), (M s ++ l).take n = M s := fun s l => by rw [← hn s, List.take_left]
  have hw : ∀ s, G s → FnOkS Tryz.prog 92 [encTy t, .ptr n 0, .ptr (n + 1) 0] (M s ++ [.box [.yld k], .box [.clo (.func 92) [] [.ptr n 0, .ptr (n + 1) 0]]]) (bl (stepL step s t.nodes).2) (M (stepL step s t.nodes).1 ++ [.box [.yld k], .box [.clo (.func 92) [] [.ptr n 0, .ptr (n + 1) 0]]]) := fun s hs => by
    refine walk_ok (M := fun s => M s ++ [.box [.yld k], .box [.clo (.func 92) [] [.ptr n 0, .ptr (n + 1) 0]]]) (n := n + 2) (k := k) (k1 := n) (k2 := n + 1) (fun s => by simp [hn]) (by omega) (by omega) (by omega) (fun s => g0 _ _) (fun s => g1 _ _) (fun s => ?_) step G hG hB (fun s u hg hu => ?_) t.size t s hs (Nat.le_refl _) ht
    · rw [List.all_append, Bool.and_eq_true]
      refine ⟨belowBs_mono (by omega) (hb s), ?_⟩
      simp [belowB, belowV, belowL]; omega
    · refine (hy s u hg hu).frame (by rw [hn]; exact hk) ?_ (by rw [hn]; exact hb s) (by rw [hn, hn]) (by rw [hn]; exact hb _) _
      rw [encTy_eq]; simp [belowV, belowL, tyCells]
  refine fns_ok tt_ok (fn := Tryz.f91) n (by rw [hn]; exact Nat.le_refl _) Tryz.func91 rfl Tryz.call91 ?_
  simp only [startSt, Tryz.ntmps91, List.length_cons, List.length_nil, Nat.reduceAdd, Nat.reduceSub, List.replicate_succ, List.replicate_zero, List.cons_append, List.nil_append]
  have hws := hw s hs
  rw [encTy_eq] at hws
  simp only [tyCells] at hws gkt
  refine tri_seq_region tt_ok fun K hK => ?_
  simp only [hn, runOps, stepOp, wantedV, St.eval, St.put, cellsV, oneV, if_true, if_false, setMem, Nat.lt_irrefl, List.set_cons_zero, List.set_cons_succ, List.getD_cons_zero]
  refine hK _ ?_
  clear hK K
  refine tri_seq_region tt_ok fun K hK => ?_
  simp only [hn, List.length_append, List.append_assoc, runOps, stepOp, wantedV, St.put, if_false, setMem, List.length_cons, List.length_nil, Nat.lt_irrefl, List.nil_append, List.cons_append, List.set_cons_zero, List.set_cons_succ, List.map_nil, List.map_cons, Nat.zero_add, tt127]
  refine hK _ ?_
  clear hK K
  refine tri_seq_region tt_ok fun K hK => ?_
  simp only [g1, gs, runOps, stepOp, wantedV, opV, St.eval, St.put, cellsV, oneV, if_true, List.length_cons, List.length_nil, List.set_cons_zero, List.set_cons_succ, List.getD_cons_zero, List.getD_cons_succ, tSize, List.map_nil, List.map_cons, List.getElem?_cons_zero, List.getElem?_cons_succ, Nat.zero_add, Nat.le_refl, storeV, spliceL, tt127]
  refine hK _ ?_
  clear hK K
  refine tri_last_region tt_ok fun K hK => ?_
  simp only [g1, gkt, runOps, stepOp, wantedV, opV, St.eval, St.put, if_true, if_false, List.length_cons, List.length_nil, List.nil_append, List.cons_append, List.set_cons_zero, List.set_cons_succ, List.getD_cons_zero, List.getD_cons_succ, List.map_nil, List.map_cons, loadV, pickCells, List.drop_zero, List.take_succ_cons, List.take_zero, List.getElem?_cons_zero, List.getElem?_cons_succ, List.head?_cons, Nat.zero_add, Nat.reduceAdd, Nat.le_refl, Bool.false_eq_true, calleeOf, tt25, tt127]
  refine .inr <| .inl ⟨_, _, hws, ?_⟩
  try simp only [St.put, List.set_cons_zero, List.set_cons_succ]
  refine hK _ ?_
  clear hK K
  refine ⟨.inr rfl, rfl, rfl, ?_, ?_⟩
  · dsimp only; rw [gt]; exact hb _
  · dsimp only; rw [gt]

/-- What a body makes of the states, with the jump that it leaves by. -/
def stepJ {α : Type} (step : σ → α → σ × Option Code) : σ → List α → σ × Option Code
  | s, [] => (s, none)
  | s, u :: r => match (step s u).2 with
    | none => stepJ step (step s u).1 r
    | some c => ((step s u).1, some c)
def stepB {α : Type} (step : σ → α → σ × Option Code) (s : σ × Option Code) (u : α) : (σ × Option Code) × Bool := (step s.1 u, (step s.1 u).2.isNone)
theorem stepJ_L {α : Type} (step : σ → α → σ × Option Code) : ∀ (l : List α) (s : σ), (stepL (stepB step) (s, none) l).1 = stepJ step s l
  | [], s => rfl
  | u :: r, s => by
    simp only [stepL, stepJ]
    have hb1 : (stepB step (s, none) u).1 = step s u := rfl
    have hb2 : (stepB step (s, none) u).2 = (step s u).2.isNone := rfl
    by_cases hnone : (step s u).2.isNone = true
    · rw [if_pos (hb2.trans hnone), hb1]
      have h2 : (step s u).2 = none := by simpa using hnone
      have e : step s u = ((step s u).1, none) := Prod.ext rfl h2
      have h3 := stepJ_L step r (step s u).1
      rw [← e] at h3
      rw [h2]
      exact h3
    · have hsome := hnone
      rw [if_neg (fun h => hsome (hb2.symm.trans h)), hb1]
      cases h2 : (step s u).2 with
      | none => rw [h2] at hsome; exact absurd rfl hsome
      | some c => dsimp only; exact Prod.ext rfl h2

theorem take_set {mem pre : List Blk} {n : Nat} {X Y : Blk} (hn : pre.length = n) (h1 : mem[n]? = some Y) (h2 : mem.take n = pre) : (mem.set n X).take (n + 1) = pre ++ [X] := by
  have hlt : n < mem.length := (List.getElem?_eq_some_iff.1 h1).1
  refine List.ext_getElem? fun i => ?_
  by_cases hi : i < n
  · rw [List.getElem?_take_of_lt (by omega), List.getElem?_set_ne (by omega), List.getElem?_append_left (by omega), ← h2, List.getElem?_take_of_lt hi]
  · by_cases hin : i = n
    · subst hin
      rw [List.getElem?_take_of_lt (by omega), List.getElem?_set_self hlt, List.getElem?_append_right (by omega)]
      simp [hn]
    · rw [List.getElem?_eq_none (by simp; omega), List.getElem?_eq_none (by simp [hn]; omega)]
theorem take_push {pre : List Blk} {n : Nat} (hn : pre.length = n) (X : Blk) : (pre ++ [X]).take (n + 1) = pre ++ [X] := List.take_of_length_le (by simp [hn])

/-- A RANGE OVER A TYPE's NODES. -/
theorem tri_types {n0 : Nat} {st : St} {Q : Exit → St → Prop} {f : Operand} {params : Array Tmp} {assign body : Code} {t : Ty} (pre : σ → List Blk) (s0 : σ) (n kt : Nat) (hmem : st.mem = pre s0) (hn : ∀ s, (pre s).length = n) (hkt : kt < n)
    (ht : ∀ s, (pre s)[kt]? = some (.box (tyCells t))) (hb : ∀ s, (pre s).all (belowB (n + 1)) = true) (hfr : st.fr.all (belowV (n + 1)) = true) (hf : st.eval f = .clo (.func 91) [] [.ptr kt 0]) (hp : params.size = 1) (step : σ → Ty → σ × Option Code) {B : Nat} (hB : B ≤ 1048576) (hsz : t.size ≤ B)
    (hbody : ∀ s u, u.size ≤ B → ∀ (l : Nat) (LR LB : Blk), belowB (n + 1) LR = true → belowB (n + 1) LB = true → Tri Tryz.prog (some l) (n + 1) assign { fr := setPs params.toList [encTy u] st.fr, mem := pre s ++ [LR] } fun ex st1 => ex = .normal ∧ st1.mem[n]? = some LR ∧
      Tri Tryz.prog (some l) (n + 1) body { st1 with mem := st1.mem.set n LB } fun ex st2 => jumpOf ex = some (step s u).2 ∧ st2.mem[n]? = some LB ∧ st2.mem.take n = pre (step s u).1)
    (hq : match (stepJ step s0 t.nodes).2 with
      | none => Q .normal { st with mem := pre (stepJ step s0 t.nodes).1 ++ [.dead] }
      | some c => Tri Tryz.prog none n0 c { st with mem := pre (stepJ step s0 t.nodes).1 ++ [.dead] } Q) : Tri Tryz.prog none n0 (.rangeFunc f params assign body) st Q := by
  have hlen : st.mem.length = n := by rw [hmem, hn]
  have gn : ∀ s X, (pre s ++ [X])[n]? = some X := fun s X => by rw [List.getElem?_append_right (by rw [hn]; exact Nat.le_refl _), hn, Nat.sub_self]; rfl
  have gk : ∀ s X, (pre s ++ [X])[kt]? = some (.box (tyCells t)) := fun s X => by rw [List.getElem?_append_left (by rw [hn]; exact hkt)]; exact ht s
  have gset : ∀ s (X Y : Blk), (pre s ++ [X]).set n Y = pre s ++ [Y] := fun s X Y => by rw [List.set_append_right _ _ (by rw [hn]; exact Nat.le_refl _), hn, Nat.sub_self]; rfl
  have hball : ∀ (s : σ) (a : LoopState) (b : Option Code), (pre s ++ [Blk.loop a b st.fr params assign body]).all (belowB (n + 1)) = true := fun s a b => by
    rw [List.all_append, Bool.and_eq_true]
    exact ⟨hb s, by simp only [List.all_cons, List.all_nil, Bool.and_true, belowB]; exact hfr⟩
  have it := iter_ok (M := fun s : σ × Option Code => pre s.1 ++ [.loop (if s.2.isNone then .ready else .done) s.2 st.fr params assign body]) (n := n + 1) (k := n) (kt := kt) (t := t) (fun s => by simp [hn]) (by omega) (by omega) (fun s => gk _ _) (fun s => hball _ _ _)
    (stepB step) (fun s => s.2 = none) (fun s u hs h => by simpa [stepB] using h) hB (fun s u hs hu => by
      obtain ⟨s, j⟩ := s
      simp only at hs; subst hs
      refine yok_of_body (fr := st.fr) (params := params) (assign := assign) (body := body) (gn _ _) (by simp [hp]) fun l => ?_
      have hl : (pre s ++ [Blk.loop .ready none st.fr params assign body]).length = n + 1 := by simp [hn]
      simp only [Option.isNone_none, if_true, hl]
      refine Tri.mono (hbody s u hu l (.loop .ready none st.fr params assign body) (.loop .busy none st.fr params assign body) hfr hfr) ?_
      rintro ex st1 ⟨h1, h2, h3⟩
      refine ⟨h1, h2, Tri.mono h3 ?_⟩
      rintro ex st2 ⟨h4, h5, h6⟩
      refine ⟨_, h4, rfl, h5, ?_, ?_⟩
      · rw [take_set (hn _) h5 h6]; exact hball _ _ _
      · rw [take_set (hn _) h5 h6]; rfl) hsz (s0, none) rfl
  rw [stepJ_L] at it
  refine tri_rangeFunc (g := 91) (vs := [.yld n, .ptr kt 0]) (by rw [hf, hlen]; rfl) (by rw [hmem]; exact it) ?_
  rw [hlen]
  refine ⟨_, _, _, _, _, _, gn _ _, ?_, ?_⟩
  · cases (stepJ step s0 t.nodes).2 <;> simp
  · generalize hj : (stepJ step s0 t.nodes).2 = j at hq
    cases j with
    | none => dsimp only at hq ⊢; rw [gset]; exact hq
    | some c => dsimp only at hq ⊢; rw [gset]; exact hq
end
end Go.Proofs.YtpjdfcigadnhcaaGreatDoor
end

section
namespace Go.Proofs.YtpjdfcigadnhcaaGreatDoor
open Go.Eng
variable [Glob]

/-- A step that never leaves. -/
theorem stepJ_pure {σ α : Type} (g : σ → α → σ) : ∀ (l : List α) (s : σ), stepJ (fun s u => (g s u, none)) s l = (l.foldl g s, none)
  | [], s => rfl
  | u :: r, s => by simp only [stepJ, List.foldl_cons]; exact stepJ_pure g r _
theorem count_fold {α : Type} : ∀ (l : List α) (a : Nat), a + l.length ≤ 1152921504606846976 → l.foldl (fun (s : Int) _ => IntKind.i64.wrap (s + 1)) (a : Int) = ((a + l.length : Nat) : Int)
  | [], a, _ => rfl
  | _ :: r, a, h => by
    simp only [List.length_cons] at h
    rw [List.foldl_cons, i64_succ a (by omega), count_fold r (a + 1) (by omega), List.length_cons]
    congr 1; omega

theorem stsize_ok (t : Ty) (ht : t.size ≤ 1048576) : FnOk Tryz.prog 14 [encTy t] (num t.size) := by
  refine fn_ok tt_ok (fn := Tryz.f14) Tryz.func14 rfl Tryz.call14 ?_
  simp only [startSt, Tryz.ntmps14, List.length_cons, List.length_nil, Nat.reduceAdd, Nat.reduceSub, List.replicate_succ, List.replicate_zero, List.cons_append, List.nil_append]
  have h51 := fun B0 B1 h => types_ok t [B0, B1] h
  rw [encTy_eq] at h51 ⊢
  simp only [tyCells] at h51 ⊢
  refine tri_seq_region tt_ok fun K hK => ?_
  simp only [runOps, stepOp, wantedV, opV, St.eval, St.put, absV, cellsV, oneV, List.all_cons, List.all_nil, Bool.and_self, Value.oneCell', if_true, if_false, setMem, List.length_nil, Nat.lt_irrefl, List.nil_append, List.set_cons_zero, List.set_cons_succ, List.getD_cons_zero]
  refine hK _ ?_
  clear hK K
  refine tri_seq_region tt_ok fun K hK => ?_
  simp only [runOps, stepOp, wantedV, St.eval, St.put, absV, cellsV, oneV, Value.oneCell', if_true, if_false, setMem, List.length_cons, List.length_nil, Nat.lt_irrefl, List.nil_append, List.cons_append, List.set_cons_zero, List.set_cons_succ, List.getD_cons_zero, List.getD_cons_succ, tSize, List.map_nil, List.map_cons, List.getElem?_cons_zero, List.getElem?_cons_succ, Nat.zero_add, Nat.le_refl, storeV, spliceL, tt3]
  refine hK _ ?_
  clear hK K
  refine tri_seq ?_
  refine tri_seq_region tt_ok fun K hK => ?_
  simp only [runOps, stepOp, wantedV, opV, St.eval, St.put, if_true, List.length_cons, List.length_nil, List.nil_append, List.append_nil, List.set_cons_zero, List.set_cons_succ, List.getD_cons_zero, List.getD_cons_succ, List.map_nil, List.map_cons, loadV, pickCells, List.drop_zero, List.take_succ_cons, List.take_zero, List.getElem?_cons_zero, List.head?_cons, Nat.zero_add, Nat.reduceAdd, Nat.le_refl, calleeOf, tt25]
  refine .inr <| .inl ⟨_, _, h51 _ _ rfl, ?_⟩
  try simp only [St.put, List.length_cons, List.length_nil, List.nil_append, List.cons_append, List.set_cons_zero, List.set_cons_succ, Nat.zero_add, Nat.reduceAdd]
  refine hK _ ?_
  clear hK K
  refine tri_block (tri_types (t := t) (B := 1048576) (fun s : Int => [.box (tyCells t), .box [num s], .box (tyCells t)]) 0 3 2 rfl (fun _ => rfl) (by omega) (fun _ => rfl) (fun _ => rfl) rfl rfl rfl (fun s _ => (IntKind.i64.wrap (s + 1), none)) (by omega) ht ?_ ?_)
  · intro s u hu l LR LB hLR hLB
    refine tri_skip ⟨rfl, rfl, tri_block ?_⟩
    refine tri_last_region tt_ok fun K hK => ?_
    simp only [runOps, stepOp, wantedV, opV, St.eval, St.put, absV, cellsV, oneV, Value.oneCell', if_false, List.nil_append, List.cons_append, List.set_cons_zero, List.set_cons_succ, tSize, loadV, pickCells, Bool.false_eq_true, V.cells, nilLen, storeV, rowOf, ne_eq, gnCmp, tt3]
    refine hK _ ?_
    clear hK K
    exact ⟨rfl, rfl, rfl⟩
  · rw [stepJ_pure, show (0 : Int) = ((0 : Nat) : Int) from rfl, count_fold _ _ (by rw [Ty.nodes_length _ t (Nat.le_refl _)]; omega), Ty.nodes_length _ t (Nat.le_refl _), Nat.zero_add]
    show Tri _ _ _ _ _ _
    refine tri_seq_region tt_ok fun K hK => ?_
    simp only [runOps, stepOp, wantedV, opV, St.eval, St.put, if_true, if_false, List.length_cons, List.length_nil, List.nil_append, List.cons_append, List.set_cons_zero, List.set_cons_succ, List.getD_cons_zero, List.getD_cons_succ, loadV, pickCells, List.drop_zero, List.take_succ_cons, List.take_zero, List.getElem?_cons_zero, List.getElem?_cons_succ, List.head?_cons, Nat.zero_add, Nat.le_refl, Bool.false_eq_true, tt3]
    refine hK _ ?_
    clear hK K
    exact tri_ret ⟨.inl rfl, rfl⟩
end Go.Proofs.YtpjdfcigadnhcaaGreatDoor
end

section
namespace Go.Proofs.YtpjdfcigadnhcaaGreatDoor
open Go.Eng
variable [Glob]
/-- The types of a node of an expression itself. -/
def Ex.own (e : Ex) : List Ty := e.types ++ if e.kind = 8 then e.labels.map Lb.ty else []
mutual
def Ex.size : Ex → Nat
  | .mk k _ _ _ _ ts ls ks => 1 + sumBy Ty.size (ts ++ if k = 8 then ls.map Lb.ty else []) + sizeExs ks
def sizeExs : List Ex → Nat
  | [] => 0
  | e :: r => e.size + sizeExs r
end
mutual
def Ex.nodes : Ex → List Ex
  | .mk k m n t i ts ls ks => .mk k m n t i ts ls ks :: nodesExs ks
def nodesExs : List Ex → List Ex
  | [] => []
  | e :: r => e.nodes ++ nodesExs r
end
theorem nodesExs_eq (ts : List Ex) : nodesExs ts = ts.flatMap Ex.nodes := by induction ts with | nil => rfl | cons t r ih => simp [nodesExs, ih]
theorem sizeExs_eq (ts : List Ex) : sizeExs ts = sumBy Ex.size ts := by induction ts with | nil => rfl | cons t r ih => simp [sizeExs, sumBy, ih]
theorem Ex.nodes_eq (t : Ex) : t.nodes = t :: t.kids.flatMap Ex.nodes := by
  obtain ⟨k, m, n, x, i, ts, ls, ks⟩ := t
  simp only [Ex.nodes, Ex.kids, nodesExs_eq]
theorem Ex.size_eq (t : Ex) : t.size = 1 + sumBy Ty.size t.own + sumBy Ex.size t.kids := by
  obtain ⟨k, m, n, x, i, ts, ls, ks⟩ := t
  rw [Ex.size, sizeExs_eq]; rfl
theorem Ex.size_pos (t : Ex) : 0 < t.size := by rw [Ex.size_eq]; omega
theorem Ex.size_kids (t : Ex) : 1 + sumBy Ex.size t.kids ≤ t.size := by rw [Ex.size_eq]; omega
theorem Ex.size_nodes : ∀ (N : Nat) (t : Ex), t.size ≤ N → sumBy (fun e => 1 + sumBy Ty.size e.own) t.nodes = t.size := by
  intro N
  induction N with
  | zero => intro t h; have := t.size_pos; omega
  | succ N ih =>
    intro t hN
    have h1 := t.size_eq
    have gen : ∀ (l : List Ex), sumBy Ex.size l ≤ N → sumBy (fun e => 1 + sumBy Ty.size e.own) (l.flatMap Ex.nodes) = sumBy Ex.size l := by
      intro l
      induction l with
      | nil => intro _; rfl
      | cons a r ihr =>
        intro hl
        simp only [sumBy] at hl ⊢
        rw [List.flatMap_cons, sumBy_append, ih a (by omega), ihr (by omega)]
    rw [Ex.nodes_eq]
    simp only [sumBy]
    rw [gen _ (by omega)]; omega
def Lb.bulk (l : Lb) : Nat := 1 + l.ty.size
mutual
def Ex.bulk : Ex → Nat
  | .mk _ _ _ _ _ ts ls ks => 1 + sumBy Ty.size ts + sumBy Lb.bulk ls + bulkExs ks
def bulkExs : List Ex → Nat
  | [] => 0
  | e :: r => e.bulk + bulkExs r
end
theorem bulkExs_eq (ts : List Ex) : bulkExs ts = sumBy Ex.bulk ts := by induction ts with | nil => rfl | cons t r ih => simp [bulkExs, sumBy, ih]
theorem Ex.bulk_eq (t : Ex) : t.bulk = 1 + sumBy Ty.size t.types + sumBy Lb.bulk t.labels + sumBy Ex.bulk t.kids := by
  obtain ⟨k, m, n, x, i, ts, ls, ks⟩ := t
  rw [Ex.bulk, bulkExs_eq]; rfl
theorem Ex.bulk_pos (t : Ex) : 0 < t.bulk := by rw [Ex.bulk_eq]; omega
theorem Ex.bulk_kids (t : Ex) : 1 + sumBy Ex.bulk t.kids ≤ t.bulk := by rw [Ex.bulk_eq]; omega
theorem Ex.kids_length (t : Ex) : t.kids.length < t.bulk := by
  have := length_le_sum Ex.bulk Ex.bulk_pos t.kids
  rw [Ex.bulk_eq]; omega
theorem Lb.bulk_pos (l : Lb) : 0 < l.bulk := by unfold Lb.bulk; omega
theorem Ex.own_le (t : Ex) : sumBy Ty.size t.own + 1 + sumBy Ex.bulk t.kids ≤ t.bulk := by
  rw [Ex.bulk_eq, Ex.own, sumBy_append]
  have : sumBy Ty.size (if t.kind = 8 then t.labels.map Lb.ty else []) ≤ sumBy Lb.bulk t.labels := by
    split
    · rw [sumBy_map]
      generalize t.labels = l
      induction l with
      | nil => simp [sumBy]
      | cons a r ih => simp only [sumBy, Lb.bulk] at ih ⊢; omega
    · simp [sumBy]
  omega
theorem Ex.own_len (t : Ex) : t.types.length + t.labels.length < t.bulk := by
  have h1 := length_le_sum Ty.size Ty.size_pos t.types
  have h2 := length_le_sum Lb.bulk Lb.bulk_pos t.labels
  rw [Ex.bulk_eq]; omega
theorem Ex.size_le_bulk : ∀ (N : Nat) (t : Ex), t.bulk ≤ N → t.size ≤ t.bulk := by
  intro N
  induction N with
  | zero => intro t h; have := t.bulk_pos; omega
  | succ N ih =>
    intro t hN
    have h1 := t.own_le
    rw [Ex.size_eq]
    have gen : ∀ (l : List Ex), sumBy Ex.bulk l ≤ N → sumBy Ex.size l ≤ sumBy Ex.bulk l := by
      intro l
      induction l with
      | nil => intro _; simp [sumBy]
      | cons a r ihr =>
        intro hl
        simp only [sumBy] at hl ⊢
        have := ih a (by omega); have := ihr (by omega); omega
    have := gen t.kids (by omega)
    omega

section
variable {σ : Type} {M : σ → List Blk} {n k k1 k2 : Nat}
theorem walkE_ok (hn : ∀ s, (M s).length = n) (hk : k < n) (hk1 : k1 < n) (hk2 : k2 < n) (h1 : ∀ s, (M s)[k1]? = some (.box [.yld k])) (h2 : ∀ s, (M s)[k2]? = some (.box [.clo (.func 94) [] [.ptr k1 0, .ptr k2 0]])) (hb : ∀ s, (M s).all (belowB n) = true)
    (step : σ → Ex → σ × Bool) (G : σ → Prop) (hG : ∀ s u, G s → (step s u).2 = true → G (step s u).1) {B : Nat} (hB : B ≤ 1048576) (hy : ∀ s u, G s → u.bulk ≤ B → YOk Tryz.prog k [encEx u] (M s) (step s u).2 (M (step s u).1)) :
    ∀ (N : Nat) (t : Ex) (s : σ), G s → t.bulk ≤ N → N ≤ B → FnOkS Tryz.prog 94 [encEx t, .ptr k1 0, .ptr k2 0] (M s) (bl (stepL step s t.nodes).2) (M (stepL step s t.nodes).1) := by
  have g0 : ∀ s (l : List Blk), (M s ++ l)[n]? = l[0]? := fun s l => by rw [List.getElem?_append_right (by rw [hn]; exact Nat.le_refl _), hn, Nat.sub_self]
  have g1 : ∀ s (l : List Blk), (M s ++ l)[n + 1]? = l[1]? := fun s l => by rw [List.getElem?_append_right (by rw [hn]; omega), hn, Nat.add_sub_cancel_left]
  have gk1 : ∀ s (l : List Blk), (M s ++ l)[k1]? = some (.box [.yld k]) := fun s l => by rw [List.getElem?_append_left (by rw [hn]; exact hk1)]; exact h1 s
  have gk2 : ∀ s (l : List Blk), (M s ++ l)[k2]? = some (.box [.clo (.func 94) [] [.ptr k1 0, .ptr k2 0]]) := fun s l => by rw [List.getElem?_append_left (by rw [hn]; exact hk2)]; exact h2 s
  have gs : ∀ s (l : List Blk) X, (M s ++ l).set n X = M s ++ l.set 0 X := fun s l X => by rw [List.set_append_right _ _ (by rw [hn]; exact Nat.le_refl _), hn, Nat.sub_self]
  have gt : ∀ s (l : List Blk), (M s ++ l).take n = M s := fun s l => by rw [← hn s, List.take_left]
  have gt' : ∀ s, (M s).take n = M s := fun s => by rw [List.take_of_length_le (by rw [hn]; exact Nat.le_refl _)]
  have fy : ∀ s u (l : List Blk), G s → u.bulk ≤ B → YOk Tryz.prog k [encEx u] (M s ++ l) (step s u).2 (M (step s u).1 ++ l) := fun s u l hg hu => by
    refine (hy s u hg hu).frame (by rw [hn]; exact hk) ?_ (by rw [hn]; exact hb s) (by rw [hn, hn]) (by rw [hn]; exact hb _) l
    rw [encEx_eq]; simp [belowV, belowL, exCells]
  intro N
  induction N with
  | zero => intro t s hg h; have := t.bulk_pos; omega
  | succ N ih =>
    intro t s hg hN hNB
    have hpl := t.kids_length
    have hps := t.bulk_kids
    have hpn := length_le_sum Ex.bulk Ex.bulk_pos t.kids
    have hne := t.nodes_eq
    have hyt := fun l => fy s t l hg (by omega)
    have ihf : ∀ u s (l : List Blk), G s → u.bulk ≤ N → FnOkS Tryz.prog 94 [encEx u, .ptr k1 0, .ptr k2 0] (M s ++ l) (bl (stepL step s u.nodes).2) (M (stepL step s u.nodes).1 ++ l) := fun u s l hg hu => by
      refine (ih u s hg hu (by omega)).frame ?_ (by rw [hn]; exact hb s) rfl (by rw [hn, hn]) (by rw [hn]; exact hb _) l
      rw [encEx_eq, hn]; simp [belowV, belowL, exCells, hk1, hk2]
    simp only [encEx_eq, exCells] at ihf
    refine fns_ok tt_ok (fn := Tryz.f94) n (by rw [hn]; exact Nat.le_refl _) Tryz.func94 rfl Tryz.call94 ?_
    simp only [startSt, Tryz.ntmps94, List.length_cons, List.length_nil, Nat.reduceAdd, Nat.reduceSub, List.replicate_succ, List.replicate_zero, List.cons_append, List.nil_append]
    rw [encEx_eq] at hyt ⊢
    simp only [exCells] at hyt ⊢
    refine tri_seq_region tt_ok fun K hK => ?_
    simp only [hn, runOps, stepOp, wantedV, opV, St.eval, St.put, absV, cellsV, oneV, List.all_cons, List.all_nil, Bool.and_self, Value.oneCell', if_true, if_false, setMem, Nat.lt_irrefl, List.set_cons_zero, List.set_cons_succ, List.getD_cons_zero]
    refine hK _ ?_
    clear hK K
    refine tri_seq ?_
    refine tri_seq_region tt_ok fun K hK => ?_
    simp only [gk1, g0, runOps, stepOp, wantedV, opV, St.eval, St.put, if_true, if_false, List.length_cons, List.length_nil, List.set_cons_zero, List.set_cons_succ, List.getD_cons_zero, List.getD_cons_succ, List.map_nil, List.map_cons, loadV, pickCells, List.drop_zero, List.take_succ_cons, List.take_zero, List.getElem?_cons_zero, List.head?_cons, Nat.zero_add, Nat.reduceAdd, Nat.le_refl, Bool.false_eq_true, ev_not, tt29, tt128]
    refine .inl ⟨_, _, hyt _, ?_⟩
    try simp only [runOps, stepOp, wantedV, opV, St.eval, St.put, absV, cellsV, oneV, List.all_cons, List.all_nil, Bool.and_true, Bool.true_and, Bool.and_self, Value.oneCell', if_true, if_false, reduceIte, setMem, List.length_cons, List.length_nil, Nat.lt_irrefl, List.nil_append, List.cons_append, List.append_nil, List.set_cons_zero, List.set_cons_succ, List.getD_cons_zero, List.getD_cons_succ, litV, tElem, tSize, seqParts, litRows, List.map_nil, List.map_cons, Nat.zero_mul, fieldV, tOff, fieldAt, loadV, pickCells, List.drop_zero, List.drop_succ_cons, List.take_succ_cons, List.take_zero, List.getElem?_cons_zero, List.getElem?_cons_succ, List.head?_cons, Nat.zero_add, Nat.add_zero, Nat.reduceAdd, Nat.reduceLT, Nat.reduceLeDiff, Nat.reduceMul, Nat.reduceEqDiff, Nat.reduceSub, Nat.zero_le, Nat.le_refl, true_and, and_true, and_self, appendV, liveRows, rowsOf, appOut, reduceCtorEq, Bool.false_eq_true, lenV, ev_add, ev_sub, ev_mul, ev_lss, ev_leq, ev_gtr, ev_geq, ev_eql, ev_neq, ev_max, ev_min, ev_not, ev_seql, ev_sneq, ev_slss, ev_sgtr, Int.natCast_nonneg, indexV, indexAt, Int.toNat_natCast, V.cells, intV, cutV, nilV, calleeOf, Option.map_some, Option.map_none, Option.bind_some, List.size_toArray, List.getElem?_toArray, beq_self_eq_true, decide_true, decide_false, Bool.not_true, Bool.not_false, nilLen, sliceLen, nilAns, storeV, spliceL, pureCell, rowV, nilS, rowOf, sizeOfBlk, ne_eq, not_true_eq_false, not_false_eq_true, buildV, fillL, V.sc.injEq, Value.bool.injEq, memAfter_nil, List.flatMap_cons, List.flatMap_nil, ref1, refCell, ev_ft, ev_tf, ev_len1, ev_len2, ev_len3, gnCmp, tt1, tt2, tt3, tt4, tt5, tt6, tt7, tt8, tt9, tt10, tt11, tt12, tt13, tt14, tt15, tt16, tt17, tt18, tt19, tt20, tt21, tt22, tt23, tt24, tt25, tt26, tt27, tt28, tt29, tt30, tt31, tt32, tt33, tt34, tt35, tt36, tt37, tt38, tt39, tt40, tt41, tt42, tt43, tt44, tt45, tt46, tt47, tt48, tt49, tt50, tt51, tt52, tt53, tt55, tt56, tt57, tt58, tt59, tt60, tt61, tt62, tt63, tt64, tt65, tt66, tt67, tt68, tt69, tt70, tt71, tt72, tt73, tt74, tt75, tt76, tt77, tt78, tt79, tt80, tt81, tt82, tt83, tt84, tt85, tt86, tt87, tt88, tt89, tt90, tt91, tt92, tt93, tt94, tt95, tt96, tt97, tt98, tt99, tt100, tt101, tt102, tt103, tt104, tt105, tt106, tt107, tt108, tt109, tt110, tt111, tt112, tt113, tt114, tt115, tt116, tt117, tt118, tt119, tt120, tt121, tt122, tt123, tt124, tt125, tt126, tt127, tt128, tt129, tt130]
    refine hK _ ?_
    clear hK K
    cases hbb : (step s t).2 with
    | false =>
      refine tri_cond rfl ?_
      refine tri_seq_region tt_ok fun K hK => ?_
      simp only [runOps, stepOp, wantedV, opV, St.eval, St.put, absV, List.set_cons_zero, List.set_cons_succ, Bool.not_false]
      refine hK _ ?_
      clear hK K
      refine tri_ret ⟨.inl rfl, ?_⟩
      have hst : stepL step s t.nodes = ((step s t).1, false) := by rw [hne]; simp [stepL, hbb]
      rw [hst]
      exact ⟨rfl, rfl, by dsimp only; rw [gt]; exact hb _, (gt _ _).symm⟩
    | true =>
      refine tri_cond rfl (tri_skip ?_)
      show Tri _ _ _ _ _ _
      refine tri_seq ?_
      refine tri_seq_region tt_ok fun K hK => ?_
      simp only [g0, length_encExs, runOps, stepOp, wantedV, opV, St.eval, St.put, absV, if_true, if_false, List.length_cons, List.length_nil, List.set_cons_zero, List.set_cons_succ, List.getD_cons_zero, List.getD_cons_succ, tElem, List.map_nil, List.map_cons, fieldV, tOff, fieldAt, loadV, pickCells, List.drop_zero, List.drop_succ_cons, List.take_succ_cons, List.take_zero, List.getElem?_cons_zero, List.getElem?_cons_succ, List.head?_cons, Nat.zero_add, Nat.le_refl, Bool.false_eq_true, lenV, List.getElem?_toArray, Bool.not_true, ev_len1, tt27, tt29]
      refine hK _ ?_
      clear hK K
      obtain ⟨ps, hps'⟩ : ∃ ps, ps = t.kids := ⟨_, rfl⟩
      rw [← hps'] at hps hpn hne ⊢
      refine tri_block (tri_loop_inv (fun N st => ∃ (i : Nat) (s' : σ), G s' ∧ N = ps.length - i ∧ i ≤ ps.length ∧ stepL step s (t :: (ps.take i).flatMap Ex.nodes) = (s', true) ∧
        st = { fr := [.undef, .ptr k1 0, .ptr k2 0, .undef, .undef, .undef, .undef, .undef, .undef, .undef, .undef, .undef, .slice (encExs ps), num ps.length, num i] ++ List.replicate 8 .undef, mem := M s' }) ps.length ?_ ?_)
      · refine ⟨n, [false, true, true, false, false, false, false, false, false, false, false, false, true, true, true], by rw [hn]; exact Nat.le_refl _, by simp only [maskFr, if_true, if_false, Bool.false_eq_true, List.all_cons, List.all_nil, belowV, decide_true, Bool.and_self, hk1, hk2], by dsimp only; rw [gt]; exact hb _, 0, (step s t).1, hG s t hg hbb, by omega, by omega, by simp [stepL, hbb], ?_⟩
        dsimp only; rw [gt]; rfl
      · rintro N' st ⟨i, s', hg', rfl, hi, hsi, rfl⟩
        simp only [List.replicate_succ, List.replicate_zero, List.cons_append, List.nil_append]
        by_cases hlt : i < ps.length
        · have hd := lt_dec hlt
          refine tri_seq_region tt_ok fun K hK => ?_
          simp only [hd, runOps, stepOp, wantedV, opV, St.eval, St.put, List.set_cons_zero, List.set_cons_succ, List.getD_cons_zero, List.getD_cons_succ, ev_lss, nilLen, gnCmp]
          refine hK _ ?_
          clear hK K
          refine tri_seq (tri_cond rfl (tri_skip ?_))
          refine tri_seq (tri_block ?_)
          obtain ⟨u, hu⟩ : ∃ u, ps[i]? = some u := ⟨_, List.getElem?_eq_getElem hlt⟩
          have hus := sumBy_mem Ex.bulk hu
          have hrec := fun l => ihf u s' l hg' (by omega)
          have htk : (ps.take (i + 1)).flatMap Ex.nodes = (ps.take i).flatMap Ex.nodes ++ u.nodes := by rw [List.take_add_one, hu]; simp
          have hnx : stepL step s (t :: (ps.take (i + 1)).flatMap Ex.nodes) = stepL step s' u.nodes := by
            rw [htk, ← List.cons_append, stepL_append, hsi]; simp
          refine tri_seq_region tt_ok fun K hK => ?_
          simp only [get_encExs, hu, encEx_eq, exCells, hn, g0, gs, runOps, stepOp, wantedV, opV, St.eval, St.put, cellsV, oneV, List.all_cons, List.all_nil, Bool.and_self, Value.oneCell', if_true, if_false, setMem, List.length_cons, List.length_nil, Nat.lt_irrefl, List.set_cons_zero, List.set_cons_succ, List.getD_cons_zero, List.getD_cons_succ, tElem, tSize, List.map_nil, List.map_cons, loadV, pickCells, List.take_succ_cons, List.take_zero, List.getElem?_cons_zero, List.head?_cons, Nat.zero_add, Nat.reduceAdd, Nat.le_refl, Int.natCast_nonneg, indexV, indexAt, Int.toNat_natCast, V.cells, Option.map_some, storeV, spliceL, tt27, tt29]
          refine hK _ ?_
          clear hK K
          refine tri_seq_region tt_ok fun K hK => ?_
          simp only [gk2, g0, runOps, stepOp, wantedV, opV, St.eval, St.put, if_true, if_false, List.length_cons, List.length_nil, List.nil_append, List.cons_append, List.set_cons_zero, List.set_cons_succ, List.getD_cons_zero, List.getD_cons_succ, List.map_nil, List.map_cons, loadV, pickCells, List.drop_zero, List.take_succ_cons, List.take_zero, List.getElem?_cons_zero, List.head?_cons, Nat.zero_add, Nat.reduceAdd, Nat.le_refl, Bool.false_eq_true, calleeOf, tt29, tt128]
          refine .inr <| .inl ⟨_, _, hrec _, ?_⟩
          try simp only [St.put, List.set_cons_zero, List.set_cons_succ, List.getD_cons_zero, List.getD_cons_succ, ev_not]
          refine hK _ ?_
          clear hK K
          cases hbu : (stepL step s' u.nodes).2 with
          | false =>
            refine tri_cond rfl ?_
            refine tri_seq_region tt_ok fun K hK => ?_
            simp only [runOps, stepOp, wantedV, opV, St.eval, St.put, absV, List.set_cons_zero, List.set_cons_succ, Bool.not_false]
            refine hK _ ?_
            clear hK K
            refine tri_ret ⟨.inl rfl, ?_⟩
            have hst : stepL step s t.nodes = ((stepL step s' u.nodes).1, false) := by
              have hsplit : ps.flatMap Ex.nodes = (ps.take (i + 1)).flatMap Ex.nodes ++ (ps.drop (i + 1)).flatMap Ex.nodes := by rw [← List.flatMap_append, List.take_append_drop]
              rw [hne, hsplit, ← List.cons_append, stepL_append, hnx, hbu]; simp
            rw [hst]
            exact ⟨rfl, rfl, by dsimp only; rw [gt]; exact hb _, (gt _ _).symm⟩
          | true =>
            refine tri_cond rfl (tri_skip ?_)
            show Tri _ _ _ _ _ _
            refine tri_last_region tt_ok fun K hK => ?_
            simp only [runOps, stepOp, wantedV, opV, St.eval, St.put, absV, List.set_cons_zero, List.set_cons_succ, List.getD_cons_zero, List.getD_cons_succ, ev_add, Bool.not_true, nilLen, gnCmp]
            refine hK _ ?_
            clear hK K
            have hw2 := i64_succ i (by omega)
            rw [hw2]
            refine ⟨ps.length - (i + 1), by omega, n, [false, true, true, false, false, false, false, false, false, false, false, false, true, true, true], by rw [hn]; exact Nat.le_refl _, by simp only [maskFr, if_true, if_false, Bool.false_eq_true, List.all_cons, List.all_nil, belowV, decide_true, Bool.and_self, hk1, hk2], by dsimp only; rw [gt]; exact hb _, i + 1, (stepL step s' u.nodes).1, stepL_good step hG _ _ hg' hbu, rfl, hlt, by rw [hnx, ← hbu], ?_⟩
            dsimp only; rw [gt]; rfl
        · have hd := ge_dec hlt
          refine tri_seq_region tt_ok fun K hK => ?_
          simp only [hd, runOps, stepOp, wantedV, opV, St.eval, St.put, List.set_cons_zero, List.set_cons_succ, List.getD_cons_zero, List.getD_cons_succ, ev_lss, nilLen, gnCmp]
          refine hK _ ?_
          clear hK K
          refine tri_seq (tri_cond rfl (tri_exit ?_))
          have hie : i = ps.length := by omega
          subst hie
          show Tri _ _ _ _ _ _
          refine tri_seq_region tt_ok fun K hK => ?_
          simp only [runOps, stepOp, wantedV, opV, St.eval, St.put, absV, List.set_cons_zero, List.set_cons_succ]
          refine hK _ ?_
          clear hK K
          refine tri_ret ⟨.inl rfl, ?_⟩
          rw [List.take_length] at hsi
          rw [hne, hsi]
          exact ⟨rfl, rfl, by dsimp only; rw [gt']; exact hb _, (gt' _).symm⟩
end

theorem exprs_ok (t : Ex) (m : List Blk) (hb : m.all (belowB (m.length + 1)) = true) : FnOkS Tryz.prog 53 [encEx t] m (.clo (.func 93) [] [.ptr m.length 0]) (m ++ [.box (exCells t)]) := by
  refine fns_ok tt_ok (fn := Tryz.f53) (m.length + 1) (by omega) Tryz.func53 rfl Tryz.call53 ?_
  simp only [startSt, Tryz.ntmps53, List.length_cons, List.length_nil, Nat.reduceAdd, Nat.reduceSub, List.replicate_succ, List.replicate_zero, List.cons_append, List.nil_append]
  rw [encEx_eq]
  simp only [exCells]
  refine tri_seq_region tt_ok fun K hK => ?_
  simp only [runOps, stepOp, wantedV, opV, St.eval, St.put, absV, cellsV, oneV, List.all_cons, List.all_nil, Bool.and_self, Value.oneCell', if_true, if_false, setMem, Nat.lt_irrefl, List.set_cons_zero, List.set_cons_succ, List.getD_cons_zero]
  refine hK _ ?_
  clear hK K
  refine tri_seq_region tt_ok fun K hK => ?_
  simp only [runOps, stepOp, wantedV, opV, St.eval, St.put, List.set_cons_zero, List.set_cons_succ, List.getD_cons_zero, List.getD_cons_succ, List.map_nil, List.map_cons]
  refine hK _ ?_
  clear hK K
  have ht : ∀ B : Blk, (m ++ [B]).take (m.length + 1) = m ++ [B] := fun B => List.take_of_length_le (by simp)
  refine tri_ret ⟨.inl rfl, rfl, by simp [belowV, belowL], ?_, ?_⟩
  · dsimp only; rw [ht]; simp [hb, belowB, belowV]
  · dsimp only; rw [ht]

section
variable {σ : Type} {M : σ → List Blk} {n k kt : Nat}
theorem iterE_ok (hn : ∀ s, (M s).length = n) (hk : k < n) (hkt : kt < n) {t : Ex} (h1 : ∀ s, (M s)[kt]? = some (.box (exCells t))) (hb : ∀ s, (M s).all (belowB n) = true)
    (step : σ → Ex → σ × Bool) (G : σ → Prop) (hG : ∀ s u, G s → (step s u).2 = true → G (step s u).1) {B : Nat} (hB : B ≤ 1048576) (hy : ∀ s u, G s → u.bulk ≤ B → YOk Tryz.prog k [encEx u] (M s) (step s u).2 (M (step s u).1)) (ht : t.bulk ≤ B) (s : σ) (hs : G s) :
    FnOkS Tryz.prog 93 [.yld k, .ptr kt 0] (M s) (.tup []) (M (stepL step s t.nodes).1) := by
  have g0 : ∀ s (l : List Blk), (M s ++ l)[n]? = l[0]? := fun s l => by rw [List.getElem?_append_right (by rw [hn]; exact Nat.le_refl _), hn, Nat.sub_self]
  have g1 : ∀ s (l : List Blk), (M s ++ l)[n + 1]? = l[1]? := fun s l => by rw [List.getElem?_append_right (by rw [hn]; omega), hn, Nat.add_sub_cancel_left]
  have gkt : ∀ s (l : List Blk), (M s ++ l)[kt]? = some (.box (exCells t)) := fun s l => by rw [List.getElem?_append_left (by rw [hn]; exact hkt)]; exact h1 s
  have gs : ∀ s (l : List Blk) X, (M s ++ l).set (n + 1) X = M s ++ l.set 1 X := fun s l X => by rw [List.set_append_right _ _ (by rw [hn]; omega), hn, Nat.add_sub_cancel_left]
  have gt : ∀ s (l : List Blk), (M s ++ l).take n = M s := fun s l => by rw [← hn s, List.take_left]
  have hw : ∀ s, G s → FnOkS Tryz.prog 94 [encEx t, .ptr n 0, .ptr (n + 1) 0] (M s ++ [.box [.yld k], .box [.clo (.func 94) [] [.ptr n 0, .ptr (n + 1) 0]]]) (bl (stepL step s t.nodes).2) (M (stepL step s t.nodes).1 ++ [.box [.yld k], .box [.clo (.func 94) [] [.ptr n 0, .ptr (n + 1) 0]]]) := fun s hs => by
    refine walkE_ok (M := fun s => M s ++ [.box [.yld k], .box [.clo (.func 94) [] [.ptr n 0, .ptr (n + 1) 0]]]) (n := n + 2) (k := k) (k1 := n) (k2 := n + 1) (fun s => by simp [hn]) (by omega) (by omega) (by omega) (fun s => g0 _ _) (fun s => g1 _ _) (fun s => ?_) step G hG hB (fun s u hg hu => ?_) t.bulk t s hs (Nat.le_refl _) ht
    · rw [List.all_append, Bool.and_eq_true]
      refine ⟨belowBs_mono (by omega) (hb s), ?_⟩
      simp [belowB, belowV, belowL]; omega
    · refine (hy s u hg hu).frame (by rw [hn]; exact hk) ?_ (by rw [hn]; exact hb s) (by rw [hn, hn]) (by rw [hn]; exact hb _) _
      rw [encEx_eq]; simp [belowV, belowL, exCells]
  refine fns_ok tt_ok (fn := Tryz.f93) n (by rw [hn]; exact Nat.le_refl _) Tryz.func93 rfl Tryz.call93 ?_
  simp only [startSt, Tryz.ntmps93, List.length_cons, List.length_nil, Nat.reduceAdd, Nat.reduceSub, List.replicate_succ, List.replicate_zero, List.cons_append, List.nil_append]
  have hws := hw s hs
  rw [encEx_eq] at hws
  simp only [exCells] at hws gkt
  refine tri_seq_region tt_ok fun K hK => ?_
  simp only [hn, runOps, stepOp, wantedV, St.eval, St.put, cellsV, oneV, if_true, if_false, setMem, Nat.lt_irrefl, List.set_cons_zero, List.set_cons_succ, List.getD_cons_zero]
  refine hK _ ?_
  clear hK K
  refine tri_seq_region tt_ok fun K hK => ?_
  simp only [hn, List.length_append, List.append_assoc, runOps, stepOp, wantedV, St.put, if_false, setMem, List.length_cons, List.length_nil, Nat.lt_irrefl, List.nil_append, List.cons_append, List.set_cons_zero, List.set_cons_succ, List.map_nil, List.map_cons, Nat.zero_add, tt128]
  refine hK _ ?_
  clear hK K
  refine tri_seq_region tt_ok fun K hK => ?_
  simp only [g1, gs, runOps, stepOp, wantedV, opV, St.eval, St.put, cellsV, oneV, if_true, List.length_cons, List.length_nil, List.set_cons_zero, List.set_cons_succ, List.getD_cons_zero, List.getD_cons_succ, tSize, List.map_nil, List.map_cons, List.getElem?_cons_zero, List.getElem?_cons_succ, Nat.zero_add, Nat.le_refl, storeV, spliceL, tt128]
  refine hK _ ?_
  clear hK K
  refine tri_last_region tt_ok fun K hK => ?_
  simp only [g1, gkt, runOps, stepOp, wantedV, opV, St.eval, St.put, if_true, if_false, List.length_cons, List.length_nil, List.nil_append, List.cons_append, List.set_cons_zero, List.set_cons_succ, List.getD_cons_zero, List.getD_cons_succ, List.map_nil, List.map_cons, loadV, pickCells, List.drop_zero, List.take_succ_cons, List.take_zero, List.getElem?_cons_zero, List.getElem?_cons_succ, List.head?_cons, Nat.zero_add, Nat.reduceAdd, Nat.le_refl, Bool.false_eq_true, calleeOf, tt29, tt128]
  refine .inr <| .inl ⟨_, _, hws, ?_⟩
  try simp only [St.put, List.set_cons_zero, List.set_cons_succ]
  refine hK _ ?_
  clear hK K
  refine ⟨.inr rfl, rfl, rfl, ?_, ?_⟩
  · dsimp only; rw [gt]; exact hb _
  · dsimp only; rw [gt]


/-- A RANGE OVER AN EXPRESSION's NODES. -/
theorem tri_exprs {n0 : Nat} {st : St} {Q : Exit → St → Prop} {f : Operand} {params : Array Tmp} {assign body : Code} {t : Ex} (pre : σ → List Blk) (s0 : σ) (n kt : Nat) (hmem : st.mem = pre s0) (hn : ∀ s, (pre s).length = n) (hkt : kt < n)
    (ht : ∀ s, (pre s)[kt]? = some (.box (exCells t))) (hb : ∀ s, (pre s).all (belowB (n + 1)) = true) (hfr : st.fr.all (belowV (n + 1)) = true) (hf : st.eval f = .clo (.func 93) [] [.ptr kt 0]) (hp : params.size = 1) (step : σ → Ex → σ × Option Code) {B : Nat} (hB : B ≤ 1048576) (hsz : t.bulk ≤ B)
    (hbody : ∀ s u, u.bulk ≤ B → ∀ (l : Nat) (LR LB : Blk), belowB (n + 1) LR = true → belowB (n + 1) LB = true → Tri Tryz.prog (some l) (n + 1) assign { fr := setPs params.toList [encEx u] st.fr, mem := pre s ++ [LR] } fun ex st1 => ex = .normal ∧ st1.mem[n]? = some LR ∧
      Tri Tryz.prog (some l) (n + 1) body { st1 with mem := st1.mem.set n LB } fun ex st2 => jumpOf ex = some (step s u).2 ∧ st2.mem[n]? = some LB ∧ st2.mem.take n = pre (step s u).1)
    (hq : match (stepJ step s0 t.nodes).2 with
      | none => Q .normal { st with mem := pre (stepJ step s0 t.nodes).1 ++ [.dead] }
      | some c => Tri Tryz.prog none n0 c { st with mem := pre (stepJ step s0 t.nodes).1 ++ [.dead] } Q) : Tri Tryz.prog none n0 (.rangeFunc f params assign body) st Q := by
  have hlen : st.mem.length = n := by rw [hmem, hn]
  have gn : ∀ s X, (pre s ++ [X])[n]? = some X := fun s X => by rw [List.getElem?_append_right (by rw [hn]; exact Nat.le_refl _), hn, Nat.sub_self]; rfl
  have gk : ∀ s X, (pre s ++ [X])[kt]? = some (.box (exCells t)) := fun s X => by rw [List.getElem?_append_left (by rw [hn]; exact hkt)]; exact ht s
  have gset : ∀ s (X Y : Blk), (pre s ++ [X]).set n Y = pre s ++ [Y] := fun s X Y => by rw [List.set_append_right _ _ (by rw [hn]; exact Nat.le_refl _), hn, Nat.sub_self]; rfl
  have hball : ∀ (s : σ) (a : LoopState) (b : Option Code), (pre s ++ [Blk.loop a b st.fr params assign body]).all (belowB (n + 1)) = true := fun s a b => by
    rw [List.all_append, Bool.and_eq_true]
    exact ⟨hb s, by simp only [List.all_cons, List.all_nil, Bool.and_true, belowB]; exact hfr⟩
  have it := iterE_ok (M := fun s : σ × Option Code => pre s.1 ++ [.loop (if s.2.isNone then .ready else .done) s.2 st.fr params assign body]) (n := n + 1) (k := n) (kt := kt) (t := t) (fun s => by simp [hn]) (by omega) (by omega) (fun s => gk _ _) (fun s => hball _ _ _)
    (stepB step) (fun s => s.2 = none) (fun s u hs h => by simpa [stepB] using h) hB (fun s u hs hu => by
      obtain ⟨s, j⟩ := s
      simp only at hs; subst hs
      refine yok_of_body (fr := st.fr) (params := params) (assign := assign) (body := body) (gn _ _) (by simp [hp]) fun l => ?_
      have hl : (pre s ++ [Blk.loop .ready none st.fr params assign body]).length = n + 1 := by simp [hn]
      simp only [Option.isNone_none, if_true, hl]
      refine Tri.mono (hbody s u hu l (.loop .ready none st.fr params assign body) (.loop .busy none st.fr params assign body) hfr hfr) ?_
      rintro ex st1 ⟨h1, h2, h3⟩
      refine ⟨h1, h2, Tri.mono h3 ?_⟩
      rintro ex st2 ⟨h4, h5, h6⟩
      refine ⟨_, h4, rfl, h5, ?_, ?_⟩
      · rw [take_set (hn _) h5 h6]; exact hball _ _ _
      · rw [take_set (hn _) h5 h6]; rfl) hsz (s0, none) rfl
  rw [stepJ_L] at it
  refine tri_rangeFunc (g := 93) (vs := [.yld n, .ptr kt 0]) (by rw [hf, hlen]; rfl) (by rw [hmem]; exact it) ?_
  rw [hlen]
  refine ⟨_, _, _, _, _, _, gn _ _, ?_, ?_⟩
  · cases (stepJ step s0 t.nodes).2 <;> simp
  · generalize hj : (stepJ step s0 t.nodes).2 = j at hq
    cases j with
    | none => dsimp only at hq ⊢; rw [gset]; exact hq
    | some c => dsimp only at hq ⊢; rw [gset]; exact hq
end
end Go.Proofs.YtpjdfcigadnhcaaGreatDoor
end

section
namespace Go.Proofs.YtpjdfcigadnhcaaGreatDoor
open Go.Eng
variable [Glob]
theorem firstOk_of {rows : List V} {e : Nat} (h : ∀ r ∈ rows, r.cells.length = e) (n : Nat) : firstOk rows n e = true := by
  unfold firstOk; split
  · rename_i r hr; simpa using h r (List.mem_of_getElem? hr)
  · rfl

theorem sown_ok (e : Ex) (hl : e.types.length + e.labels.length ≤ 34359738368) : FnOk Tryz.prog 54 [encEx e] (.slice (encTys e.own)) := by
  have hl1 : e.types.length ≤ 34359738368 := by omega
  obtain ⟨k, m, n, x, z, ts, ls, ks⟩ := e
  simp only [Ex.types, Ex.labels] at hl hl1
  refine fn_ok tt_ok (fn := Tryz.f54) Tryz.func54 rfl Tryz.call54 ?_
  simp only [startSt, Tryz.ntmps54, List.length_cons, List.length_nil, Nat.reduceAdd, Nat.reduceSub, List.replicate_succ, List.replicate_zero, List.cons_append, List.nil_append]
  refine tri_seq_region tt_ok fun K hK => ?_
  simp only [encEx, runOps, stepOp, wantedV, opV, St.eval, St.put, absV, cellsV, oneV, List.all_cons, List.all_nil, Bool.and_self, Value.oneCell', if_true, if_false, setMem, List.length_nil, Nat.lt_irrefl, List.nil_append, List.set_cons_zero, List.set_cons_succ, List.getD_cons_zero]
  refine hK _ ?_
  clear hK K
  refine tri_seq_region tt_ok fun K hK => ?_
  simp only [runOps, stepOp, wantedV, opV, St.eval, St.put, if_true, if_false, List.length_cons, List.length_nil, List.nil_append, List.append_nil, List.set_cons_zero, List.set_cons_succ, List.getD_cons_zero, List.getD_cons_succ, List.map_nil, List.map_cons, fieldV, tOff, fieldAt, loadV, pickCells, List.drop_zero, List.drop_succ_cons, List.take_succ_cons, List.take_zero, List.getElem?_cons_zero, List.getElem?_cons_succ, List.head?_cons, Nat.zero_add, Nat.reduceAdd, Nat.reduceLeDiff, Bool.false_eq_true, calleeOf, tt22, tt29]
  refine .inr <| .inl ⟨_, _, FnOkS.live (by simp only [purL, pur1, purCell]) (cloneTy_ok (encTys ts) (first_ty ts 0) (by rw [length_encTys]; exact hl1)) rfl _, ?_⟩
  try simp only [length_encTys, St.put, List.length_cons, List.length_nil, List.nil_append, List.cons_append, List.set_cons_zero, List.set_cons_succ, List.getD_cons_zero, List.getD_cons_succ, Nat.zero_add, Nat.add_zero]
  refine hK _ ?_
  clear hK K
  refine tri_seq ?_
  refine tri_seq_region tt_ok fun K hK => ?_
  simp only [runOps, stepOp, wantedV, opV, St.eval, St.put, absV, if_true, if_false, List.length_cons, List.length_nil, List.set_cons_zero, List.set_cons_succ, List.getD_cons_zero, List.getD_cons_succ, fieldV, tOff, fieldAt, loadV, pickCells, List.drop_zero, List.take_succ_cons, List.take_zero, List.getElem?_cons_zero, List.head?_cons, Nat.zero_add, Nat.add_zero, Nat.reduceAdd, Nat.reduceLeDiff, Bool.false_eq_true, ev_eql, nilLen, gnCmp, tt3, tt29]
  refine hK _ ?_
  clear hK K
  by_cases hk : k = 8
  · have hd : decide (k = 8) = true := by simpa using hk
    rw [hd]
    refine tri_cond rfl ?_
    refine tri_seq_region tt_ok fun K hK => ?_
    simp only [List.length_map, runOps, stepOp, wantedV, opV, St.eval, St.put, absV, if_true, if_false, List.length_cons, List.length_nil, List.set_cons_zero, List.set_cons_succ, List.getD_cons_zero, List.getD_cons_succ, tElem, List.map_nil, List.map_cons, fieldV, tOff, fieldAt, loadV, pickCells, List.drop_zero, List.drop_succ_cons, List.take_succ_cons, List.take_zero, List.getElem?_cons_zero, List.getElem?_cons_succ, List.head?_cons, Nat.zero_add, Nat.reduceAdd, Nat.reduceLeDiff, Bool.false_eq_true, lenV, List.getElem?_toArray, ev_len1, tt26, tt29]
    refine hK _ ?_
    clear hK K
    refine tri_block (tri_loop_inv (fun N st => ∃ (i ver : Nat) (acc : List Ty), N = ls.length - i ∧ i ≤ ls.length ∧ acc = ts ++ (ls.take i).map Lb.ty ∧
      st = { fr := [.undef, .ptr 0 0, .undef, .ms 1 ver 0 acc.length, .undef, .undef, .undef, .undef, .undef, .undef, .undef, .undef, .undef, .slice (ls.map encLb), num ls.length, num i] ++ List.replicate 10 .undef, mem := [.box (encEx (.mk k m n x z ts ls ks)).cells, .rows ver 5 (encTys acc)] }) ls.length ?_ ?_)
    · exact ⟨2, [false, true, false, true, false, false, false, false, false, false, false, false, false, true, true, true], by omega, by simp only [maskFr, if_true, if_false, Bool.false_eq_true, List.all_cons, List.all_nil, belowV, Nat.reduceLT, decide_true, Bool.and_self], by simp only [List.all_cons, List.all_nil, belowV, belowB, Bool.and_self, List.take_succ_cons, List.take_nil], 0, 1, ts, by omega, by omega, by simp, rfl⟩
    · rintro N st ⟨i, ver, acc, rfl, hi, hacc, rfl⟩
      have hal : acc.length ≤ 34359738367 ∨ i = ls.length := by
        rw [hacc]; simp; omega
      simp only [List.replicate_succ, List.replicate_zero, List.cons_append, List.nil_append, encEx, V.cells]
      by_cases hlt : i < ls.length
      · have hd := lt_dec hlt
        have hal' : acc.length ≤ 34359738367 := by omega
        refine tri_seq_region tt_ok fun K hK => ?_
        simp only [hd, runOps, stepOp, wantedV, opV, St.eval, St.put, List.set_cons_zero, List.set_cons_succ, List.getD_cons_zero, List.getD_cons_succ, ev_lss, nilLen, gnCmp]
        refine hK _ ?_
        clear hK K
        refine tri_seq (tri_cond rfl (tri_skip ?_))
        refine tri_seq (tri_block ?_)
        obtain ⟨f, hf⟩ : ∃ f, ls[i]? = some f := ⟨_, List.getElem?_eq_getElem hlt⟩
        have hft : (ls.take (i + 1)).map Lb.ty = (ls.take i).map Lb.ty ++ [f.ty] := by
          rw [List.take_add_one, hf]; simp
        refine tri_seq_region tt_ok fun K hK => ?_
        simp only [List.getElem?_map, hf, encLb, tyCells, runOps, stepOp, wantedV, opV, St.eval, St.put, cellsV, oneV, List.all_cons, List.all_nil, Bool.and_self, Value.oneCell', if_true, if_false, setMem, List.length_cons, List.length_nil, Nat.lt_irrefl, List.nil_append, List.cons_append, List.set_cons_zero, List.set_cons_succ, List.getD_cons_zero, List.getD_cons_succ, tElem, tSize, List.map_nil, List.map_cons, loadV, pickCells, List.take_succ_cons, List.take_zero, List.getElem?_cons_zero, List.getElem?_cons_succ, List.head?_cons, Nat.zero_add, Nat.reduceAdd, Nat.le_refl, Int.natCast_nonneg, indexV, indexAt, Int.toNat_natCast, V.cells, Option.map_some, storeV, spliceL, tt26, tt105]
        refine hK _ ?_
        clear hK K
        refine tri_last_region tt_ok fun K hK => ?_
        simp only [length_encTys, hal', runOps, stepOp, wantedV, opV, St.eval, St.put, absV, cellsV, oneV, List.all_cons, List.all_nil, Bool.and_self, Value.oneCell', if_true, if_false, setMem, List.length_cons, List.length_nil, Nat.lt_irrefl, List.nil_append, List.cons_append, List.set_cons_zero, List.set_cons_succ, List.getD_cons_zero, List.getD_cons_succ, litV, tElem, tSize, seqParts, litRows, List.map_nil, List.map_cons, fieldV, tOff, fieldAt, loadV, pickCells, List.drop_zero, List.drop_succ_cons, List.take_succ_cons, List.take_zero, List.getElem?_cons_zero, List.getElem?_cons_succ, List.head?_cons, Nat.zero_add, Nat.reduceAdd, Nat.reduceLT, Nat.reduceLeDiff, Nat.reduceMul, Nat.le_refl, and_self, appendV, liveRows, rowsOf, appOut, beq_self_eq_true, pureCell, rowV, nilS, tt22, tt25, tt105]
        refine hK _ ?_
        clear hK K
        refine tri_last_region tt_ok fun K hK => ?_
        simp only [runOps, stepOp, wantedV, opV, St.eval, St.put, absV, List.set_cons_zero, List.set_cons_succ, List.getD_cons_zero, List.getD_cons_succ, ev_add, nilLen, gnCmp]
        refine hK _ ?_
        clear hK K
        have hw := i64_succ i (by omega)
        rw [hw]
        refine ⟨ls.length - (i + 1), by omega, 2, [false, true, false, true, false, false, false, false, false, false, false, false, false, true, true, true], by omega, by simp only [maskFr, if_true, if_false, Bool.false_eq_true, List.all_cons, List.all_nil, belowV, Nat.reduceLT, decide_true, Bool.and_self], by simp only [List.all_cons, List.all_nil, belowV, belowB, Bool.and_self, List.take_succ_cons, List.take_zero], i + 1, ver + 1, acc ++ [f.ty], rfl, hlt, by rw [hacc, hft]; simp, ?_⟩
        simp [maskFr, encTys_map, encTy_eq, tyCells]
      · have hd := ge_dec hlt
        refine tri_seq_region tt_ok fun K hK => ?_
        simp only [hd, runOps, stepOp, wantedV, opV, St.eval, St.put, List.set_cons_zero, List.set_cons_succ, List.getD_cons_zero, List.getD_cons_succ, ev_lss, nilLen, gnCmp]
        refine hK _ ?_
        clear hK K
        refine tri_seq (tri_cond rfl (tri_exit ?_))
        have hie : i = ls.length := by omega
        subst hie
        show Tri _ _ _ _ _ _
        refine tri_seq_region tt_ok fun K hK => ?_
        simp only [runOps, stepOp, wantedV, opV, St.eval, St.put, List.set_cons_zero, List.set_cons_succ, List.getD_cons_zero, List.getD_cons_succ]
        refine hK _ ?_
        clear hK K
        refine tri_ret ⟨.inl rfl, ?_⟩
        rw [List.take_length] at hacc
        have hr : encTys (Ex.mk k m n x z ts ls ks).own = encTys acc := by rw [hacc]; simp [Ex.own, Ex.types, Ex.kind, Ex.labels, hk]
        rw [hr]
        simp [retV, resL, resV, Tryz.f54, pur, pur1, purCell, length_encTys]
        rw [← length_encTys]; simp
  · have hd : decide (k = 8) = false := by simpa using hk
    rw [hd]
    refine tri_cond rfl (tri_skip ?_)
    show Tri _ _ _ _ _ _
    refine tri_seq_region tt_ok fun K hK => ?_
    simp only [runOps, stepOp, wantedV, opV, St.eval, St.put, List.set_cons_zero, List.set_cons_succ, List.getD_cons_zero, List.getD_cons_succ]
    refine hK _ ?_
    clear hK K
    refine tri_ret ⟨.inl rfl, ?_⟩
    have hr : encTys (Ex.mk k m n x z ts ls ks).own = encTys ts := by simp [Ex.own, Ex.types, Ex.kind, hk]
    rw [hr]
    simp [retV, resL, resV, Tryz.f54, pur, pur1, purCell, length_encTys]
    rw [← length_encTys]; simp

theorem own_ok (e : Ex) (hl : e.types.length + e.labels.length ≤ 34359738368) : FnOk Tryz.prog 49 [encEx e] (.slice (encTys e.own)) := by
  have hl1 : e.types.length ≤ 34359738368 := by omega
  obtain ⟨k, m, n, x, z, ts, ls, ks⟩ := e
  simp only [Ex.types, Ex.labels] at hl hl1
  refine fn_ok tt_ok (fn := Tryz.f49) Tryz.func49 rfl Tryz.call49 ?_
  simp only [startSt, Tryz.ntmps49, List.length_cons, List.length_nil, Nat.reduceAdd, Nat.reduceSub, List.replicate_succ, List.replicate_zero, List.cons_append, List.nil_append]
  refine tri_seq_region tt_ok fun K hK => ?_
  simp only [encEx, runOps, stepOp, wantedV, opV, St.eval, St.put, absV, cellsV, oneV, List.all_cons, List.all_nil, Bool.and_self, Value.oneCell', if_true, if_false, setMem, List.length_nil, Nat.lt_irrefl, List.nil_append, List.set_cons_zero, List.set_cons_succ, List.getD_cons_zero]
  refine hK _ ?_
  clear hK K
  refine tri_seq_region tt_ok fun K hK => ?_
  simp only [first_ty, length_encTys, hl1, runOps, stepOp, wantedV, opV, St.eval, St.put, absV, if_true, if_false, setMem, List.length_cons, List.length_nil, Nat.lt_irrefl, List.nil_append, List.cons_append, List.set_cons_zero, List.set_cons_succ, List.getD_cons_zero, List.getD_cons_succ, litV, tElem, tSize, seqParts, litRows, List.map_nil, List.map_cons, Nat.zero_mul, fieldV, tOff, fieldAt, loadV, pickCells, List.drop_zero, List.drop_succ_cons, List.take_succ_cons, List.take_zero, List.getElem?_cons_zero, List.getElem?_cons_succ, List.head?_cons, Nat.zero_add, Nat.reduceAdd, Nat.reduceLT, Nat.reduceLeDiff, Nat.zero_le, and_self, appendV, liveRows, rowsOf, appOut, Bool.false_eq_true, tt22, tt25, tt29]
  refine hK _ ?_
  clear hK K
  refine tri_seq ?_
  refine tri_seq_region tt_ok fun K hK => ?_
  simp only [runOps, stepOp, wantedV, opV, St.eval, St.put, absV, if_true, if_false, List.length_cons, List.length_nil, List.set_cons_zero, List.set_cons_succ, List.getD_cons_zero, List.getD_cons_succ, fieldV, tOff, fieldAt, loadV, pickCells, List.drop_zero, List.take_succ_cons, List.take_zero, List.getElem?_cons_zero, List.head?_cons, Nat.zero_add, Nat.add_zero, Nat.reduceAdd, Nat.reduceLeDiff, Bool.false_eq_true, ev_eql, nilLen, gnCmp, tt3, tt29]
  refine hK _ ?_
  clear hK K
  by_cases hk : k = 8
  · have hd : decide (k = 8) = true := by simpa using hk
    rw [hd]
    refine tri_cond rfl ?_
    refine tri_seq_region tt_ok fun K hK => ?_
    simp only [runOps, stepOp, wantedV, opV, St.eval, St.put, absV, List.set_cons_zero, List.set_cons_succ]
    refine hK _ ?_
    clear hK K
    refine tri_block (tri_loop_inv (fun N st => ∃ (i ver : Nat) (acc : List Ty), N = ls.length - i ∧ i ≤ ls.length ∧ acc = ts ++ (ls.take i).map Lb.ty ∧
      st = { fr := [.undef, .ptr 0 0, .undef, .ms 1 ver 0 acc.length, num i] ++ List.replicate 24 .undef, mem := [.box (encEx (.mk k m n x z ts ls ks)).cells, .rows ver 5 (encTys acc)] }) ls.length ?_ ?_)
    · exact ⟨2, [false, true, false, true, true], by omega, by simp only [maskFr, if_true, if_false, Bool.false_eq_true, List.all_cons, List.all_nil, belowV, Nat.reduceLT, decide_true, Bool.and_self], by simp only [List.all_cons, List.all_nil, belowV, belowB, Bool.and_self, List.take_succ_cons, List.take_nil], 0, 1, ts, by omega, by omega, by simp, rfl⟩
    · rintro N st ⟨i, ver, acc, rfl, hi, hacc, rfl⟩
      have hal : acc.length ≤ 34359738367 ∨ i = ls.length := by
        rw [hacc]; simp; omega
      simp only [List.replicate_succ, List.replicate_zero, List.cons_append, List.nil_append, encEx, V.cells]
      refine tri_seq ?_
      by_cases hlt : i < ls.length
      · have hd := lt_dec hlt
        have hal' : acc.length ≤ 34359738367 := by omega
        refine tri_seq_region tt_ok fun K hK => ?_
        simp only [List.length_map, hd, runOps, stepOp, wantedV, opV, St.eval, St.put, if_true, if_false, List.length_cons, List.length_nil, List.set_cons_zero, List.set_cons_succ, List.getD_cons_zero, List.getD_cons_succ, tElem, List.map_nil, List.map_cons, fieldV, tOff, fieldAt, loadV, pickCells, List.drop_zero, List.drop_succ_cons, List.take_succ_cons, List.take_zero, List.getElem?_cons_zero, List.getElem?_cons_succ, List.head?_cons, Nat.zero_add, Nat.reduceAdd, Nat.reduceLeDiff, Bool.false_eq_true, lenV, ev_lss, List.getElem?_toArray, nilLen, ev_len1, gnCmp, tt26, tt29]
        refine hK _ ?_
        clear hK K
        refine tri_cond rfl (tri_skip ?_)
        refine tri_seq (tri_block ?_)
        obtain ⟨f, hf⟩ : ∃ f, ls[i]? = some f := ⟨_, List.getElem?_eq_getElem hlt⟩
        have hft : (ls.take (i + 1)).map Lb.ty = (ls.take i).map Lb.ty ++ [f.ty] := by
          rw [List.take_add_one, hf]; simp
        refine tri_last_region tt_ok fun K hK => ?_
        simp only [List.getElem?_map, hf, encLb, tyCells, length_encTys, hal', runOps, stepOp, wantedV, opV, St.eval, St.put, absV, cellsV, oneV, List.all_cons, List.all_nil, Bool.and_self, Value.oneCell', if_true, if_false, setMem, List.length_cons, List.length_nil, Nat.lt_irrefl, List.nil_append, List.cons_append, List.set_cons_zero, List.set_cons_succ, List.getD_cons_zero, List.getD_cons_succ, litV, tElem, tSize, seqParts, litRows, List.map_nil, List.map_cons, fieldV, tOff, fieldAt, loadV, pickCells, List.drop_zero, List.drop_succ_cons, List.take_succ_cons, List.take_zero, List.getElem?_cons_zero, List.getElem?_cons_succ, List.head?_cons, Nat.zero_add, Nat.reduceAdd, Nat.reduceLT, Nat.reduceLeDiff, Nat.reduceMul, Nat.le_refl, and_self, appendV, liveRows, rowsOf, appOut, Bool.false_eq_true, Int.natCast_nonneg, indexV, indexAt, Int.toNat_natCast, V.cells, Option.map_some, beq_self_eq_true, pureCell, rowV, nilS, tt22, tt25, tt26, tt29, tt105]
        refine hK _ ?_
        clear hK K
        refine tri_last_region tt_ok fun K hK => ?_
        simp only [runOps, stepOp, wantedV, opV, St.eval, St.put, absV, List.set_cons_zero, List.set_cons_succ, List.getD_cons_zero, List.getD_cons_succ, ev_add, nilLen, gnCmp]
        refine hK _ ?_
        clear hK K
        have hw := i64_succ i (by omega)
        rw [hw]
        refine ⟨ls.length - (i + 1), by omega, 2, [false, true, false, true, true], by omega, by simp only [maskFr, if_true, if_false, Bool.false_eq_true, List.all_cons, List.all_nil, belowV, Nat.reduceLT, decide_true, Bool.and_self], by simp only [List.all_cons, List.all_nil, belowV, belowB, Bool.and_self, List.take_succ_cons, List.take_zero], i + 1, ver + 1, acc ++ [f.ty], rfl, hlt, by rw [hacc, hft]; simp, ?_⟩
        simp [maskFr, encTys_map, encTy_eq, tyCells]
      · have hd := ge_dec hlt
        refine tri_seq_region tt_ok fun K hK => ?_
        simp only [List.length_map, hd, runOps, stepOp, wantedV, opV, St.eval, St.put, if_true, if_false, List.length_cons, List.length_nil, List.set_cons_zero, List.set_cons_succ, List.getD_cons_zero, List.getD_cons_succ, tElem, List.map_nil, List.map_cons, fieldV, tOff, fieldAt, loadV, pickCells, List.drop_zero, List.drop_succ_cons, List.take_succ_cons, List.take_zero, List.getElem?_cons_zero, List.getElem?_cons_succ, List.head?_cons, Nat.zero_add, Nat.reduceAdd, Nat.reduceLeDiff, Bool.false_eq_true, lenV, ev_lss, List.getElem?_toArray, nilLen, ev_len1, gnCmp, tt26, tt29]
        refine hK _ ?_
        clear hK K
        refine tri_cond rfl (tri_exit ?_)
        have hie : i = ls.length := by omega
        subst hie
        show Tri _ _ _ _ _ _
        refine tri_seq_region tt_ok fun K hK => ?_
        simp only [runOps, stepOp, wantedV, opV, St.eval, St.put, List.set_cons_zero, List.set_cons_succ, List.getD_cons_zero, List.getD_cons_succ]
        refine hK _ ?_
        clear hK K
        refine tri_ret ⟨.inl rfl, ?_⟩
        rw [List.take_length] at hacc
        have hr : encTys (Ex.mk k m n x z ts ls ks).own = encTys acc := by rw [hacc]; simp [Ex.own, Ex.types, Ex.kind, Ex.labels, hk]
        rw [hr]
        simp [retV, resL, resV, Tryz.f49, pur, pur1, purCell, length_encTys]
        rw [← length_encTys]; simp
  · have hd : decide (k = 8) = false := by simpa using hk
    rw [hd]
    refine tri_cond rfl (tri_skip ?_)
    show Tri _ _ _ _ _ _
    refine tri_seq_region tt_ok fun K hK => ?_
    simp only [runOps, stepOp, wantedV, opV, St.eval, St.put, List.set_cons_zero, List.set_cons_succ, List.getD_cons_zero, List.getD_cons_succ]
    refine hK _ ?_
    clear hK K
    refine tri_ret ⟨.inl rfl, ?_⟩
    have hr : encTys (Ex.mk k m n x z ts ls ks).own = encTys ts := by simp [Ex.own, Ex.types, Ex.kind, hk]
    rw [hr]
    simp [retV, resL, resV, Tryz.f49, pur, pur1, purCell, length_encTys]
    rw [← length_encTys]; simp
end Go.Proofs.YtpjdfcigadnhcaaGreatDoor
end

section
namespace Go.Proofs.YtpjdfcigadnhcaaGreatDoor
open Go.Eng
variable [Glob]
def addW (s : Int) (u : Ty) : Int := IntKind.i64.wrap (s + (u.size : Int))
def nodeW (s : Int) (e : Ex) : Int := e.own.foldl addW (IntKind.i64.wrap (s + 1))
theorem addW_fold : ∀ (l : List Ty) (a : Nat), a + sumBy Ty.size l ≤ 1152921504606846976 → l.foldl addW (a : Int) = ((a + sumBy Ty.size l : Nat) : Int)
  | [], a, _ => rfl
  | u :: r, a, h => by
    simp only [sumBy] at h ⊢
    rw [List.foldl_cons, addW, i64_add a u.size (by omega), addW_fold r _ (by omega)]
    congr 1; omega
theorem nodeW_fold : ∀ (l : List Ex) (a : Nat), a + sumBy (fun e => 1 + sumBy Ty.size e.own) l ≤ 1152921504606846976 → l.foldl nodeW (a : Int) = ((a + sumBy (fun e => 1 + sumBy Ty.size e.own) l : Nat) : Int)
  | [], a, _ => rfl
  | e :: r, a, h => by
    simp only [sumBy] at h ⊢
    rw [List.foldl_cons, nodeW, i64_succ a (by omega), addW_fold _ _ (by omega), nodeW_fold r _ (by omega)]
    congr 1; omega
theorem Ex.own_size (e : Ex) : sumBy Ty.size e.own ≤ e.size := by rw [Ex.size_eq]; omega
theorem Ex.own_length (e : Ex) : e.own.length ≤ e.size := by
  have := length_le_sum Ty.size Ty.size_pos e.own
  have := e.own_size; omega


theorem sesize_ok (e : Ex) (he : e.bulk ≤ 1048576) : FnOk Tryz.prog 18 [encEx e] (num e.size) := by
  have hsz := Ex.size_le_bulk _ e (Nat.le_refl _)
  refine fn_ok tt_ok (fn := Tryz.f18) Tryz.func18 rfl Tryz.call18 ?_
  simp only [startSt, Tryz.ntmps18, List.length_cons, List.length_nil, Nat.reduceAdd, Nat.reduceSub, List.replicate_succ, List.replicate_zero, List.cons_append, List.nil_append]
  have h53 := fun B0 B1 h => exprs_ok e [B0, B1] h
  rw [encEx_eq] at h53 ⊢
  simp only [exCells] at h53 ⊢
  refine tri_seq_region tt_ok fun K hK => ?_
  simp only [runOps, stepOp, wantedV, opV, St.eval, St.put, absV, cellsV, oneV, List.all_cons, List.all_nil, Bool.and_self, Value.oneCell', if_true, if_false, setMem, List.length_nil, Nat.lt_irrefl, List.nil_append, List.set_cons_zero, List.set_cons_succ, List.getD_cons_zero]
  refine hK _ ?_
  clear hK K
  refine tri_seq_region tt_ok fun K hK => ?_
  simp only [runOps, stepOp, wantedV, St.eval, St.put, absV, cellsV, oneV, Value.oneCell', if_true, if_false, setMem, List.length_cons, List.length_nil, Nat.lt_irrefl, List.nil_append, List.cons_append, List.set_cons_zero, List.set_cons_succ, List.getD_cons_zero, List.getD_cons_succ, tSize, List.map_nil, List.map_cons, List.getElem?_cons_zero, List.getElem?_cons_succ, Nat.zero_add, Nat.le_refl, storeV, spliceL, tt3]
  refine hK _ ?_
  clear hK K
  refine tri_seq ?_
  refine tri_seq_region tt_ok fun K hK => ?_
  simp only [runOps, stepOp, wantedV, opV, St.eval, St.put, if_true, List.length_cons, List.length_nil, List.nil_append, List.append_nil, List.set_cons_zero, List.set_cons_succ, List.getD_cons_zero, List.getD_cons_succ, List.map_nil, List.map_cons, loadV, pickCells, List.drop_zero, List.take_succ_cons, List.take_zero, List.getElem?_cons_zero, List.head?_cons, Nat.zero_add, Nat.reduceAdd, Nat.le_refl, calleeOf, tt29]
  refine .inr <| .inl ⟨_, _, h53 _ _ rfl, ?_⟩
  try simp only [St.put, List.length_cons, List.length_nil, List.nil_append, List.cons_append, List.set_cons_zero, List.set_cons_succ, Nat.zero_add, Nat.reduceAdd]
  refine hK _ ?_
  clear hK K
  refine tri_block (tri_exprs (t := e) (B := 1048576) (fun s : Int => [.box (exCells e), .box [num s], .box (exCells e)]) 0 3 2 rfl (fun _ => rfl) (by omega) (fun _ => rfl) (fun _ => rfl) rfl rfl rfl (fun s u => (nodeW s u, none)) (by omega) he ?_ ?_)
  · intro s u hu l LR LB hLR hLB
    rw [encEx_eq]
    simp only [setPs, exCells, List.set_cons_succ, List.set_cons_zero, List.cons_append, List.nil_append]
    have hol := u.own_le
    have hol2 := u.own_len
    have hop := sown_ok u (by omega)
    have hnl := length_le_sum Ty.size Ty.size_pos u.own
    rw [encEx_eq] at hop
    simp only [exCells] at hop
    refine tri_last_region tt_ok fun K hK => ?_
    simp only [runOps, stepOp, wantedV, St.eval, St.put, cellsV, oneV, List.all_cons, List.all_nil, Bool.and_self, Value.oneCell', if_true, if_false, setMem, List.length_cons, List.length_nil, Nat.lt_irrefl, List.nil_append, List.cons_append, List.set_cons_zero, List.set_cons_succ, List.getD_cons_zero, List.getD_cons_succ, tSize, List.map_nil, List.map_cons, List.getElem?_cons_zero, List.getElem?_cons_succ, Nat.zero_add, Nat.reduceAdd, Nat.le_refl, storeV, spliceL, tt29]
    refine hK _ ?_
    clear hK K
    refine ⟨rfl, rfl, tri_block ?_⟩
    refine tri_seq ?_
    refine tri_last_region tt_ok fun K hK => ?_
    simp only [runOps, stepOp, wantedV, opV, St.eval, St.put, absV, cellsV, oneV, Value.oneCell', if_true, if_false, List.length_cons, List.length_nil, List.set_cons_zero, List.set_cons_succ, List.getD_cons_zero, List.getD_cons_succ, tSize, loadV, pickCells, List.drop_zero, List.take_succ_cons, List.take_zero, List.getElem?_cons_zero, List.getElem?_cons_succ, List.head?_cons, Nat.zero_add, Nat.le_refl, Bool.false_eq_true, ev_add, nilLen, storeV, spliceL, gnCmp, tt3]
    refine hK _ ?_
    clear hK K
    refine tri_seq ?_
    refine tri_last_region tt_ok fun K hK => ?_
    simp only [runOps, stepOp, wantedV, opV, St.eval, St.put, absV, if_true, List.length_cons, List.length_nil, List.nil_append, List.append_nil, List.set_cons_zero, List.set_cons_succ, List.getD_cons_zero, List.getD_cons_succ, tElem, List.map_nil, List.map_cons, loadV, pickCells, List.drop_zero, List.take_succ_cons, List.take_zero, List.getElem?_cons_zero, List.getElem?_cons_succ, List.head?_cons, Nat.zero_add, Nat.reduceAdd, Nat.le_refl, lenV, calleeOf, List.getElem?_toArray, tt22, tt29]
    refine .inl ⟨_, _, by simp only [purL, pur1, purCells, purCell, nilS], hop, ?_⟩
    try simp only [length_encTys, St.put, List.append_nil, List.set_cons_zero, List.set_cons_succ, List.getD_cons_zero, List.getD_cons_succ, memAfter_nil, List.flatMap_cons, List.flatMap_nil, ref1, refCell, ev_len1]
    refine hK _ ?_
    clear hK K
    obtain ⟨ps, hps⟩ : ∃ ps, ps = u.own := ⟨_, rfl⟩
    have hnw : nodeW s u = ps.foldl addW (IntKind.i64.wrap (s + 1)) := by rw [hps]; rfl
    rw [hnw, ← hps]
    rw [← hps] at hol hnl
    refine tri_block (tri_loop_inv (fun N st => ∃ (i : Nat), N = ps.length - i ∧ i ≤ ps.length ∧
      st = { fr := [.undef, .undef, .undef, .ptr 1 0, .undef, .undef, .undef, .undef, .undef, .undef, .undef, .undef, .undef, .slice (encTys ps), num ps.length, num i] ++ List.replicate 9 .undef, mem := [.box (exCells e), .box [num ((ps.take i).foldl addW (IntKind.i64.wrap (s + 1)))], .box (exCells e), LB] }) ps.length ?_ ?_)
    · exact ⟨4, [false, false, false, true, false, false, false, false, false, false, false, false, false, true, true, true], by omega, by simp only [maskFr, if_true, if_false, Bool.false_eq_true, List.all_cons, List.all_nil, belowV, Nat.reduceLT, decide_true, Bool.and_self], by have h4 : belowB 4 LB = true := hLB; simp only [List.take_succ_cons, List.take_zero, List.all_cons, List.all_nil, h4]; rfl, 0, by omega, by omega, rfl⟩
    · rintro N st ⟨i, rfl, hi, rfl⟩
      simp only [List.replicate_succ, List.replicate_zero, List.cons_append, List.nil_append]
      by_cases hlt : i < ps.length
      · have hd := lt_dec hlt
        refine tri_seq_region tt_ok fun K hK => ?_
        simp only [hd, runOps, stepOp, wantedV, opV, St.eval, St.put, List.set_cons_zero, List.set_cons_succ, List.getD_cons_zero, List.getD_cons_succ, ev_lss, nilLen, gnCmp]
        refine hK _ ?_
        clear hK K
        refine tri_seq (tri_cond rfl (tri_skip ?_))
        refine tri_seq (tri_block ?_)
        obtain ⟨v, hv⟩ : ∃ v, ps[i]? = some v := ⟨_, List.getElem?_eq_getElem hlt⟩
        have hvs := sumBy_mem Ty.size hv
        have hfo : (ps.take (i + 1)).foldl addW (IntKind.i64.wrap (s + 1)) = IntKind.i64.wrap ((ps.take i).foldl addW (IntKind.i64.wrap (s + 1)) + (v.size : Int)) := by
          rw [List.take_add_one, hv, List.foldl_append]; rfl
        have hts := stsize_ok v (by omega)
        rw [encTy_eq] at hts
        simp only [tyCells] at hts
        refine tri_seq_region tt_ok fun K hK => ?_
        simp only [get_encTys, hv, encTy_eq, tyCells, runOps, stepOp, wantedV, opV, St.eval, St.put, cellsV, oneV, List.all_cons, List.all_nil, Bool.and_self, Value.oneCell', if_true, if_false, setMem, List.length_cons, List.length_nil, Nat.lt_irrefl, List.nil_append, List.cons_append, List.set_cons_zero, List.set_cons_succ, List.getD_cons_zero, List.getD_cons_succ, tElem, tSize, List.map_nil, List.map_cons, loadV, pickCells, List.take_succ_cons, List.take_zero, List.getElem?_cons_zero, List.getElem?_cons_succ, List.head?_cons, Nat.zero_add, Nat.reduceAdd, Nat.le_refl, Int.natCast_nonneg, indexV, indexAt, Int.toNat_natCast, V.cells, Option.map_some, storeV, spliceL, tt22, tt25]
        refine hK _ ?_
        clear hK K
        refine tri_last_mixed tt_ok mixed_ok [⟨.r, 0, [], []⟩, ⟨.r, 0, [], []⟩, ⟨.n, 0, [], []⟩, ⟨.n, 0, [], []⟩, ⟨.w, 0, [], []⟩] 1 (by kernel_rfl) fun K hK => ?_
        simp only [wantedV, opV, St.eval, St.put, cellsV, oneV, Value.oneCell', if_true, if_false, List.length_cons, List.length_nil, List.nil_append, List.cons_append, List.append_nil, List.set_cons_zero, List.set_cons_succ, List.getD_cons_zero, List.getD_cons_succ, tSize, List.map_nil, List.map_cons, loadV, pickCells, List.drop_zero, List.take_succ_cons, List.take_zero, List.getElem?_cons_zero, List.getElem?_cons_succ, List.head?_cons, Nat.zero_add, Nat.add_zero, Nat.reduceAdd, Nat.le_refl, Bool.false_eq_true, V.cells, calleeOf, storeV, ne_eq, gnCmp, tt3, tt25, runM, List.drop_zero, stepM, valD, val1, wOut, isHole, maskB, List.replicate, Nat.reduceAdd]
        refine ⟨_, _, by simp only [purL, pur1, purCells, purCell, nilS], .inl (hts), ?_⟩
        try simp only [St.put, if_true, List.length_cons, List.length_nil, List.set_cons_zero, List.set_cons_succ, List.getD_cons_zero, List.getD_cons_succ, List.getElem?_cons_zero, List.getElem?_cons_succ, Nat.zero_add, Nat.le_refl, true_and, ev_add, spliceL]
        refine hK _ ?_
        clear hK K
        rw [← hfo]
        refine tri_last_region tt_ok fun K hK => ?_
        simp only [runOps, stepOp, wantedV, opV, St.eval, St.put, absV, List.set_cons_zero, List.set_cons_succ, List.getD_cons_zero, List.getD_cons_succ, ev_add, nilLen, gnCmp]
        refine hK _ ?_
        clear hK K
        have hw2 := i64_succ i (by omega)
        rw [hw2]
        exact ⟨ps.length - (i + 1), by omega, 4, [false, false, false, true, false, false, false, false, false, false, false, false, false, true, true, true], by omega, by simp only [maskFr, if_true, if_false, Bool.false_eq_true, List.all_cons, List.all_nil, belowV, Nat.reduceLT, decide_true, Bool.and_self], by have h4 : belowB 4 LB = true := hLB; simp only [List.take_succ_cons, List.take_zero, List.all_cons, List.all_nil, h4]; rfl, i + 1, rfl, hlt, rfl⟩
      · have hd := ge_dec hlt
        refine tri_seq_region tt_ok fun K hK => ?_
        simp only [hd, runOps, stepOp, wantedV, opV, St.eval, St.put, List.set_cons_zero, List.set_cons_succ, List.getD_cons_zero, List.getD_cons_succ, ev_lss, nilLen, gnCmp]
        refine hK _ ?_
        clear hK K
        refine tri_seq (tri_cond rfl (tri_exit ?_))
        have hie : i = ps.length := by omega
        subst hie
        rw [List.take_length]
        exact ⟨rfl, rfl, rfl⟩
  · rw [stepJ_pure, show (0 : Int) = ((0 : Nat) : Int) from rfl, nodeW_fold _ _ (by rw [Ex.size_nodes _ e (Nat.le_refl _)]; omega), Ex.size_nodes _ e (Nat.le_refl _), Nat.zero_add]
    show Tri _ _ _ _ _ _
    refine tri_seq_region tt_ok fun K hK => ?_
    simp only [runOps, stepOp, wantedV, opV, St.eval, St.put, if_true, if_false, List.length_cons, List.length_nil, List.nil_append, List.cons_append, List.set_cons_zero, List.set_cons_succ, List.getD_cons_zero, List.getD_cons_succ, loadV, pickCells, List.drop_zero, List.take_succ_cons, List.take_zero, List.getElem?_cons_zero, List.getElem?_cons_succ, List.head?_cons, Nat.zero_add, Nat.le_refl, Bool.false_eq_true, tt3]
    refine hK _ ?_
    clear hK K
    exact tri_ret ⟨.inl rfl, rfl⟩
end Go.Proofs.YtpjdfcigadnhcaaGreatDoor
end

section
namespace Go.Proofs.YtpjdfcigadnhcaaGreatDoor
open Go.Eng
variable [Glob]
theorem esize_ok : ∀ (N : Nat) (e : Ex), e.bulk ≤ N → N ≤ 1048576 → FnOk Tryz.prog 12 [encEx e] (num e.size) := by
  intro N
  induction N with
  | zero => intro t h; have := t.bulk_pos; omega
  | succ N ih =>
    intro e hN hb
    have hol := e.own_le
    have hol2 := e.own_len
    have hsz := e.size_eq
    have hsb := Ex.size_le_bulk _ e (Nat.le_refl _)
    have hop := own_ok e (by omega)
    have hnl := length_le_sum Ty.size Ty.size_pos e.own
    have hkl := e.kids_length
    refine fn_ok tt_ok (fn := Tryz.f12) Tryz.func12 rfl Tryz.call12 ?_
    simp only [startSt, Tryz.ntmps12, List.length_cons, List.length_nil, Nat.reduceAdd, Nat.reduceSub, List.replicate_succ, List.replicate_zero, List.cons_append, List.nil_append]
    rw [encEx_eq] at hop ⊢
    simp only [exCells] at hop ⊢
    refine tri_seq_region tt_ok fun K hK => ?_
    simp only [runOps, stepOp, wantedV, opV, St.eval, St.put, absV, cellsV, oneV, List.all_cons, List.all_nil, Bool.and_self, Value.oneCell', if_true, if_false, setMem, List.length_nil, Nat.lt_irrefl, List.nil_append, List.set_cons_zero, List.set_cons_succ, List.getD_cons_zero]
    refine hK _ ?_
    clear hK K
    refine tri_seq_region tt_ok fun K hK => ?_
    simp only [runOps, stepOp, wantedV, opV, St.eval, St.put, absV, List.set_cons_zero, List.set_cons_succ]
    refine hK _ ?_
    clear hK K
    refine tri_seq_region tt_ok fun K hK => ?_
    simp only [runOps, stepOp, wantedV, opV, St.eval, St.put, if_true, List.length_cons, List.length_nil, List.nil_append, List.append_nil, List.set_cons_zero, List.set_cons_succ, List.getD_cons_zero, List.getD_cons_succ, List.map_nil, List.map_cons, loadV, pickCells, List.drop_zero, List.take_succ_cons, List.take_zero, List.getElem?_cons_zero, List.head?_cons, Nat.zero_add, Nat.reduceAdd, Nat.le_refl, calleeOf, tt29]
    refine .inl ⟨_, _, by simp only [purL, pur1, purCells, purCell, nilS], hop, ?_⟩
    try simp only [St.put, List.append_nil, List.set_cons_zero, List.set_cons_succ, List.getD_cons_zero, List.getD_cons_succ, memAfter_nil, List.flatMap_cons, List.flatMap_nil, ref1, refCell]
    refine hK _ ?_
    clear hK K
    refine tri_seq ?_
    refine tri_seq_region tt_ok fun K hK => ?_
    simp only [runOps, stepOp, wantedV, opV, St.eval, St.put, absV, List.set_cons_zero, List.set_cons_succ]
    refine hK _ ?_
    clear hK K
    obtain ⟨ps, hps⟩ : ∃ ps, ps = e.own := ⟨_, rfl⟩
    rw [← hps] at hol hnl hsz ⊢
    refine tri_block (tri_loop_inv (fun N st => ∃ (i : Nat), N = ps.length - i ∧ i ≤ ps.length ∧
      st = { fr := [.undef, .ptr 0 0, .undef, num ((1 + sumBy Ty.size (ps.take i) : Nat)), .slice (encTys ps), num i] ++ List.replicate 32 .undef, mem := [.box (exCells e)] }) ps.length ?_ ?_)
    · exact ⟨1, [false, true, false, true, true, true], by omega, by simp only [maskFr, if_true, if_false, Bool.false_eq_true, List.all_cons, List.all_nil, belowV, Nat.reduceLT, decide_true, Bool.and_self], rfl, 0, by omega, by omega, rfl⟩
    · rintro N' st ⟨i, rfl, hi, rfl⟩
      simp only [List.replicate_succ, List.replicate_zero, List.cons_append, List.nil_append]
      refine tri_seq ?_
      by_cases hlt : i < ps.length
      · have hd := lt_dec hlt
        refine tri_seq_region tt_ok fun K hK => ?_
        simp only [length_encTys, hd, runOps, stepOp, wantedV, opV, St.eval, St.put, List.set_cons_zero, List.set_cons_succ, List.getD_cons_zero, List.getD_cons_succ, tElem, List.map_nil, List.map_cons, List.getElem?_cons_zero, lenV, ev_lss, List.getElem?_toArray, nilLen, ev_len1, gnCmp, tt22]
        refine hK _ ?_
        clear hK K
        refine tri_cond rfl (tri_skip ?_)
        refine tri_seq (tri_block ?_)
        obtain ⟨u, hu⟩ : ∃ u, ps[i]? = some u := ⟨_, List.getElem?_eq_getElem hlt⟩
        have hus := sumBy_mem Ty.size hu
        have hts := sumBy_take_succ Ty.size hu
        have htl := sumBy_take_le Ty.size ps (i + 1)
        have hrec := tsize_ok u.size u (Nat.le_refl _) (by omega)
        rw [encTy_eq] at hrec
        simp only [tyCells] at hrec
        refine tri_last_region tt_ok fun K hK => ?_
        simp only [get_encTys, hu, encTy_eq, tyCells, runOps, stepOp, wantedV, opV, St.eval, St.put, if_true, List.length_cons, List.length_nil, List.nil_append, List.append_nil, List.set_cons_zero, List.set_cons_succ, List.getD_cons_zero, List.getD_cons_succ, tElem, tSize, List.map_nil, List.map_cons, loadV, pickCells, List.take_succ_cons, List.take_zero, List.head?_cons, Nat.zero_add, Nat.reduceAdd, Nat.le_refl, Int.natCast_nonneg, indexV, indexAt, Int.toNat_natCast, V.cells, calleeOf, Option.map_some, nilLen, gnCmp, tt22, tt25]
        refine .inl ⟨_, _, by simp only [purL, pur1, purCells, purCell, nilS], hrec, ?_⟩
        try simp only [St.put, List.append_nil, List.set_cons_zero, List.set_cons_succ, List.getD_cons_zero, List.getD_cons_succ, ev_add, memAfter_nil, List.flatMap_cons, List.flatMap_nil, ref1, refCell]
        refine hK _ ?_
        clear hK K
        have hw : IntKind.i64.wrap (((1 + sumBy Ty.size (ps.take i) : Nat) : Int) + (u.size : Int)) = ((1 + sumBy Ty.size (ps.take (i + 1)) : Nat) : Int) := by rw [i64_add _ _ (by omega)]; congr 1; omega
        rw [hw]
        refine tri_last_region tt_ok fun K hK => ?_
        simp only [runOps, stepOp, wantedV, opV, St.eval, St.put, absV, List.set_cons_zero, List.set_cons_succ, List.getD_cons_zero, List.getD_cons_succ, ev_add, nilLen, gnCmp]
        refine hK _ ?_
        clear hK K
        have hw2 := i64_succ i (by omega)
        rw [hw2]
        exact ⟨ps.length - (i + 1), by omega, 1, [false, true, false, true, true, true], by omega, by simp only [maskFr, if_true, if_false, Bool.false_eq_true, List.all_cons, List.all_nil, belowV, Nat.reduceLT, decide_true, Bool.and_self], rfl, i + 1, rfl, hlt, by simp [maskFr]⟩
      · have hd := ge_dec hlt
        refine tri_seq_region tt_ok fun K hK => ?_
        simp only [length_encTys, hd, runOps, stepOp, wantedV, opV, St.eval, St.put, List.set_cons_zero, List.set_cons_succ, List.getD_cons_zero, List.getD_cons_succ, tElem, List.map_nil, List.map_cons, List.getElem?_cons_zero, lenV, ev_lss, List.getElem?_toArray, nilLen, ev_len1, gnCmp, tt22]
        refine hK _ ?_
        clear hK K
        refine tri_cond rfl (tri_exit ?_)
        have hie : i = ps.length := by omega
        subst hie
        rw [List.take_length]
        show Tri _ _ _ _ _ _
        refine tri_seq ?_
        refine tri_seq_region tt_ok fun K hK => ?_
        simp only [runOps, stepOp, wantedV, opV, St.eval, St.put, absV, List.set_cons_zero, List.set_cons_succ]
        refine hK _ ?_
        clear hK K
        obtain ⟨ks, hks⟩ : ∃ ks, ks = e.kids := ⟨_, rfl⟩
        obtain ⟨S, hS⟩ : ∃ S, S = 1 + sumBy Ty.size ps := ⟨_, rfl⟩
        rw [← hS]
        rw [← hks] at hol hsz hkl
        refine tri_block (tri_loop_inv (fun N st => ∃ (i : Nat), N = ks.length - i ∧ i ≤ ks.length ∧
          st = { fr := [.undef, .ptr 0 0, .undef, num ((S + sumBy Ex.size (ks.take i) : Nat)), .undef, .undef, num i] ++ List.replicate 31 .undef, mem := [.box (exCells e)] }) ks.length ?_ ?_)
        · exact ⟨1, [false, true, false, true, false, false, true], by omega, by simp only [maskFr, if_true, if_false, Bool.false_eq_true, List.all_cons, List.all_nil, belowV, Nat.reduceLT, decide_true, Bool.and_self], rfl, 0, by omega, by omega, rfl⟩
        · rintro N' st ⟨i, rfl, hi, rfl⟩
          simp only [List.replicate_succ, List.replicate_zero, List.cons_append, List.nil_append, exCells, ← hks]
          refine tri_seq ?_
          by_cases hlt : i < ks.length
          · have hd := lt_dec hlt
            refine tri_seq_region tt_ok fun K hK => ?_
            simp only [length_encExs, hd, runOps, stepOp, wantedV, opV, St.eval, St.put, if_true, if_false, List.length_cons, List.length_nil, List.set_cons_zero, List.set_cons_succ, List.getD_cons_zero, List.getD_cons_succ, tElem, List.map_nil, List.map_cons, fieldV, tOff, fieldAt, loadV, pickCells, List.drop_zero, List.drop_succ_cons, List.take_succ_cons, List.take_zero, List.getElem?_cons_zero, List.getElem?_cons_succ, List.head?_cons, Nat.zero_add, Nat.le_refl, Bool.false_eq_true, lenV, ev_lss, List.getElem?_toArray, nilLen, ev_len1, gnCmp, tt27, tt29]
            refine hK _ ?_
            clear hK K
            refine tri_cond rfl (tri_skip ?_)
            refine tri_seq (tri_block ?_)
            obtain ⟨u, hu⟩ : ∃ u, ks[i]? = some u := ⟨_, List.getElem?_eq_getElem hlt⟩
            have hus := sumBy_mem Ex.bulk hu
            have hts := sumBy_take_succ Ex.size hu
            have htl := sumBy_take_le Ex.size ks (i + 1)
            have hrec := ih u (by omega) (by omega)
            rw [encEx_eq] at hrec
            simp only [exCells] at hrec
            refine tri_last_region tt_ok fun K hK => ?_
            simp only [get_encExs, hu, encEx_eq, exCells, runOps, stepOp, wantedV, opV, St.eval, St.put, if_true, if_false, List.length_cons, List.length_nil, List.nil_append, List.append_nil, List.set_cons_zero, List.set_cons_succ, List.getD_cons_zero, List.getD_cons_succ, tElem, tSize, List.map_nil, List.map_cons, fieldV, tOff, fieldAt, loadV, pickCells, List.drop_zero, List.drop_succ_cons, List.take_succ_cons, List.take_zero, List.getElem?_cons_zero, List.getElem?_cons_succ, List.head?_cons, Nat.zero_add, Nat.reduceAdd, Nat.le_refl, Bool.false_eq_true, Int.natCast_nonneg, indexV, indexAt, Int.toNat_natCast, V.cells, calleeOf, Option.map_some, nilLen, gnCmp, tt27, tt29]
            refine .inl ⟨_, _, by simp only [purL, pur1, purCells, purCell, nilS], hrec, ?_⟩
            try simp only [St.put, List.append_nil, List.set_cons_zero, List.set_cons_succ, List.getD_cons_zero, List.getD_cons_succ, ev_add, memAfter_nil, List.flatMap_cons, List.flatMap_nil, ref1, refCell]
            refine hK _ ?_
            clear hK K
            have hw : IntKind.i64.wrap (((S + sumBy Ex.size (ks.take i) : Nat) : Int) + (u.size : Int)) = ((S + sumBy Ex.size (ks.take (i + 1)) : Nat) : Int) := by rw [i64_add _ _ (by omega)]; congr 1; omega
            rw [hw]
            refine tri_last_region tt_ok fun K hK => ?_
            simp only [runOps, stepOp, wantedV, opV, St.eval, St.put, absV, List.set_cons_zero, List.set_cons_succ, List.getD_cons_zero, List.getD_cons_succ, ev_add, nilLen, gnCmp]
            refine hK _ ?_
            clear hK K
            have hw2 := i64_succ i (by omega)
            rw [hw2]
            exact ⟨ks.length - (i + 1), by omega, 1, [false, true, false, true, false, false, true], by omega, by simp only [maskFr, if_true, if_false, Bool.false_eq_true, List.all_cons, List.all_nil, belowV, Nat.reduceLT, decide_true, Bool.and_self], rfl, i + 1, rfl, hlt, by simp [maskFr]⟩
          · have hd := ge_dec hlt
            refine tri_seq_region tt_ok fun K hK => ?_
            simp only [length_encExs, hd, runOps, stepOp, wantedV, opV, St.eval, St.put, if_true, if_false, List.length_cons, List.length_nil, List.set_cons_zero, List.set_cons_succ, List.getD_cons_zero, List.getD_cons_succ, tElem, List.map_nil, List.map_cons, fieldV, tOff, fieldAt, loadV, pickCells, List.drop_zero, List.drop_succ_cons, List.take_succ_cons, List.take_zero, List.getElem?_cons_zero, List.getElem?_cons_succ, List.head?_cons, Nat.zero_add, Nat.le_refl, Bool.false_eq_true, lenV, ev_lss, List.getElem?_toArray, nilLen, ev_len1, gnCmp, tt27, tt29]
            refine hK _ ?_
            clear hK K
            refine tri_cond rfl (tri_exit ?_)
            have hie : i = ks.length := by omega
            subst hie
            rw [List.take_length]
            show Tri _ _ _ _ _ _
            refine tri_seq_region tt_ok fun K hK => ?_
            simp only [runOps, stepOp, wantedV, opV, St.eval, St.put, List.set_cons_zero, List.set_cons_succ, List.getD_cons_zero, List.getD_cons_succ]
            refine hK _ ?_
            clear hK K
            refine tri_ret ⟨.inl rfl, ?_⟩
            have hfin : S + sumBy Ex.size ks = e.size := by omega
            rw [hfin]
            simp [retV, resL, resV, Tryz.f12, pur, pur1, purCell, nilS]
end Go.Proofs.YtpjdfcigadnhcaaGreatDoor
end

section
namespace Go.Proofs.YtpjdfcigadnhcaaGreatDoor
open Go.Eng
variable [Glob]
/-- Equality as a truth value. -/
noncomputable def eqb {α : Type} (a b : α) : Bool := @decide (a = b) (Classical.propDecidable _)
theorem eqb_true {α : Type} {a b : α} (h : a = b) : eqb a b = true := by unfold eqb; exact @decide_eq_true _ (Classical.propDecidable _) h
theorem eqb_false {α : Type} {a b : α} (h : ¬ a = b) : eqb a b = false := by unfold eqb; exact @decide_eq_false _ (Classical.propDecidable _) h
theorem eqb_iff {α : Type} {a b : α} : eqb a b = true ↔ a = b := by
  refine ⟨fun h => Classical.byContradiction fun hn => ?_, eqb_true⟩
  rw [eqb_false hn] at h; cases h
theorem bytes_eq (a b : ByteArray) : (a.toList == b.toList) = eqb a b := by
  have inj : a.toList = b.toList → a = b := fun h => by
    rw [ByteArray.toList_eq, ByteArray.toList_eq] at h
    exact ByteArray.ext (Array.toList_inj.1 h)
  by_cases h : a = b
  · rw [eqb_true h, h]; simp
  · rw [eqb_false h]; simpa using fun e => h (inj e)

theorem equalTys_ok (g : FuncId) (ts us : List Ty) (hl : ts.length ≤ 1048576) (hg : ∀ (i : Nat) (t u : Ty), ts[i]? = some t → us[i]? = some u → FnOk Tryz.prog g [encTy t, encTy u] (bl (eqb t u))) :
    FnOk Tryz.prog 63 [.slice (encTys ts), .slice (encTys us), .sc (.func (.func g) #[] #[])] (bl (eqb ts us)) := by
  refine fn_ok tt_ok (fn := Tryz.f63) Tryz.func63 rfl Tryz.call63 ?_
  simp only [startSt, Tryz.ntmps63, List.length_cons, List.length_nil, Nat.reduceAdd, Nat.reduceSub, List.replicate_succ, List.replicate_zero, List.cons_append, List.nil_append]
  refine tri_seq_region tt_ok fun K hK => ?_
  simp only [runOps, stepOp, wantedV, opV, St.eval, St.put, absV, List.set_cons_zero, List.set_cons_succ]
  refine hK _ ?_
  clear hK K
  refine tri_seq ?_
  by_cases hlen : ts.length = us.length
  · have hd : (!decide ((ts.length : Int) = (us.length : Int))) = false := by simp [hlen]
    refine tri_seq_region tt_ok fun K hK => ?_
    simp only [length_encTys, hd, runOps, stepOp, wantedV, opV, St.eval, St.put, List.set_cons_zero, List.set_cons_succ, List.getD_cons_zero, List.getD_cons_succ, tElem, List.map_nil, List.map_cons, List.getElem?_cons_zero, lenV, ev_neq, List.getElem?_toArray, nilLen, ev_len1, gnCmp, tt22]
    refine hK _ ?_
    clear hK K
    refine tri_cond rfl (tri_skip ?_)
    show Tri _ _ _ _ _ _
    refine tri_seq ?_
    refine tri_seq_region tt_ok fun K hK => ?_
    simp only [length_encTys, runOps, stepOp, wantedV, opV, St.eval, St.put, absV, List.set_cons_zero, List.set_cons_succ, List.getD_cons_zero, List.getD_cons_succ, tElem, List.map_nil, List.map_cons, List.getElem?_cons_zero, lenV, List.getElem?_toArray, ev_len1, tt22]
    refine hK _ ?_
    clear hK K
    refine tri_block (tri_loop_inv (fun N st => ∃ (i : Nat), N = ts.length - i ∧ i ≤ ts.length ∧ ts.take i = us.take i ∧
      st = { fr := [.undef, .slice (encTys us), .sc (.func (.func g) #[] #[]), .undef, .undef, .undef, .undef, .undef, .undef, .undef, .undef, .undef, .undef, .undef, .undef, .slice (encTys ts), num ts.length, num i] ++ List.replicate 14 .undef, mem := [] }) ts.length ?_ ?_)
    · exact ⟨0, [false, true, true, false, false, false, false, false, false, false, false, false, false, false, false, true, true, true], by omega, by simp only [maskFr, if_true, if_false, Bool.false_eq_true, List.all_cons, List.all_nil, belowV, Bool.and_self], rfl, 0, by omega, by omega, by simp, rfl⟩
    · rintro N' st ⟨i, rfl, hi, htk, rfl⟩
      simp only [List.replicate_succ, List.replicate_zero, List.cons_append, List.nil_append]
      by_cases hlt : i < ts.length
      · have hd := lt_dec hlt
        refine tri_seq_region tt_ok fun K hK => ?_
        simp only [hd, runOps, stepOp, wantedV, opV, St.eval, St.put, List.set_cons_zero, List.set_cons_succ, List.getD_cons_zero, List.getD_cons_succ, ev_lss, nilLen, gnCmp]
        refine hK _ ?_
        clear hK K
        refine tri_seq (tri_cond rfl (tri_skip ?_))
        refine tri_seq (tri_block ?_)
        obtain ⟨t, ht⟩ : ∃ t, ts[i]? = some t := ⟨_, List.getElem?_eq_getElem hlt⟩
        obtain ⟨u, hu⟩ : ∃ u, us[i]? = some u := ⟨_, List.getElem?_eq_getElem (by omega)⟩
        have hgi := hg i t u ht hu
        rw [encTy_eq, encTy_eq] at hgi
        simp only [tyCells] at hgi
        refine tri_seq_region tt_ok fun K hK => ?_
        simp only [get_encTys, ht, encTy_eq, tyCells, runOps, stepOp, wantedV, opV, St.eval, St.put, cellsV, oneV, List.all_cons, List.all_nil, Bool.and_self, Value.oneCell', if_true, if_false, setMem, List.length_cons, List.length_nil, Nat.lt_irrefl, List.nil_append, List.set_cons_zero, List.set_cons_succ, List.getD_cons_zero, List.getD_cons_succ, tElem, tSize, List.map_nil, List.map_cons, loadV, pickCells, List.take_succ_cons, List.take_zero, List.getElem?_cons_zero, List.head?_cons, Nat.zero_add, Nat.reduceAdd, Nat.le_refl, Int.natCast_nonneg, indexV, indexAt, Int.toNat_natCast, V.cells, Option.map_some, storeV, spliceL, tt22, tt25]
        refine hK _ ?_
        clear hK K
        refine tri_seq_region tt_ok fun K hK => ?_
        simp only [get_encTys, hu, encTy_eq, tyCells, runOps, stepOp, wantedV, opV, St.eval, St.put, cellsV, oneV, List.all_cons, List.all_nil, Bool.and_self, Value.oneCell', if_true, if_false, setMem, List.length_cons, List.length_nil, Nat.lt_irrefl, List.nil_append, List.cons_append, List.set_cons_zero, List.set_cons_succ, List.getD_cons_zero, List.getD_cons_succ, tElem, tSize, List.map_nil, List.map_cons, loadV, pickCells, List.take_succ_cons, List.take_zero, List.getElem?_cons_zero, List.getElem?_cons_succ, List.head?_cons, Nat.zero_add, Nat.reduceAdd, Nat.le_refl, Int.natCast_nonneg, indexV, indexAt, Int.toNat_natCast, V.cells, Option.map_some, storeV, spliceL, tt22, tt25]
        refine hK _ ?_
        clear hK K
        refine tri_seq_region tt_ok fun K hK => ?_
        simp only [runOps, stepOp, wantedV, opV, St.eval, St.put, if_true, List.length_cons, List.length_nil, List.nil_append, List.append_nil, List.set_cons_zero, List.set_cons_succ, List.getD_cons_zero, List.getD_cons_succ, List.map_nil, List.map_cons, loadV, pickCells, List.drop_zero, List.take_succ_cons, List.take_zero, List.getElem?_cons_zero, List.getElem?_cons_succ, List.head?_cons, Nat.zero_add, Nat.reduceAdd, Nat.le_refl, calleeOf, tt25]
        refine .inl ⟨_, _, by simp only [purL, pur1, purCells, purCell, nilS], hgi, ?_⟩
        try simp only [St.put, List.append_nil, List.set_cons_zero, List.set_cons_succ, List.getD_cons_zero, List.getD_cons_succ, ev_not, memAfter_nil, List.flatMap_cons, List.flatMap_nil, ref1, refCell]
        refine hK _ ?_
        clear hK K
        have htk1 : ∀ h : t = u, ts.take (i + 1) = us.take (i + 1) := fun h => by rw [List.take_add_one, List.take_add_one, htk, ht, hu, h]
        by_cases htu : t = u
        · rw [eqb_true htu]
          refine tri_cond rfl (tri_skip ?_)
          show Tri _ _ _ _ _ _
          refine tri_last_region tt_ok fun K hK => ?_
          simp only [runOps, stepOp, wantedV, opV, St.eval, St.put, absV, List.set_cons_zero, List.set_cons_succ, List.getD_cons_zero, List.getD_cons_succ, ev_add, Bool.not_true, nilLen, gnCmp]
          refine hK _ ?_
          clear hK K
          have hw2 := i64_succ i (by omega)
          rw [hw2]
          exact ⟨ts.length - (i + 1), by omega, 0, [false, true, true, false, false, false, false, false, false, false, false, false, false, false, false, true, true, true], by omega, by simp only [maskFr, if_true, if_false, Bool.false_eq_true, List.all_cons, List.all_nil, belowV, Bool.and_self], rfl, i + 1, rfl, hlt, htk1 htu, rfl⟩
        · rw [eqb_false htu]
          refine tri_cond rfl ?_
          refine tri_seq_region tt_ok fun K hK => ?_
          simp only [runOps, stepOp, wantedV, opV, St.eval, St.put, absV, List.set_cons_zero, List.set_cons_succ, Bool.not_false]
          refine hK _ ?_
          clear hK K
          refine tri_ret ⟨.inl rfl, ?_⟩
          rw [eqb_false (fun e => htu (by rw [e, hu] at ht; exact (Option.some.inj ht).symm))]
          rfl
      · have hd := ge_dec hlt
        refine tri_seq_region tt_ok fun K hK => ?_
        simp only [hd, runOps, stepOp, wantedV, opV, St.eval, St.put, List.set_cons_zero, List.set_cons_succ, List.getD_cons_zero, List.getD_cons_succ, ev_lss, nilLen, gnCmp]
        refine hK _ ?_
        clear hK K
        refine tri_seq (tri_cond rfl (tri_exit ?_))
        have hie : i = ts.length := by omega
        show Tri _ _ _ _ _ _
        refine tri_seq_region tt_ok fun K hK => ?_
        simp only [runOps, stepOp, wantedV, opV, St.eval, St.put, absV, List.set_cons_zero, List.set_cons_succ]
        refine hK _ ?_
        clear hK K
        refine tri_ret ⟨.inl rfl, ?_⟩
        rw [hie, List.take_length, hlen, List.take_length] at htk
        rw [eqb_true htk]
        rfl
  · have hd : (!decide ((ts.length : Int) = (us.length : Int))) = true := by simpa using fun e => hlen (by omega)
    refine tri_seq_region tt_ok fun K hK => ?_
    simp only [length_encTys, hd, runOps, stepOp, wantedV, opV, St.eval, St.put, List.set_cons_zero, List.set_cons_succ, List.getD_cons_zero, List.getD_cons_succ, tElem, List.map_nil, List.map_cons, List.getElem?_cons_zero, lenV, ev_neq, List.getElem?_toArray, nilLen, ev_len1, gnCmp, tt22]
    refine hK _ ?_
    clear hK K
    refine tri_cond rfl ?_
    refine tri_seq_region tt_ok fun K hK => ?_
    simp only [runOps, stepOp, wantedV, opV, St.eval, St.put, absV, List.set_cons_zero, List.set_cons_succ]
    refine hK _ ?_
    clear hK K
    refine tri_ret ⟨.inl rfl, ?_⟩
    rw [eqb_false (fun e => hlen (by rw [e]))]
    rfl

theorem equalFds_ok (g : FuncId) (ts us : List Fd) (hl : ts.length ≤ 1048576) (hg : ∀ (i : Nat) (t u : Fd), ts[i]? = some t → us[i]? = some u → FnOk Tryz.prog g [encFd t, encFd u] (bl (eqb t u))) :
    FnOk Tryz.prog 64 [.slice (encFds ts), .slice (encFds us), .sc (.func (.func g) #[] #[])] (bl (eqb ts us)) := by
  refine fn_ok tt_ok (fn := Tryz.f64) Tryz.func64 rfl Tryz.call64 ?_
  simp only [startSt, Tryz.ntmps64, List.length_cons, List.length_nil, Nat.reduceAdd, Nat.reduceSub, List.replicate_succ, List.replicate_zero, List.cons_append, List.nil_append]
  refine tri_seq_region tt_ok fun K hK => ?_
  simp only [runOps, stepOp, wantedV, opV, St.eval, St.put, absV, List.set_cons_zero, List.set_cons_succ]
  refine hK _ ?_
  clear hK K
  refine tri_seq ?_
  by_cases hlen : ts.length = us.length
  · have hd : (!decide ((ts.length : Int) = (us.length : Int))) = false := by simp [hlen]
    refine tri_seq_region tt_ok fun K hK => ?_
    simp only [length_encFds, hd, runOps, stepOp, wantedV, opV, St.eval, St.put, List.set_cons_zero, List.set_cons_succ, List.getD_cons_zero, List.getD_cons_succ, tElem, List.map_nil, List.map_cons, List.getElem?_cons_zero, lenV, ev_neq, List.getElem?_toArray, nilLen, ev_len1, gnCmp, tt23]
    refine hK _ ?_
    clear hK K
    refine tri_cond rfl (tri_skip ?_)
    show Tri _ _ _ _ _ _
    refine tri_seq ?_
    refine tri_seq_region tt_ok fun K hK => ?_
    simp only [length_encFds, runOps, stepOp, wantedV, opV, St.eval, St.put, absV, List.set_cons_zero, List.set_cons_succ, List.getD_cons_zero, List.getD_cons_succ, tElem, List.map_nil, List.map_cons, List.getElem?_cons_zero, lenV, List.getElem?_toArray, ev_len1, tt23]
    refine hK _ ?_
    clear hK K
    refine tri_block (tri_loop_inv (fun N st => ∃ (i : Nat), N = ts.length - i ∧ i ≤ ts.length ∧ ts.take i = us.take i ∧
      st = { fr := [.undef, .slice (encFds us), .sc (.func (.func g) #[] #[]), .undef, .undef, .undef, .undef, .undef, .undef, .undef, .undef, .undef, .undef, .undef, .undef, .slice (encFds ts), num ts.length, num i] ++ List.replicate 14 .undef, mem := [] }) ts.length ?_ ?_)
    · exact ⟨0, [false, true, true, false, false, false, false, false, false, false, false, false, false, false, false, true, true, true], by omega, by simp only [maskFr, if_true, if_false, Bool.false_eq_true, List.all_cons, List.all_nil, belowV, Bool.and_self], rfl, 0, by omega, by omega, by simp, rfl⟩
    · rintro N' st ⟨i, rfl, hi, htk, rfl⟩
      simp only [List.replicate_succ, List.replicate_zero, List.cons_append, List.nil_append]
      by_cases hlt : i < ts.length
      · have hd := lt_dec hlt
        refine tri_seq_region tt_ok fun K hK => ?_
        simp only [hd, runOps, stepOp, wantedV, opV, St.eval, St.put, List.set_cons_zero, List.set_cons_succ, List.getD_cons_zero, List.getD_cons_succ, ev_lss, nilLen, gnCmp]
        refine hK _ ?_
        clear hK K
        refine tri_seq (tri_cond rfl (tri_skip ?_))
        refine tri_seq (tri_block ?_)
        obtain ⟨t, ht⟩ : ∃ t, ts[i]? = some t := ⟨_, List.getElem?_eq_getElem hlt⟩
        obtain ⟨u, hu⟩ : ∃ u, us[i]? = some u := ⟨_, List.getElem?_eq_getElem (by omega)⟩
        have hgi := hg i t u ht hu
        rw [encFd_eq, encFd_eq] at hgi
        simp only [tyCells, List.cons_append, List.nil_append] at hgi
        refine tri_seq_region tt_ok fun K hK => ?_
        simp only [get_encFds, ht, encFd_eq, tyCells, runOps, stepOp, wantedV, opV, St.eval, St.put, cellsV, oneV, List.all_cons, List.all_nil, Bool.and_self, Value.oneCell', if_true, if_false, setMem, List.length_cons, List.length_nil, Nat.lt_irrefl, List.nil_append, List.cons_append, List.set_cons_zero, List.set_cons_succ, List.getD_cons_zero, List.getD_cons_succ, tElem, tSize, List.map_nil, List.map_cons, loadV, pickCells, List.take_succ_cons, List.take_zero, List.getElem?_cons_zero, List.head?_cons, Nat.zero_add, Nat.reduceAdd, Nat.le_refl, Int.natCast_nonneg, indexV, indexAt, Int.toNat_natCast, V.cells, Option.map_some, storeV, spliceL, tt23, tt86]
        refine hK _ ?_
        clear hK K
        refine tri_seq_region tt_ok fun K hK => ?_
        simp only [get_encFds, hu, encFd_eq, tyCells, runOps, stepOp, wantedV, opV, St.eval, St.put, cellsV, oneV, List.all_cons, List.all_nil, Bool.and_self, Value.oneCell', if_true, if_false, setMem, List.length_cons, List.length_nil, Nat.lt_irrefl, List.nil_append, List.cons_append, List.set_cons_zero, List.set_cons_succ, List.getD_cons_zero, List.getD_cons_succ, tElem, tSize, List.map_nil, List.map_cons, loadV, pickCells, List.take_succ_cons, List.take_zero, List.getElem?_cons_zero, List.getElem?_cons_succ, List.head?_cons, Nat.zero_add, Nat.reduceAdd, Nat.le_refl, Int.natCast_nonneg, indexV, indexAt, Int.toNat_natCast, V.cells, Option.map_some, storeV, spliceL, tt23, tt86]
        refine hK _ ?_
        clear hK K
        refine tri_seq_region tt_ok fun K hK => ?_
        simp only [runOps, stepOp, wantedV, opV, St.eval, St.put, if_true, List.length_cons, List.length_nil, List.nil_append, List.append_nil, List.set_cons_zero, List.set_cons_succ, List.getD_cons_zero, List.getD_cons_succ, List.map_nil, List.map_cons, loadV, pickCells, List.drop_zero, List.take_succ_cons, List.take_zero, List.getElem?_cons_zero, List.getElem?_cons_succ, List.head?_cons, Nat.zero_add, Nat.reduceAdd, Nat.le_refl, calleeOf, tt86]
        refine .inl ⟨_, _, by simp only [purL, pur1, purCells, purCell, nilS], hgi, ?_⟩
        try simp only [St.put, List.append_nil, List.set_cons_zero, List.set_cons_succ, List.getD_cons_zero, List.getD_cons_succ, ev_not, memAfter_nil, List.flatMap_cons, List.flatMap_nil, ref1, refCell]
        refine hK _ ?_
        clear hK K
        have htk1 : ∀ h : t = u, ts.take (i + 1) = us.take (i + 1) := fun h => by rw [List.take_add_one, List.take_add_one, htk, ht, hu, h]
        by_cases htu : t = u
        · rw [eqb_true htu]
          refine tri_cond rfl (tri_skip ?_)
          show Tri _ _ _ _ _ _
          refine tri_last_region tt_ok fun K hK => ?_
          simp only [runOps, stepOp, wantedV, opV, St.eval, St.put, absV, List.set_cons_zero, List.set_cons_succ, List.getD_cons_zero, List.getD_cons_succ, ev_add, Bool.not_true, nilLen, gnCmp]
          refine hK _ ?_
          clear hK K
          have hw2 := i64_succ i (by omega)
          rw [hw2]
          exact ⟨ts.length - (i + 1), by omega, 0, [false, true, true, false, false, false, false, false, false, false, false, false, false, false, false, true, true, true], by omega, by simp only [maskFr, if_true, if_false, Bool.false_eq_true, List.all_cons, List.all_nil, belowV, Bool.and_self], rfl, i + 1, rfl, hlt, htk1 htu, rfl⟩
        · rw [eqb_false htu]
          refine tri_cond rfl ?_
          refine tri_seq_region tt_ok fun K hK => ?_
          simp only [runOps, stepOp, wantedV, opV, St.eval, St.put, absV, List.set_cons_zero, List.set_cons_succ, Bool.not_false]
          refine hK _ ?_
          clear hK K
          refine tri_ret ⟨.inl rfl, ?_⟩
          rw [eqb_false (fun e => htu (by rw [e, hu] at ht; exact (Option.some.inj ht).symm))]
          rfl
      · have hd := ge_dec hlt
        refine tri_seq_region tt_ok fun K hK => ?_
        simp only [hd, runOps, stepOp, wantedV, opV, St.eval, St.put, List.set_cons_zero, List.set_cons_succ, List.getD_cons_zero, List.getD_cons_succ, ev_lss, nilLen, gnCmp]
        refine hK _ ?_
        clear hK K
        refine tri_seq (tri_cond rfl (tri_exit ?_))
        have hie : i = ts.length := by omega
        show Tri _ _ _ _ _ _
        refine tri_seq_region tt_ok fun K hK => ?_
        simp only [runOps, stepOp, wantedV, opV, St.eval, St.put, absV, List.set_cons_zero, List.set_cons_succ]
        refine hK _ ?_
        clear hK K
        refine tri_ret ⟨.inl rfl, ?_⟩
        rw [hie, List.take_length, hlen, List.take_length] at htk
        rw [eqb_true htk]
        rfl
  · have hd : (!decide ((ts.length : Int) = (us.length : Int))) = true := by simpa using fun e => hlen (by omega)
    refine tri_seq_region tt_ok fun K hK => ?_
    simp only [length_encFds, hd, runOps, stepOp, wantedV, opV, St.eval, St.put, List.set_cons_zero, List.set_cons_succ, List.getD_cons_zero, List.getD_cons_succ, tElem, List.map_nil, List.map_cons, List.getElem?_cons_zero, lenV, ev_neq, List.getElem?_toArray, nilLen, ev_len1, gnCmp, tt23]
    refine hK _ ?_
    clear hK K
    refine tri_cond rfl ?_
    refine tri_seq_region tt_ok fun K hK => ?_
    simp only [runOps, stepOp, wantedV, opV, St.eval, St.put, absV, List.set_cons_zero, List.set_cons_succ]
    refine hK _ ?_
    clear hK K
    refine tri_ret ⟨.inl rfl, ?_⟩
    rw [eqb_false (fun e => hlen (by rw [e]))]
    rfl
end Go.Proofs.YtpjdfcigadnhcaaGreatDoor
end

section
namespace Go.Proofs.YtpjdfcigadnhcaaGreatDoor
open Go.Eng
variable [Glob]
theorem dec_eqb (a b : Int) : decide (a = b) = eqb a b := by
  by_cases h : a = b
  · rw [eqb_true h]; simp [h]
  · rw [eqb_false h]; simp [h]
theorem boolEq_eqb (a b : Bool) : (a == b) = eqb a b := by
  by_cases h : a = b
  · rw [eqb_true h]; simp [h]
  · rw [eqb_false h]; simpa using h
theorem Ty.ext_iff (t u : Ty) : t = u ↔ t.kind = u.kind ∧ t.mod = u.mod ∧ t.name = u.name ∧ t.args = u.args ∧ t.flds = u.flds := by
  obtain ⟨k, m, n, ts, fs⟩ := t
  obtain ⟨k', m', n', ts', fs'⟩ := u
  simp [Ty.kind, Ty.mod, Ty.name, Ty.args, Ty.flds]
theorem Fd.ext_iff (t u : Fd) : t = u ↔ t.name = u.name ∧ t.opt = u.opt ∧ t.ty = u.ty := by
  obtain ⟨n, t, o⟩ := t
  obtain ⟨n', t', o'⟩ := u
  simp only [Fd.name, Fd.opt, Fd.ty, Fd.mk.injEq]
  exact ⟨fun h => ⟨h.1, h.2.2, h.2.1⟩, fun h => ⟨h.1, h.2.2, h.2.1⟩⟩

theorem eqFd_ok (t u : Fd) (h : FnOk Tryz.prog 24 [encTy t.ty, encTy u.ty] (bl (eqb t.ty u.ty))) : FnOk Tryz.prog 65 [encFd t, encFd u] (bl (eqb t u)) := by
  refine fn_ok tt_ok (fn := Tryz.f65) Tryz.func65 rfl Tryz.call65 ?_
  simp only [startSt, Tryz.ntmps65, List.length_cons, List.length_nil, Nat.reduceAdd, Nat.reduceSub, List.replicate_succ, List.replicate_zero, List.cons_append, List.nil_append]
  rw [encTy_eq, encTy_eq] at h
  rw [encFd_eq, encFd_eq]
  simp only [tyCells, List.cons_append, List.nil_append] at h ⊢
  have e1 := bytes_eq t.name u.name
  have hT : Tryz.prog.underlying 4 = some .bool := by kernel_rfl
  have e2 := fun x y => ev_beql (P := Tryz.prog) (T := 4) x y hT
  refine tri_seq_region tt_ok fun K hK => ?_
  simp only [runOps, stepOp, wantedV, opV, St.eval, St.put, absV, cellsV, oneV, List.all_cons, List.all_nil, Bool.and_self, Value.oneCell', if_true, if_false, setMem, List.length_cons, List.length_nil, Nat.lt_irrefl, List.nil_append, List.cons_append, List.set_cons_zero, List.set_cons_succ, List.getD_cons_zero, List.getD_cons_succ, Nat.zero_add]
  refine hK _ ?_
  clear hK K
  by_cases h1 : t.name = u.name
  · rw [eqb_true h1] at e1
    by_cases h2 : t.opt = u.opt
    · have e3 : (t.opt == u.opt) = true := by simpa using h2
      refine tri_seq_region tt_ok fun K hK => ?_
      simp only [e1, e2, e3, runOps, stepOp, wantedV, opV, St.eval, St.put, absV, if_true, if_false, List.length_cons, List.length_nil, List.nil_append, List.append_nil, List.set_cons_zero, List.set_cons_succ, List.getD_cons_zero, List.getD_cons_succ, List.map_nil, List.map_cons, fieldV, tOff, fieldAt, loadV, pickCells, List.drop_zero, List.drop_succ_cons, List.take_succ_cons, List.take_zero, List.getElem?_cons_zero, List.getElem?_cons_succ, List.head?_cons, Nat.zero_add, Nat.add_zero, Nat.reduceAdd, Nat.reduceLeDiff, Nat.le_refl, Bool.false_eq_true, ev_seql, calleeOf, Option.bind_some, List.getElem?_toArray, beq_self_eq_true, nilLen, gnCmp, tt4, tt9, tt25, tt86]
      refine .inl ⟨_, _, by simp only [purL, pur1, purCells, purCell, nilS], h, ?_⟩
      try simp only [St.put, if_true, List.append_nil, List.set_cons_zero, List.set_cons_succ, List.getD_cons_zero, List.getD_cons_succ, memAfter_nil, List.flatMap_cons, List.flatMap_nil, ref1, refCell]
      refine hK _ ?_
      clear hK K
      refine tri_ret ⟨.inl rfl, ?_⟩
      have hr : eqb t u = eqb t.ty u.ty := by
        by_cases h3 : t.ty = u.ty
        · rw [eqb_true h3, eqb_true ((Fd.ext_iff t u).2 ⟨h1, h2, h3⟩)]
        · rw [eqb_false h3, eqb_false fun e => h3 ((Fd.ext_iff t u).1 e).2.2]
      rw [hr]; rfl
    · have e3 : (t.opt == u.opt) = false := by simpa using h2
      refine tri_seq_region tt_ok fun K hK => ?_
      simp only [e1, e2, e3, runOps, stepOp, wantedV, opV, St.eval, St.put, absV, if_true, if_false, List.length_cons, List.length_nil, List.set_cons_zero, List.set_cons_succ, List.getD_cons_zero, List.getD_cons_succ, fieldV, tOff, fieldAt, loadV, pickCells, List.drop_zero, List.drop_succ_cons, List.take_succ_cons, List.take_zero, List.getElem?_cons_zero, List.getElem?_cons_succ, List.head?_cons, Nat.zero_add, Nat.add_zero, Nat.reduceAdd, Nat.reduceLeDiff, Nat.le_refl, Bool.false_eq_true, ev_seql, Option.bind_some, List.getElem?_toArray, beq_self_eq_true, nilLen, ev_ft, gnCmp, tt4, tt9, tt86]
      refine hK _ ?_
      clear hK K
      refine tri_ret ⟨.inl rfl, ?_⟩
      rw [eqb_false fun e => h2 ((Fd.ext_iff t u).1 e).2.1]; rfl
  · rw [eqb_false h1] at e1
    refine tri_seq_region tt_ok fun K hK => ?_
    simp only [e1, runOps, stepOp, wantedV, opV, St.eval, St.put, absV, if_true, if_false, List.length_cons, List.length_nil, List.set_cons_zero, List.set_cons_succ, List.getD_cons_zero, List.getD_cons_succ, fieldV, tOff, fieldAt, loadV, pickCells, List.drop_zero, List.take_succ_cons, List.take_zero, List.getElem?_cons_zero, List.getElem?_cons_succ, List.head?_cons, Nat.zero_add, Nat.add_zero, Nat.reduceAdd, Nat.reduceLeDiff, Bool.false_eq_true, ev_seql, Option.bind_some, List.getElem?_toArray, nilLen, ev_ft, gnCmp, tt9, tt86]
    refine hK _ ?_
    clear hK K
    refine tri_ret ⟨.inl rfl, ?_⟩
    rw [eqb_false fun e => h1 ((Fd.ext_iff t u).1 e).1]; rfl
theorem Ty.args_size {t a : Ty} {i : Nat} (h : t.args[i]? = some a) : a.size < t.size := by
  have h1 : t.parts[i]? = some a := by
    unfold Ty.parts
    rw [List.getElem?_append_left (List.getElem?_eq_some_iff.1 h).1]; exact h
  have := sumBy_mem Ty.size h1; have := t.size_parts; omega
theorem Ty.flds_size {t : Ty} {f : Fd} {i : Nat} (h : t.flds[i]? = some f) : f.ty.size < t.size := by
  have h1 : t.parts[t.args.length + i]? = some f.ty := by
    unfold Ty.parts
    rw [List.getElem?_append_right (by omega), Nat.add_sub_cancel_left, List.getElem?_map, h]; rfl
  have := sumBy_mem Ty.size h1; have := t.size_parts; omega

theorem seqTy_ok : ∀ (N : Nat) (t u : Ty), t.size ≤ N → N ≤ 1048576 → FnOk Tryz.prog 24 [encTy t, encTy u] (bl (eqb t u)) := by
  intro N
  induction N with
  | zero => intro t u h; have := t.size_pos; omega
  | succ N ih =>
    intro t u hN hb
    have hpl := t.parts_length
    have hA := equalTys_ok 24 t.args u.args (by omega) fun i a b ha _ => ih a b (by have := Ty.args_size ha; omega) (by omega)
    have hF := equalFds_ok 65 t.flds u.flds (by omega) fun i a b ha _ => eqFd_ok a b (ih a.ty b.ty (by have := Ty.flds_size ha; omega) (by omega))
    refine fn_ok tt_ok (fn := Tryz.f24) Tryz.func24 rfl Tryz.call24 ?_
    simp only [startSt, Tryz.ntmps24, List.length_cons, List.length_nil, Nat.reduceAdd, Nat.reduceSub, List.replicate_succ, List.replicate_zero, List.cons_append, List.nil_append]
    rw [encTy_eq, encTy_eq]
    simp only [tyCells]
    have e2 := bytes_eq t.mod u.mod
    have e3 := bytes_eq t.name u.name
    refine tri_seq_region tt_ok fun K hK => ?_
    simp only [runOps, stepOp, wantedV, opV, St.eval, St.put, absV, cellsV, oneV, List.all_cons, List.all_nil, Bool.and_self, Value.oneCell', if_true, if_false, setMem, List.length_cons, List.length_nil, Nat.lt_irrefl, List.nil_append, List.cons_append, List.set_cons_zero, List.set_cons_succ, List.getD_cons_zero, List.getD_cons_succ, Nat.zero_add]
    refine hK _ ?_
    clear hK K
    by_cases h1 : t.kind = u.kind
    · have d1 : decide (t.kind = u.kind) = true := decide_eq_true h1
      by_cases h2 : t.mod = u.mod
      · rw [eqb_true h2] at e2
        by_cases h3 : t.name = u.name
        · rw [eqb_true h3] at e3
          by_cases h4 : t.args = u.args
          · rw [eqb_true h4] at hA
            by_cases h5 : t.flds = u.flds
            · rw [eqb_true h5] at hF
              refine tri_seq_region tt_ok fun K hK => ?_
              simp only [d1, e2, e3, runOps, stepOp, wantedV, opV, St.eval, St.put, absV, if_true, if_false, List.length_cons, List.length_nil, List.nil_append, List.append_nil, List.set_cons_zero, List.set_cons_succ, List.getD_cons_zero, List.getD_cons_succ, List.map_nil, List.map_cons, fieldV, tOff, fieldAt, loadV, pickCells, List.drop_zero, List.drop_succ_cons, List.take_succ_cons, List.take_zero, List.getElem?_cons_zero, List.getElem?_cons_succ, List.head?_cons, Nat.zero_add, Nat.add_zero, Nat.reduceAdd, Nat.reduceLeDiff, Bool.false_eq_true, ev_eql, ev_seql, V.cells, calleeOf, Option.bind_some, List.getElem?_toArray, beq_self_eq_true, nilLen, rowOf, gnCmp, tt3, tt9, tt22, tt23, tt25]
              refine .inl ⟨_, _, by simp only [purL, pur1, purCell, nilS], hA, ?_⟩
              try simp only [St.put, if_true, List.append_nil, List.set_cons_zero, List.set_cons_succ, List.getD_cons_zero, List.getD_cons_succ, List.drop_zero, List.drop_succ_cons, List.getElem?_cons_zero, List.getElem?_cons_succ, List.head?_cons, Nat.zero_add, beq_self_eq_true, memAfter_nil, List.flatMap_cons, List.flatMap_nil, ref1, refCell]
              refine .inl ⟨_, _, by simp only [purL, pur1, purCell, nilS], hF, ?_⟩
              try simp only [St.put, if_true, List.append_nil, List.set_cons_zero, List.set_cons_succ, List.getD_cons_zero, List.getD_cons_succ, memAfter_nil, List.flatMap_cons, List.flatMap_nil, ref1, refCell]
              refine hK _ ?_
              clear hK K
              refine tri_ret ⟨.inl rfl, ?_⟩
              rw [eqb_true ((Ty.ext_iff t u).2 ⟨h1, h2, h3, h4, h5⟩)]; rfl
            · rw [eqb_false h5] at hF
              refine tri_seq_region tt_ok fun K hK => ?_
              simp only [d1, e2, e3, runOps, stepOp, wantedV, opV, St.eval, St.put, absV, if_true, if_false, List.length_cons, List.length_nil, List.nil_append, List.append_nil, List.set_cons_zero, List.set_cons_succ, List.getD_cons_zero, List.getD_cons_succ, List.map_nil, List.map_cons, fieldV, tOff, fieldAt, loadV, pickCells, List.drop_zero, List.drop_succ_cons, List.take_succ_cons, List.take_zero, List.getElem?_cons_zero, List.getElem?_cons_succ, List.head?_cons, Nat.zero_add, Nat.add_zero, Nat.reduceAdd, Nat.reduceLeDiff, Bool.false_eq_true, ev_eql, ev_seql, V.cells, calleeOf, Option.bind_some, List.getElem?_toArray, beq_self_eq_true, nilLen, rowOf, gnCmp, tt3, tt9, tt22, tt23, tt25]
              refine .inl ⟨_, _, by simp only [purL, pur1, purCell, nilS], hA, ?_⟩
              try simp only [St.put, if_true, List.append_nil, List.set_cons_zero, List.set_cons_succ, List.getD_cons_zero, List.getD_cons_succ, List.drop_zero, List.drop_succ_cons, List.getElem?_cons_zero, List.getElem?_cons_succ, List.head?_cons, Nat.zero_add, beq_self_eq_true, memAfter_nil, List.flatMap_cons, List.flatMap_nil, ref1, refCell]
              refine .inl ⟨_, _, by simp only [purL, pur1, purCell, nilS], hF, ?_⟩
              try simp only [St.put, if_true, List.append_nil, List.set_cons_zero, List.set_cons_succ, List.getD_cons_zero, List.getD_cons_succ, memAfter_nil, List.flatMap_cons, List.flatMap_nil, ref1, refCell]
              refine hK _ ?_
              clear hK K
              refine tri_ret ⟨.inl rfl, ?_⟩
              rw [eqb_false fun e => h5 ((Ty.ext_iff t u).1 e).2.2.2.2]; rfl
          · rw [eqb_false h4] at hA
            refine tri_seq_region tt_ok fun K hK => ?_
            simp only [d1, e2, e3, runOps, stepOp, wantedV, opV, St.eval, St.put, absV, if_true, if_false, List.length_cons, List.length_nil, List.nil_append, List.append_nil, List.set_cons_zero, List.set_cons_succ, List.getD_cons_zero, List.getD_cons_succ, List.map_nil, List.map_cons, fieldV, tOff, fieldAt, loadV, pickCells, List.drop_zero, List.drop_succ_cons, List.take_succ_cons, List.take_zero, List.getElem?_cons_zero, List.getElem?_cons_succ, List.head?_cons, Nat.zero_add, Nat.add_zero, Nat.reduceAdd, Nat.reduceLeDiff, Bool.false_eq_true, ev_eql, ev_seql, V.cells, calleeOf, Option.bind_some, List.getElem?_toArray, beq_self_eq_true, nilLen, rowOf, gnCmp, tt3, tt9, tt22, tt23, tt25]
            refine .inl ⟨_, _, by simp only [purL, pur1, purCell, nilS], hA, ?_⟩
            try simp only [St.put, if_true, if_false, List.append_nil, List.set_cons_zero, List.set_cons_succ, List.getD_cons_zero, List.getD_cons_succ, List.getElem?_cons_zero, List.getElem?_cons_succ, Bool.false_eq_true, memAfter_nil, List.flatMap_cons, List.flatMap_nil, ref1, refCell, ev_ft]
            refine hK _ ?_
            clear hK K
            refine tri_ret ⟨.inl rfl, ?_⟩
            rw [eqb_false fun e => h4 ((Ty.ext_iff t u).1 e).2.2.2.1]; rfl
        · rw [eqb_false h3] at e3
          refine tri_seq_region tt_ok fun K hK => ?_
          simp only [d1, e2, e3, runOps, stepOp, wantedV, opV, St.eval, St.put, absV, if_true, if_false, List.length_cons, List.length_nil, List.set_cons_zero, List.set_cons_succ, List.getD_cons_zero, List.getD_cons_succ, fieldV, tOff, fieldAt, loadV, pickCells, List.drop_zero, List.drop_succ_cons, List.take_succ_cons, List.take_zero, List.getElem?_cons_zero, List.getElem?_cons_succ, List.head?_cons, Nat.zero_add, Nat.add_zero, Nat.reduceAdd, Nat.reduceLeDiff, Bool.false_eq_true, ev_eql, ev_seql, Option.bind_some, List.getElem?_toArray, beq_self_eq_true, nilLen, ev_ft, gnCmp, tt3, tt9, tt25]
          refine hK _ ?_
          clear hK K
          refine tri_ret ⟨.inl rfl, ?_⟩
          rw [eqb_false fun e => h3 ((Ty.ext_iff t u).1 e).2.2.1]; rfl
      · rw [eqb_false h2] at e2
        refine tri_seq_region tt_ok fun K hK => ?_
        simp only [d1, e2, runOps, stepOp, wantedV, opV, St.eval, St.put, absV, if_true, if_false, List.length_cons, List.length_nil, List.set_cons_zero, List.set_cons_succ, List.getD_cons_zero, List.getD_cons_succ, fieldV, tOff, fieldAt, loadV, pickCells, List.drop_zero, List.drop_succ_cons, List.take_succ_cons, List.take_zero, List.getElem?_cons_zero, List.getElem?_cons_succ, List.head?_cons, Nat.zero_add, Nat.add_zero, Nat.reduceAdd, Nat.reduceLeDiff, Bool.false_eq_true, ev_eql, ev_seql, Option.bind_some, List.getElem?_toArray, beq_self_eq_true, nilLen, ev_ft, gnCmp, tt3, tt9, tt25]
        refine hK _ ?_
        clear hK K
        refine tri_ret ⟨.inl rfl, ?_⟩
        rw [eqb_false fun e => h2 ((Ty.ext_iff t u).1 e).2.1]; rfl
    · have d1 : decide (t.kind = u.kind) = false := decide_eq_false h1
      refine tri_seq_region tt_ok fun K hK => ?_
      simp only [d1, runOps, stepOp, wantedV, opV, St.eval, St.put, absV, if_true, if_false, List.length_cons, List.length_nil, List.set_cons_zero, List.set_cons_succ, List.getD_cons_zero, List.getD_cons_succ, fieldV, tOff, fieldAt, loadV, pickCells, List.drop_zero, List.take_succ_cons, List.take_zero, List.getElem?_cons_zero, List.getElem?_cons_succ, List.head?_cons, Nat.zero_add, Nat.add_zero, Nat.reduceAdd, Nat.reduceLeDiff, Bool.false_eq_true, ev_eql, Option.bind_some, List.getElem?_toArray, nilLen, ev_ft, gnCmp, tt3, tt25]
      refine hK _ ?_
      clear hK K
      refine tri_ret ⟨.inl rfl, ?_⟩
      rw [eqb_false fun e => h1 ((Ty.ext_iff t u).1 e).1]; rfl
end Go.Proofs.YtpjdfcigadnhcaaGreatDoor
end

section
namespace Go.Proofs.YtpjdfcigadnhcaaGreatDoor
open Go.Eng
variable [Glob]
set_option maxRecDepth 100000
set_option maxHeartbeats 2000000
attribute [local irreducible] runM stepM valD
theorem reqTys_ok (ts us : List Ty) (hl : ts.length ≤ 1048576) (hg : ∀ (i : Nat) (t u : Ty), ts[i]? = some t → us[i]? = some u → FnOk Tryz.prog 27 [encTy t, encTy u] (bl (eqb t u))) :
    FnOk Tryz.prog 68 [.slice (encTys ts), .slice (encTys us)] (bl (eqb ts us)) := by
  refine fn_ok tt_ok (fn := Tryz.f68) Tryz.func68 rfl Tryz.call68 ?_
  simp only [startSt, Tryz.ntmps68, List.length_cons, List.length_nil, Nat.reduceAdd, Nat.reduceSub, List.replicate_succ, List.replicate_zero, List.cons_append, List.nil_append]
  refine tri_seq_region tt_ok fun K hK => ?_
  simp only [runOps, stepOp, wantedV, opV, St.eval, St.put, absV, List.set_cons_zero, List.set_cons_succ]
  refine hK _ ?_
  clear hK K
  refine tri_seq ?_
  by_cases hlen : ts.length = us.length
  · have hd : (!decide ((ts.length : Int) = (us.length : Int))) = false := by simp [hlen]
    refine tri_seq_region tt_ok fun K hK => ?_
    simp only [length_encTys, hd, runOps, stepOp, wantedV, opV, St.eval, St.put, List.set_cons_zero, List.set_cons_succ, List.getD_cons_zero, List.getD_cons_succ, tElem, List.map_nil, List.map_cons, List.getElem?_cons_zero, lenV, ev_neq, List.getElem?_toArray, nilLen, ev_len1, gnCmp, tt22]
    refine hK _ ?_
    clear hK K
    refine tri_cond rfl (tri_skip ?_)
    show Tri _ _ _ _ _ _
    refine tri_seq ?_
    refine tri_seq_region tt_ok fun K hK => ?_
    simp only [runOps, stepOp, wantedV, opV, St.eval, St.put, absV, List.set_cons_zero, List.set_cons_succ]
    refine hK _ ?_
    clear hK K
    refine tri_block (tri_loop_inv (fun N st => ∃ (i : Nat), N = ts.length - i ∧ i ≤ ts.length ∧ ts.take i = us.take i ∧
      st = { fr := [.slice (encTys ts), .slice (encTys us), .undef, .undef, .undef, num i] ++ List.replicate 21 .undef, mem := [] }) ts.length ?_ ?_)
    · exact ⟨0, [true, true, false, false, false, true], by omega, by simp only [maskFr, if_true, if_false, Bool.false_eq_true, List.all_cons, List.all_nil, belowV, Bool.and_self], rfl, 0, by omega, by omega, by simp, rfl⟩
    · rintro N' st ⟨i, rfl, hi, htk, rfl⟩
      simp only [List.replicate_succ, List.replicate_zero, List.cons_append, List.nil_append]
      refine tri_seq ?_
      by_cases hlt : i < ts.length
      · have hd := lt_dec hlt
        refine tri_seq_region tt_ok fun K hK => ?_
        simp only [length_encTys, hd, runOps, stepOp, wantedV, opV, St.eval, St.put, List.set_cons_zero, List.set_cons_succ, List.getD_cons_zero, List.getD_cons_succ, tElem, List.map_nil, List.map_cons, List.getElem?_cons_zero, lenV, ev_lss, List.getElem?_toArray, nilLen, ev_len1, gnCmp, tt22]
        refine hK _ ?_
        clear hK K
        refine tri_cond rfl (tri_skip ?_)
        refine tri_seq (tri_block ?_)
        obtain ⟨t, ht⟩ : ∃ t, ts[i]? = some t := ⟨_, List.getElem?_eq_getElem hlt⟩
        obtain ⟨u, hu⟩ : ∃ u, us[i]? = some u := ⟨_, List.getElem?_eq_getElem (by omega)⟩
        have hgi := hg i t u ht hu
        rw [encTy_eq, encTy_eq] at hgi
        simp only [tyCells] at hgi
        refine tri_seq_mixed tt_ok mixed_ok [⟨.n, 0, [], []⟩, ⟨.n, 0, [], []⟩, ⟨.r, 0, [], []⟩, ⟨.r, 0, [], []⟩, ⟨.n, 0, [], []⟩, ⟨.n, 0, [], []⟩, ⟨.r, 0, [], []⟩, ⟨.r, 0, [], []⟩, ⟨.n, 0, [], []⟩, ⟨.n, 0, [], []⟩] 0 (by kernel_rfl) fun K hK => ?_
        simp only [get_encTys, ht, hu, encTy_eq, tyCells, wantedV, opV, St.eval, St.put, if_true, List.length_cons, List.length_nil, List.nil_append, List.append_nil, List.set_cons_zero, List.set_cons_succ, List.getD_cons_zero, List.getD_cons_succ, tElem, tSize, List.map_nil, List.map_cons, loadV, pickCells, List.take_succ_cons, List.take_zero, Nat.zero_add, Nat.reduceAdd, Nat.le_refl, Int.natCast_nonneg, indexV, indexAt, Int.toNat_natCast, V.cells, calleeOf, Option.map_some, rowOf, sizeOfBlk, tt22, tt25, runM, stepM, valD, val1, maskB, List.replicate, Nat.reduceAdd]
        refine ⟨_, _, by simp only [purL, pur1, purCells, purCell, nilS], .inl (hgi), ?_⟩
        try simp only [St.put, List.set_cons_zero, List.set_cons_succ, List.getD_cons_zero, List.getD_cons_succ, ev_not]
        refine hK _ ?_
        clear hK K
        have htk1 : ∀ h : t = u, ts.take (i + 1) = us.take (i + 1) := fun h => by rw [List.take_add_one, List.take_add_one, htk, ht, hu, h]
        by_cases htu : t = u
        · rw [eqb_true htu]
          refine tri_cond rfl (tri_skip ?_)
          show Tri _ _ _ _ _ _
          refine tri_last_region tt_ok fun K hK => ?_
          simp only [runOps, stepOp, wantedV, opV, St.eval, St.put, absV, List.set_cons_zero, List.set_cons_succ, List.getD_cons_zero, List.getD_cons_succ, ev_add, Bool.not_true, nilLen, gnCmp]
          refine hK _ ?_
          clear hK K
          have hw2 := i64_succ i (by omega)
          rw [hw2]
          exact ⟨ts.length - (i + 1), by omega, 0, [true, true, false, false, false, true], by omega, by simp only [maskFr, if_true, if_false, Bool.false_eq_true, List.all_cons, List.all_nil, belowV, Bool.and_self], rfl, i + 1, rfl, hlt, htk1 htu, rfl⟩
        · rw [eqb_false htu]
          refine tri_cond rfl ?_
          refine tri_seq_region tt_ok fun K hK => ?_
          simp only [runOps, stepOp, wantedV, opV, St.eval, St.put, absV, List.set_cons_zero, List.set_cons_succ, Bool.not_false]
          refine hK _ ?_
          clear hK K
          refine tri_ret ⟨.inl rfl, ?_⟩
          rw [eqb_false (fun e => htu (by rw [e, hu] at ht; exact (Option.some.inj ht).symm))]
          rfl
      · have hd := ge_dec hlt
        refine tri_seq_region tt_ok fun K hK => ?_
        simp only [length_encTys, hd, runOps, stepOp, wantedV, opV, St.eval, St.put, List.set_cons_zero, List.set_cons_succ, List.getD_cons_zero, List.getD_cons_succ, tElem, List.map_nil, List.map_cons, List.getElem?_cons_zero, lenV, ev_lss, List.getElem?_toArray, nilLen, ev_len1, gnCmp, tt22]
        refine hK _ ?_
        clear hK K
        refine tri_cond rfl (tri_exit ?_)
        have hie : i = ts.length := by omega
        subst hie
        show Tri _ _ _ _ _ _
        refine tri_seq_region tt_ok fun K hK => ?_
        simp only [runOps, stepOp, wantedV, opV, St.eval, St.put, absV, List.set_cons_zero, List.set_cons_succ]
        refine hK _ ?_
        clear hK K
        refine tri_ret ⟨.inl rfl, ?_⟩
        have he : ts = us := by
          rw [List.take_length] at htk
          rw [htk, hlen, List.take_length]
        rw [eqb_true he]; rfl
  · have hd : (!decide ((ts.length : Int) = (us.length : Int))) = true := by simp; omega
    refine tri_seq_region tt_ok fun K hK => ?_
    simp only [length_encTys, hd, runOps, stepOp, wantedV, opV, St.eval, St.put, List.set_cons_zero, List.set_cons_succ, List.getD_cons_zero, List.getD_cons_succ, tElem, List.map_nil, List.map_cons, List.getElem?_cons_zero, lenV, ev_neq, List.getElem?_toArray, nilLen, ev_len1, gnCmp, tt22]
    refine hK _ ?_
    clear hK K
    refine tri_cond rfl ?_
    refine tri_seq_region tt_ok fun K hK => ?_
    simp only [runOps, stepOp, wantedV, opV, St.eval, St.put, absV, List.set_cons_zero, List.set_cons_succ]
    refine hK _ ?_
    clear hK K
    refine tri_ret ⟨.inl rfl, ?_⟩
    rw [eqb_false (fun e => hlen (by rw [e]))]; rfl

/-- The operations of a region of a body. -/
def findReg (id : Nat) : Code → Option (Array Oper)
  | .region j ops _ => if j = id then some ops else none
  | .seq a b => match findReg id a with | some x => some x | none => findReg id b
  | .cond _ a b => match findReg id a with | some x => some x | none => findReg id b
  | .block _ c => findReg id c
  | .loop c => findReg id c
  | _ => none
def bodyReg (id : Nat) (fn : Func) : Option (Array Oper) := match fn.body with | some b => findReg id b | none => none
abbrev eqSt (t u : Ty) (i : Nat) (rest : List V) : St := { fr := [.undef, .undef, .ptr 0 0, .ptr 1 0, .undef, num i] ++ rest, mem := [.box (tyCells t), .box (tyCells u)] }
/-- What is left of a state behind the region. -/
def eqKeep (t u : Ty) (i : Nat) (b : Bool) (K : St → Prop) : Prop := ∀ fr : List V, maskFr ([false, false, true, true, false, true] ++ List.replicate 78 false ++ [true]) fr = [.undef, .undef, .ptr 0 0, .ptr 1 0, .undef, num i] ++ List.replicate 78 .undef ++ [bl b] ++ List.replicate 5 .undef →
  K { fr := fr, mem := [.box (tyCells t), .box (tyCells u)] }
section
variable {t u : Ty} {i : Nat} {f g : Fd} (hf : t.flds[i]? = some f) (hg : u.flds[i]? = some g) {a0 a b c d : V} {K : St → Prop} {ops : Array Oper} (ho : bodyReg 6 Tryz.f27 = some ops)
include hf hg ho in
theorem eqReg_name (h5 : ¬ f.name = g.name) (hK : eqKeep t u i true K) :
    runM Tryz.prog tt ops 2 ops.toList [⟨.n, 0, [], []⟩, ⟨.r, 0, [], []⟩, ⟨.n, 0, [], []⟩, ⟨.r, 0, [], []⟩, ⟨.n, 0, [], []⟩, ⟨.r, 0, [], []⟩, ⟨.n, 0, [], []⟩, ⟨.r, 0, [], []⟩, ⟨.n, 0, [], []⟩, ⟨.r, 0, [], []⟩, ⟨.n, 0, [], []⟩, ⟨.r, 0, [], []⟩, ⟨.n, 0, [], []⟩, ⟨.n, 0, [], []⟩, ⟨.n, 0, [], []⟩, ⟨.r, 0, [], []⟩, ⟨.n, 0, [], []⟩, ⟨.r, 0, [], []⟩, ⟨.n, 0, [], []⟩, ⟨.r, 0, [], []⟩, ⟨.n, 0, [], []⟩, ⟨.r, 0, [], []⟩, ⟨.n, 0, [], []⟩, ⟨.r, 0, [], []⟩, ⟨.n, 0, [], []⟩, ⟨.r, 0, [], []⟩, ⟨.n, 0, [], []⟩, ⟨.n, 0, [], []⟩, ⟨.n, 0, [], []⟩, ⟨.n, 0, [], []⟩, ⟨.r, 0, [], []⟩, ⟨.n, 0, [], []⟩, ⟨.r, 0, [], []⟩, ⟨.n, 0, [], []⟩, ⟨.r, 0, [], []⟩, ⟨.n, 0, [], []⟩, ⟨.r, 0, [], []⟩, ⟨.n, 0, [], []⟩, ⟨.r, 0, [], []⟩, ⟨.n, 0, [], []⟩, ⟨.r, 0, [], []⟩, ⟨.n, 0, [], []⟩, ⟨.n, 0, [], []⟩, ⟨.n, 0, [], []⟩] { fr := [.undef, .undef, .ptr 0 0, .ptr 1 0, .undef, num i] ++ List.replicate 28 .undef ++ [a0, a, b, c, d] ++ List.replicate 51 .undef, mem := [.box (tyCells t), .box (tyCells u)] ++ List.replicate 0 .hole } K := by
  simp only [bodyReg, Tryz.f27, findReg, Nat.reduceEqDiff, if_false, if_true, Option.some.injEq] at ho
  subst ho
  have e5 := bytes_eq f.name g.name
  have hT : Tryz.prog.underlying 4 = some .bool := by kernel_rfl
  have e6 := fun x y => ev_bneq (P := Tryz.prog) (T := 4) x y hT
  rw [eqb_false h5] at e5
  simp only [List.replicate_succ, List.replicate_zero, List.cons_append, List.nil_append, tyCells]
  refine runM_cut 5 (by simp) (by simp) fun K1 hK1 => ?_
  simp only [get_encFds, hf, encFd_eq, tyCells, wantedV, opV, St.eval, St.put, if_true, if_false, List.length_cons, List.length_nil, List.nil_append, List.cons_append, List.set_cons_zero, List.set_cons_succ, List.getD_cons_zero, List.getD_cons_succ, tElem, tSize, List.map_nil, fieldV, tOff, fieldAt, loadV, pickCells, List.drop_zero, List.drop_succ_cons, List.take_succ_cons, List.take_zero, List.getElem?_cons_zero, List.getElem?_cons_succ, List.head?_cons, Nat.zero_add, Nat.add_zero, Nat.reduceAdd, Bool.false_eq_true, Int.natCast_nonneg, indexV, indexAt, Int.toNat_natCast, V.cells, Option.map_some, rowOf, sizeOfBlk, tt23, tt25, tt86, runM, List.drop_succ_cons, List.drop_zero, stepM, valD, val1, maskB, Nat.reduceAdd]
  refine hK1 _ ?_
  clear hK1 K1
  refine runM_cut 5 (by simp) (by simp) fun K1 hK1 => ?_
  simp only [get_encFds, hg, encFd_eq, tyCells, wantedV, opV, St.eval, St.put, if_true, if_false, List.length_cons, List.length_nil, List.nil_append, List.cons_append, List.set_cons_zero, List.set_cons_succ, List.getD_cons_zero, List.getD_cons_succ, tElem, tSize, List.map_nil, fieldV, tOff, fieldAt, loadV, pickCells, List.drop_zero, List.drop_succ_cons, List.take_succ_cons, List.take_zero, List.getElem?_cons_zero, List.getElem?_cons_succ, List.head?_cons, Nat.zero_add, Nat.reduceAdd, Nat.reduceLeDiff, Bool.false_eq_true, Int.natCast_nonneg, indexV, indexAt, Int.toNat_natCast, V.cells, Option.map_some, rowOf, sizeOfBlk, tt9, tt23, tt25, tt86, runM, List.drop_succ_cons, List.drop_zero, stepM, valD, val1, maskB, Nat.reduceAdd]
  refine hK1 _ ?_
  clear hK1 K1
  refine runM_cut 5 (by simp) (by simp) fun K1 hK1 => ?_
  simp only [e5, wantedV, opV, St.eval, St.put, if_false, List.set_cons_zero, List.set_cons_succ, List.getD_cons_zero, List.getD_cons_succ, List.map_nil, fieldV, tOff, fieldAt, loadV, pickCells, List.drop_zero, List.drop_succ_cons, List.take_succ_cons, List.take_zero, List.getElem?_cons_zero, List.getElem?_cons_succ, List.head?_cons, Bool.false_eq_true, ev_sneq, V.cells, Option.bind_some, List.getElem?_toArray, Bool.not_false, rowOf, ev_tf, gnCmp, tt9, tt25, tt86, runM, List.drop_succ_cons, List.drop_zero, stepM, valD, val1, maskB]
  refine hK1 _ ?_
  clear hK1 K1
  refine runM_cut 5 (by simp) (by simp) fun K1 hK1 => ?_
  simp only [wantedV, opV, St.eval, St.put, if_false, List.set_cons_zero, List.set_cons_succ, tElem, tSize, List.map_nil, fieldV, tOff, fieldAt, loadV, pickCells, List.drop_zero, List.drop_succ_cons, List.take_succ_cons, List.take_zero, List.getElem?_cons_zero, List.getElem?_cons_succ, Bool.false_eq_true, indexV, indexAt, V.cells, Option.bind_some, List.getElem?_toArray, rowOf, sizeOfBlk, ev_tf, tt4, tt23, tt86, runM, List.drop_succ_cons, List.drop_zero, stepM, valD, val1, maskB]
  refine hK1 _ ?_
  clear hK1 K1
  refine runM_cut 5 (by simp) (by simp) fun K1 hK1 => ?_
  simp only [wantedV, opV, St.eval, St.put, if_false, List.set_cons_zero, List.set_cons_succ, tElem, tSize, List.map_nil, fieldV, tOff, fieldAt, loadV, pickCells, List.drop_zero, List.drop_succ_cons, List.take_succ_cons, List.take_zero, List.getElem?_cons_zero, List.getElem?_cons_succ, Bool.false_eq_true, indexV, indexAt, V.cells, Option.bind_some, List.getElem?_toArray, rowOf, sizeOfBlk, ev_tf, tt23, tt86, runM, List.drop_succ_cons, List.drop_zero, stepM, valD, val1, maskB]
  refine hK1 _ ?_
  clear hK1 K1
  refine runM_cut 5 (by simp) (by simp) fun K1 hK1 => ?_
  simp only [wantedV, opV, St.eval, St.put, absV, if_true, List.set_cons_zero, List.set_cons_succ, List.getD_cons_zero, List.getD_cons_succ, fieldV, tOff, fieldAt, List.drop_zero, List.drop_succ_cons, List.take_succ_cons, List.take_zero, List.getElem?_cons_zero, List.getElem?_cons_succ, Option.bind_some, List.getElem?_toArray, ev_tf, gnCmp, tt25, runM, List.drop_succ_cons, List.drop_zero, stepM, valD, val1]
  refine hK1 _ ?_
  clear hK1 K1
  refine runM_cut 5 (by simp) (by simp) fun K1 hK1 => ?_
  simp only [wantedV, opV, St.eval, St.put, if_true, List.set_cons_zero, List.set_cons_succ, tElem, tSize, List.map_nil, fieldV, tOff, fieldAt, loadV, pickCells, List.drop_zero, List.drop_succ_cons, List.take_succ_cons, List.take_zero, List.getElem?_cons_zero, List.getElem?_cons_succ, indexV, indexAt, V.cells, Option.bind_some, List.getElem?_toArray, rowOf, sizeOfBlk, ev_tf, tt23, tt25, tt86, runM, List.drop_succ_cons, List.drop_zero, stepM, valD, val1, maskB]
  refine hK1 _ ?_
  clear hK1 K1
  refine runM_cut 5 (by simp) (by simp) fun K1 hK1 => ?_
  simp only [wantedV, opV, St.eval, St.put, if_false, List.set_cons_zero, List.set_cons_succ, tElem, tSize, List.map_nil, fieldV, tOff, fieldAt, loadV, pickCells, List.drop_zero, List.drop_succ_cons, List.take_succ_cons, List.take_zero, List.getElem?_cons_zero, List.getElem?_cons_succ, Bool.false_eq_true, indexV, indexAt, V.cells, Option.bind_some, List.getElem?_toArray, rowOf, sizeOfBlk, ev_tf, tt23, tt86, runM, List.drop_succ_cons, List.drop_zero, stepM, valD, val1, maskB]
  refine hK1 _ ?_
  clear hK1 K1
  simp only [wantedV, opV, St.eval, St.put, absV, if_true, List.nil_append, List.append_nil, List.set_cons_zero, List.set_cons_succ, List.getD_cons_zero, List.getD_cons_succ, List.map_nil, List.map_cons, List.drop_zero, List.drop_succ_cons, List.getElem?_cons_zero, List.getElem?_cons_succ, calleeOf, Option.bind_some, List.getElem?_toArray, ev_tf, runM, List.drop_succ_cons, List.drop_zero, stepM, valD, val1]
  exact hK _ (by simp only [maskFr, List.replicate_succ, List.replicate_zero, List.cons_append, List.nil_append, if_true, Bool.false_eq_true, if_false])
include hf hg ho in
theorem eqReg_opt (h5 : f.name = g.name) (h6 : ¬ f.opt = g.opt) (hK : eqKeep t u i true K) :
    runM Tryz.prog tt ops 2 ops.toList [⟨.n, 0, [], []⟩, ⟨.r, 0, [], []⟩, ⟨.n, 0, [], []⟩, ⟨.r, 0, [], []⟩, ⟨.n, 0, [], []⟩, ⟨.r, 0, [], []⟩, ⟨.n, 0, [], []⟩, ⟨.r, 0, [], []⟩, ⟨.n, 0, [], []⟩, ⟨.r, 0, [], []⟩, ⟨.n, 0, [], []⟩, ⟨.r, 0, [], []⟩, ⟨.n, 0, [], []⟩, ⟨.n, 0, [], []⟩, ⟨.n, 0, [], []⟩, ⟨.r, 0, [], []⟩, ⟨.n, 0, [], []⟩, ⟨.r, 0, [], []⟩, ⟨.n, 0, [], []⟩, ⟨.r, 0, [], []⟩, ⟨.n, 0, [], []⟩, ⟨.r, 0, [], []⟩, ⟨.n, 0, [], []⟩, ⟨.r, 0, [], []⟩, ⟨.n, 0, [], []⟩, ⟨.r, 0, [], []⟩, ⟨.n, 0, [], []⟩, ⟨.n, 0, [], []⟩, ⟨.n, 0, [], []⟩, ⟨.n, 0, [], []⟩, ⟨.r, 0, [], []⟩, ⟨.n, 0, [], []⟩, ⟨.r, 0, [], []⟩, ⟨.n, 0, [], []⟩, ⟨.r, 0, [], []⟩, ⟨.n, 0, [], []⟩, ⟨.r, 0, [], []⟩, ⟨.n, 0, [], []⟩, ⟨.r, 0, [], []⟩, ⟨.n, 0, [], []⟩, ⟨.r, 0, [], []⟩, ⟨.n, 0, [], []⟩, ⟨.n, 0, [], []⟩, ⟨.n, 0, [], []⟩] { fr := [.undef, .undef, .ptr 0 0, .ptr 1 0, .undef, num i] ++ List.replicate 28 .undef ++ [a0, a, b, c, d] ++ List.replicate 51 .undef, mem := [.box (tyCells t), .box (tyCells u)] ++ List.replicate 0 .hole } K := by
  simp only [bodyReg, Tryz.f27, findReg, Nat.reduceEqDiff, if_false, if_true, Option.some.injEq] at ho
  subst ho
  have e5 := bytes_eq f.name g.name
  have hT : Tryz.prog.underlying 4 = some .bool := by kernel_rfl
  have e6 := fun x y => ev_bneq (P := Tryz.prog) (T := 4) x y hT
  rw [eqb_true h5] at e5
  have e7 : (f.opt == g.opt) = false := by simpa using h6
  simp only [List.replicate_succ, List.replicate_zero, List.cons_append, List.nil_append, tyCells]
  refine runM_cut 5 (by simp) (by simp) fun K1 hK1 => ?_
  simp only [get_encFds, hf, encFd_eq, tyCells, wantedV, opV, St.eval, St.put, if_true, if_false, List.length_cons, List.length_nil, List.nil_append, List.cons_append, List.set_cons_zero, List.set_cons_succ, List.getD_cons_zero, List.getD_cons_succ, tElem, tSize, List.map_nil, fieldV, tOff, fieldAt, loadV, pickCells, List.drop_zero, List.drop_succ_cons, List.take_succ_cons, List.take_zero, List.getElem?_cons_zero, List.getElem?_cons_succ, List.head?_cons, Nat.zero_add, Nat.add_zero, Nat.reduceAdd, Bool.false_eq_true, Int.natCast_nonneg, indexV, indexAt, Int.toNat_natCast, V.cells, Option.map_some, rowOf, sizeOfBlk, tt23, tt25, tt86, runM, List.drop_succ_cons, List.drop_zero, stepM, valD, val1, maskB, Nat.reduceAdd]
  refine hK1 _ ?_
  clear hK1 K1
  refine runM_cut 5 (by simp) (by simp) fun K1 hK1 => ?_
  simp only [get_encFds, hg, encFd_eq, tyCells, wantedV, opV, St.eval, St.put, if_true, if_false, List.length_cons, List.length_nil, List.nil_append, List.cons_append, List.set_cons_zero, List.set_cons_succ, List.getD_cons_zero, List.getD_cons_succ, tElem, tSize, List.map_nil, fieldV, tOff, fieldAt, loadV, pickCells, List.drop_zero, List.drop_succ_cons, List.take_succ_cons, List.take_zero, List.getElem?_cons_zero, List.getElem?_cons_succ, List.head?_cons, Nat.zero_add, Nat.reduceAdd, Nat.reduceLeDiff, Bool.false_eq_true, Int.natCast_nonneg, indexV, indexAt, Int.toNat_natCast, V.cells, Option.map_some, rowOf, sizeOfBlk, tt9, tt23, tt25, tt86, runM, List.drop_succ_cons, List.drop_zero, stepM, valD, val1, maskB, Nat.reduceAdd]
  refine hK1 _ ?_
  clear hK1 K1
  refine runM_cut 5 (by simp) (by simp) fun K1 hK1 => ?_
  simp only [e5, wantedV, opV, St.eval, St.put, if_false, List.set_cons_zero, List.set_cons_succ, List.getD_cons_zero, List.getD_cons_succ, List.map_nil, fieldV, tOff, fieldAt, loadV, pickCells, List.drop_zero, List.drop_succ_cons, List.take_succ_cons, List.take_zero, List.getElem?_cons_zero, List.getElem?_cons_succ, List.head?_cons, Nat.zero_add, Bool.false_eq_true, ev_sneq, V.cells, Option.bind_some, List.getElem?_toArray, beq_self_eq_true, Bool.not_true, rowOf, gnCmp, tt9, tt25, tt86, runM, List.drop_succ_cons, List.drop_zero, stepM, valD, val1, maskB]
  refine hK1 _ ?_
  clear hK1 K1
  refine runM_cut 5 (by simp) (by simp) fun K1 hK1 => ?_
  simp only [get_encFds, hf, encFd_eq, tyCells, wantedV, opV, St.eval, St.put, if_true, if_false, List.length_cons, List.length_nil, List.nil_append, List.cons_append, List.set_cons_zero, List.set_cons_succ, List.getD_cons_zero, List.getD_cons_succ, tElem, tSize, List.map_nil, fieldV, tOff, fieldAt, loadV, pickCells, List.drop_zero, List.drop_succ_cons, List.take_succ_cons, List.take_zero, List.getElem?_cons_zero, List.getElem?_cons_succ, List.head?_cons, Nat.zero_add, Nat.reduceAdd, Nat.le_refl, Bool.false_eq_true, Int.natCast_nonneg, indexV, indexAt, Int.toNat_natCast, V.cells, Option.map_some, Option.bind_some, List.getElem?_toArray, beq_self_eq_true, rowOf, sizeOfBlk, tt4, tt23, tt86, runM, List.drop_succ_cons, List.drop_zero, stepM, valD, val1, maskB, Nat.reduceAdd]
  refine hK1 _ ?_
  clear hK1 K1
  refine runM_cut 5 (by simp) (by simp) fun K1 hK1 => ?_
  simp only [get_encFds, hg, encFd_eq, tyCells, wantedV, opV, St.eval, St.put, if_true, if_false, List.length_cons, List.length_nil, List.nil_append, List.cons_append, List.set_cons_zero, List.set_cons_succ, List.getD_cons_zero, List.getD_cons_succ, tElem, tSize, List.map_nil, fieldV, tOff, fieldAt, loadV, pickCells, List.drop_zero, List.drop_succ_cons, List.take_succ_cons, List.take_zero, List.getElem?_cons_zero, List.getElem?_cons_succ, List.head?_cons, Nat.zero_add, Nat.reduceAdd, Bool.false_eq_true, Int.natCast_nonneg, indexV, indexAt, Int.toNat_natCast, V.cells, Option.map_some, Option.bind_some, List.getElem?_toArray, beq_self_eq_true, rowOf, sizeOfBlk, tt23, tt25, tt86, runM, List.drop_succ_cons, List.drop_zero, stepM, valD, val1, maskB, Nat.reduceAdd]
  refine hK1 _ ?_
  clear hK1 K1
  refine runM_cut 5 (by simp) (by simp) fun K1 hK1 => ?_
  simp only [e6, e7, wantedV, opV, St.eval, St.put, absV, if_true, if_false, List.length_cons, List.length_nil, List.set_cons_zero, List.set_cons_succ, List.getD_cons_zero, List.getD_cons_succ, List.map_nil, fieldV, tOff, fieldAt, loadV, pickCells, List.drop_zero, List.drop_succ_cons, List.take_succ_cons, List.take_zero, List.getElem?_cons_zero, List.getElem?_cons_succ, List.head?_cons, Nat.zero_add, Nat.le_refl, Bool.false_eq_true, Option.bind_some, List.getElem?_toArray, beq_self_eq_true, Bool.not_false, ev_tf, gnCmp, tt4, tt25, runM, List.drop_succ_cons, List.drop_zero, stepM, valD, val1, maskB]
  refine hK1 _ ?_
  clear hK1 K1
  refine runM_cut 5 (by simp) (by simp) fun K1 hK1 => ?_
  simp only [wantedV, opV, St.eval, St.put, if_true, List.set_cons_zero, List.set_cons_succ, tElem, tSize, List.map_nil, fieldV, tOff, fieldAt, loadV, pickCells, List.drop_zero, List.drop_succ_cons, List.take_succ_cons, List.take_zero, List.getElem?_cons_zero, List.getElem?_cons_succ, indexV, indexAt, V.cells, Option.bind_some, List.getElem?_toArray, rowOf, sizeOfBlk, ev_tf, tt23, tt25, tt86, runM, List.drop_succ_cons, List.drop_zero, stepM, valD, val1, maskB]
  refine hK1 _ ?_
  clear hK1 K1
  refine runM_cut 5 (by simp) (by simp) fun K1 hK1 => ?_
  simp only [wantedV, opV, St.eval, St.put, if_false, List.set_cons_zero, List.set_cons_succ, tElem, tSize, List.map_nil, fieldV, tOff, fieldAt, loadV, pickCells, List.drop_zero, List.drop_succ_cons, List.take_succ_cons, List.take_zero, List.getElem?_cons_zero, List.getElem?_cons_succ, Bool.false_eq_true, indexV, indexAt, V.cells, Option.bind_some, List.getElem?_toArray, rowOf, sizeOfBlk, ev_tf, tt23, tt86, runM, List.drop_succ_cons, List.drop_zero, stepM, valD, val1, maskB]
  refine hK1 _ ?_
  clear hK1 K1
  simp only [wantedV, opV, St.eval, St.put, absV, if_true, List.nil_append, List.append_nil, List.set_cons_zero, List.set_cons_succ, List.getD_cons_zero, List.getD_cons_succ, List.map_nil, List.map_cons, List.drop_zero, List.drop_succ_cons, List.getElem?_cons_zero, List.getElem?_cons_succ, calleeOf, Option.bind_some, List.getElem?_toArray, ev_tf, runM, List.drop_succ_cons, List.drop_zero, stepM, valD, val1]
  exact hK _ (by simp only [maskFr, List.replicate_succ, List.replicate_zero, List.cons_append, List.nil_append, if_true, Bool.false_eq_true, if_false])
include hf hg ho in
theorem eqReg_ty (h5 : f.name = g.name) (h6 : f.opt = g.opt) (r : Bool) (hrec : FnOk Tryz.prog 27 [.agg (tyCells f.ty), .agg (tyCells g.ty)] (bl r)) (hK : eqKeep t u i (!r) K) :
    runM Tryz.prog tt ops 2 ops.toList [⟨.n, 0, [], []⟩, ⟨.r, 0, [], []⟩, ⟨.n, 0, [], []⟩, ⟨.r, 0, [], []⟩, ⟨.n, 0, [], []⟩, ⟨.r, 0, [], []⟩, ⟨.n, 0, [], []⟩, ⟨.r, 0, [], []⟩, ⟨.n, 0, [], []⟩, ⟨.r, 0, [], []⟩, ⟨.n, 0, [], []⟩, ⟨.r, 0, [], []⟩, ⟨.n, 0, [], []⟩, ⟨.n, 0, [], []⟩, ⟨.n, 0, [], []⟩, ⟨.r, 0, [], []⟩, ⟨.n, 0, [], []⟩, ⟨.r, 0, [], []⟩, ⟨.n, 0, [], []⟩, ⟨.r, 0, [], []⟩, ⟨.n, 0, [], []⟩, ⟨.r, 0, [], []⟩, ⟨.n, 0, [], []⟩, ⟨.r, 0, [], []⟩, ⟨.n, 0, [], []⟩, ⟨.r, 0, [], []⟩, ⟨.n, 0, [], []⟩, ⟨.n, 0, [], []⟩, ⟨.n, 0, [], []⟩, ⟨.n, 0, [], []⟩, ⟨.r, 0, [], []⟩, ⟨.n, 0, [], []⟩, ⟨.r, 0, [], []⟩, ⟨.n, 0, [], []⟩, ⟨.r, 0, [], []⟩, ⟨.n, 0, [], []⟩, ⟨.r, 0, [], []⟩, ⟨.n, 0, [], []⟩, ⟨.r, 0, [], []⟩, ⟨.n, 0, [], []⟩, ⟨.r, 0, [], []⟩, ⟨.n, 0, [], []⟩, ⟨.n, 0, [], []⟩, ⟨.n, 0, [], []⟩] { fr := [.undef, .undef, .ptr 0 0, .ptr 1 0, .undef, num i] ++ List.replicate 28 .undef ++ [a0, a, b, c, d] ++ List.replicate 51 .undef, mem := [.box (tyCells t), .box (tyCells u)] ++ List.replicate 0 .hole } K := by
  simp only [bodyReg, Tryz.f27, findReg, Nat.reduceEqDiff, if_false, if_true, Option.some.injEq] at ho
  subst ho
  have e5 := bytes_eq f.name g.name
  have hT : Tryz.prog.underlying 4 = some .bool := by kernel_rfl
  have e6 := fun x y => ev_bneq (P := Tryz.prog) (T := 4) x y hT
  rw [eqb_true h5] at e5
  have e7 : (f.opt == g.opt) = true := by simpa using h6
  simp only [tyCells] at hrec
  simp only [List.replicate_succ, List.replicate_zero, List.cons_append, List.nil_append, tyCells]
  refine runM_cut 5 (by simp) (by simp) fun K1 hK1 => ?_
  simp only [get_encFds, hf, encFd_eq, tyCells, wantedV, opV, St.eval, St.put, if_true, if_false, List.length_cons, List.length_nil, List.nil_append, List.cons_append, List.set_cons_zero, List.set_cons_succ, List.getD_cons_zero, List.getD_cons_succ, tElem, tSize, List.map_nil, fieldV, tOff, fieldAt, loadV, pickCells, List.drop_zero, List.drop_succ_cons, List.take_succ_cons, List.take_zero, List.getElem?_cons_zero, List.getElem?_cons_succ, List.head?_cons, Nat.zero_add, Nat.add_zero, Nat.reduceAdd, Bool.false_eq_true, Int.natCast_nonneg, indexV, indexAt, Int.toNat_natCast, V.cells, Option.map_some, rowOf, sizeOfBlk, tt23, tt25, tt86, runM, List.drop_succ_cons, List.drop_zero, stepM, valD, val1, maskB, Nat.reduceAdd]
  refine hK1 _ ?_
  clear hK1 K1
  refine runM_cut 5 (by simp) (by simp) fun K1 hK1 => ?_
  simp only [get_encFds, hg, encFd_eq, tyCells, wantedV, opV, St.eval, St.put, if_true, if_false, List.length_cons, List.length_nil, List.nil_append, List.cons_append, List.set_cons_zero, List.set_cons_succ, List.getD_cons_zero, List.getD_cons_succ, tElem, tSize, List.map_nil, fieldV, tOff, fieldAt, loadV, pickCells, List.drop_zero, List.drop_succ_cons, List.take_succ_cons, List.take_zero, List.getElem?_cons_zero, List.getElem?_cons_succ, List.head?_cons, Nat.zero_add, Nat.reduceAdd, Nat.reduceLeDiff, Bool.false_eq_true, Int.natCast_nonneg, indexV, indexAt, Int.toNat_natCast, V.cells, Option.map_some, rowOf, sizeOfBlk, tt9, tt23, tt25, tt86, runM, List.drop_succ_cons, List.drop_zero, stepM, valD, val1, maskB, Nat.reduceAdd]
  refine hK1 _ ?_
  clear hK1 K1
  refine runM_cut 5 (by simp) (by simp) fun K1 hK1 => ?_
  simp only [e5, wantedV, opV, St.eval, St.put, if_false, List.set_cons_zero, List.set_cons_succ, List.getD_cons_zero, List.getD_cons_succ, List.map_nil, fieldV, tOff, fieldAt, loadV, pickCells, List.drop_zero, List.drop_succ_cons, List.take_succ_cons, List.take_zero, List.getElem?_cons_zero, List.getElem?_cons_succ, List.head?_cons, Nat.zero_add, Bool.false_eq_true, ev_sneq, V.cells, Option.bind_some, List.getElem?_toArray, beq_self_eq_true, Bool.not_true, rowOf, gnCmp, tt9, tt25, tt86, runM, List.drop_succ_cons, List.drop_zero, stepM, valD, val1, maskB]
  refine hK1 _ ?_
  clear hK1 K1
  refine runM_cut 5 (by simp) (by simp) fun K1 hK1 => ?_
  simp only [get_encFds, hf, encFd_eq, tyCells, wantedV, opV, St.eval, St.put, if_true, if_false, List.length_cons, List.length_nil, List.nil_append, List.cons_append, List.set_cons_zero, List.set_cons_succ, List.getD_cons_zero, List.getD_cons_succ, tElem, tSize, List.map_nil, fieldV, tOff, fieldAt, loadV, pickCells, List.drop_zero, List.drop_succ_cons, List.take_succ_cons, List.take_zero, List.getElem?_cons_zero, List.getElem?_cons_succ, List.head?_cons, Nat.zero_add, Nat.reduceAdd, Nat.le_refl, Bool.false_eq_true, Int.natCast_nonneg, indexV, indexAt, Int.toNat_natCast, V.cells, Option.map_some, Option.bind_some, List.getElem?_toArray, beq_self_eq_true, rowOf, sizeOfBlk, tt4, tt23, tt86, runM, List.drop_succ_cons, List.drop_zero, stepM, valD, val1, maskB, Nat.reduceAdd]
  refine hK1 _ ?_
  clear hK1 K1
  refine runM_cut 5 (by simp) (by simp) fun K1 hK1 => ?_
  simp only [get_encFds, hg, encFd_eq, tyCells, wantedV, opV, St.eval, St.put, if_true, if_false, List.length_cons, List.length_nil, List.nil_append, List.cons_append, List.set_cons_zero, List.set_cons_succ, List.getD_cons_zero, List.getD_cons_succ, tElem, tSize, List.map_nil, fieldV, tOff, fieldAt, loadV, pickCells, List.drop_zero, List.drop_succ_cons, List.take_succ_cons, List.take_zero, List.getElem?_cons_zero, List.getElem?_cons_succ, List.head?_cons, Nat.zero_add, Nat.reduceAdd, Bool.false_eq_true, Int.natCast_nonneg, indexV, indexAt, Int.toNat_natCast, V.cells, Option.map_some, Option.bind_some, List.getElem?_toArray, beq_self_eq_true, rowOf, sizeOfBlk, tt23, tt25, tt86, runM, List.drop_succ_cons, List.drop_zero, stepM, valD, val1, maskB, Nat.reduceAdd]
  refine hK1 _ ?_
  clear hK1 K1
  refine runM_cut 5 (by simp) (by simp) fun K1 hK1 => ?_
  simp only [e6, e7, wantedV, opV, St.eval, St.put, absV, if_true, if_false, List.length_cons, List.length_nil, List.set_cons_zero, List.set_cons_succ, List.getD_cons_zero, List.getD_cons_succ, List.map_nil, fieldV, tOff, fieldAt, loadV, pickCells, List.drop_zero, List.drop_succ_cons, List.take_succ_cons, List.take_zero, List.getElem?_cons_zero, List.getElem?_cons_succ, List.head?_cons, Nat.zero_add, Nat.le_refl, Bool.false_eq_true, Option.bind_some, List.getElem?_toArray, beq_self_eq_true, Bool.not_true, gnCmp, tt4, tt25, runM, List.drop_succ_cons, List.drop_zero, stepM, valD, val1, maskB]
  refine hK1 _ ?_
  clear hK1 K1
  refine runM_cut 5 (by simp) (by simp) fun K1 hK1 => ?_
  simp only [get_encFds, hf, encFd_eq, tyCells, wantedV, opV, St.eval, St.put, if_true, if_false, List.length_cons, List.length_nil, List.nil_append, List.cons_append, List.set_cons_zero, List.set_cons_succ, List.getD_cons_zero, List.getD_cons_succ, tElem, tSize, List.map_nil, fieldV, tOff, fieldAt, loadV, pickCells, List.drop_zero, List.drop_succ_cons, List.take_succ_cons, List.take_zero, List.getElem?_cons_zero, List.getElem?_cons_succ, List.head?_cons, Nat.zero_add, Nat.reduceAdd, Nat.reduceLeDiff, Nat.le_refl, Bool.false_eq_true, Int.natCast_nonneg, indexV, indexAt, Int.toNat_natCast, V.cells, Option.map_some, Option.bind_some, List.getElem?_toArray, beq_self_eq_true, rowOf, sizeOfBlk, tt23, tt25, tt86, runM, List.drop_succ_cons, List.drop_zero, stepM, valD, val1, maskB, Nat.reduceAdd]
  refine hK1 _ ?_
  clear hK1 K1
  refine runM_cut 5 (by simp) (by simp) fun K1 hK1 => ?_
  simp only [get_encFds, hg, encFd_eq, tyCells, wantedV, opV, St.eval, St.put, if_true, if_false, List.length_cons, List.length_nil, List.nil_append, List.cons_append, List.set_cons_zero, List.set_cons_succ, List.getD_cons_zero, List.getD_cons_succ, tElem, tSize, List.map_nil, fieldV, tOff, fieldAt, loadV, pickCells, List.drop_zero, List.drop_succ_cons, List.take_succ_cons, List.take_zero, List.getElem?_cons_zero, List.getElem?_cons_succ, List.head?_cons, Nat.zero_add, Nat.reduceAdd, Bool.false_eq_true, Int.natCast_nonneg, indexV, indexAt, Int.toNat_natCast, V.cells, Option.map_some, Option.bind_some, List.getElem?_toArray, beq_self_eq_true, rowOf, sizeOfBlk, tt23, tt25, tt86, runM, List.drop_succ_cons, List.drop_zero, stepM, valD, val1, maskB, Nat.reduceAdd]
  refine hK1 _ ?_
  clear hK1 K1
  simp only [wantedV, opV, St.eval, St.put, absV, if_true, List.length_cons, List.length_nil, List.nil_append, List.append_nil, List.set_cons_zero, List.set_cons_succ, List.getD_cons_zero, List.getD_cons_succ, List.map_nil, List.map_cons, loadV, pickCells, List.drop_zero, List.drop_succ_cons, List.take_succ_cons, List.take_zero, List.getElem?_cons_zero, List.getElem?_cons_succ, List.head?_cons, Nat.zero_add, Nat.reduceAdd, Nat.reduceLeDiff, calleeOf, Option.bind_some, List.getElem?_toArray, beq_self_eq_true, tt25, runM, List.drop_succ_cons, List.drop_zero, stepM, valD, val1, maskB, Nat.reduceAdd]
  refine ⟨_, _, by simp only [purL, pur1, purCells, purCell, nilS], .inl (hrec), ?_⟩
  try simp only [St.put, if_false, List.set_cons_zero, List.set_cons_succ, List.getD_cons_zero, List.getD_cons_succ, List.getElem?_cons_zero, List.getElem?_cons_succ, Bool.false_eq_true, ev_not, beq_self_eq_true]
  exact hK _ (by simp only [maskFr, List.replicate_succ, List.replicate_zero, List.cons_append, List.nil_append, if_true, Bool.false_eq_true, if_false])
end

theorem reqTy_ok : ∀ (N : Nat) (t u : Ty), t.size ≤ N → N ≤ 1048576 → FnOk Tryz.prog 27 [encTy t, encTy u] (bl (eqb t u)) := by
  intro N
  induction N with
  | zero => intro t u h; have := t.size_pos; omega
  | succ N ih =>
    intro t u hN hb
    have hpl := t.parts_length
    have hA := reqTys_ok t.args u.args (by omega) fun i a b ha _ => ih a b (by have := Ty.args_size ha; omega) (by omega)
    refine fn_ok tt_ok (fn := Tryz.f27) Tryz.func27 rfl Tryz.call27 ?_
    simp only [startSt, Tryz.ntmps27, List.length_cons, List.length_nil, Nat.reduceAdd, Nat.reduceSub, List.replicate_succ, List.replicate_zero, List.cons_append, List.nil_append]
    rw [encTy_eq, encTy_eq]
    simp only [tyCells]
    have e2 := bytes_eq t.mod u.mod
    have e3 := bytes_eq t.name u.name
    refine tri_seq_region tt_ok fun K hK => ?_
    simp only [runOps, stepOp, wantedV, opV, St.eval, St.put, absV, cellsV, oneV, List.all_cons, List.all_nil, Bool.and_self, Value.oneCell', if_true, if_false, setMem, List.length_cons, List.length_nil, Nat.lt_irrefl, List.nil_append, List.cons_append, List.set_cons_zero, List.set_cons_succ, List.getD_cons_zero, List.getD_cons_succ, Nat.zero_add]
    refine hK _ ?_
    clear hK K
    refine tri_seq ?_
    by_cases hall : t.kind = u.kind ∧ t.mod = u.mod ∧ t.name = u.name ∧ t.flds.length = u.flds.length
    · obtain ⟨h1, h2, h3, h4⟩ := hall
      have d1 : decide (t.kind = u.kind) = true := decide_eq_true h1
      rw [eqb_true h2] at e2
      rw [eqb_true h3] at e3
      have d4 : decide ((t.flds.length : Int) = (u.flds.length : Int)) = true := by simp [h4]
      refine tri_seq_region tt_ok fun K hK => ?_
      simp only [d1, e2, e3, d4, length_encFds, runOps, stepOp, wantedV, opV, St.eval, St.put, absV, if_true, if_false, List.length_cons, List.length_nil, List.set_cons_zero, List.set_cons_succ, List.getD_cons_zero, List.getD_cons_succ, tElem, List.map_nil, List.map_cons, fieldV, tOff, fieldAt, loadV, pickCells, List.drop_zero, List.drop_succ_cons, List.take_succ_cons, List.take_zero, List.getElem?_cons_zero, List.getElem?_cons_succ, List.head?_cons, Nat.zero_add, Nat.add_zero, Nat.reduceAdd, Nat.reduceLeDiff, Nat.le_refl, Bool.false_eq_true, lenV, ev_neq, ev_sneq, Option.bind_some, List.getElem?_toArray, beq_self_eq_true, Bool.not_true, nilLen, ev_len1, gnCmp, tt3, tt9, tt23, tt25]
      refine hK _ ?_
      clear hK K
      refine tri_cond rfl (tri_skip ?_)
      show Tri _ _ _ _ _ _
      refine tri_seq ?_
      refine tri_seq_region tt_ok fun K hK => ?_
      simp only [runOps, stepOp, wantedV, opV, St.eval, St.put, absV, List.set_cons_zero, List.set_cons_succ]
      refine hK _ ?_
      clear hK K
      refine tri_block (tri_loop_inv (fun N st => ∃ (i : Nat), N = t.flds.length - i ∧ i ≤ t.flds.length ∧ t.flds.take i = u.flds.take i ∧
        st = { fr := [.undef, .undef, .ptr 0 0, .ptr 1 0, .undef, num i] ++ List.replicate 84 .undef, mem := [.box (tyCells t), .box (tyCells u)] }) t.flds.length ?_ ?_)
      · exact ⟨2, [false, false, true, true, false, true], by omega, by simp only [maskFr, if_true, if_false, Bool.false_eq_true, List.all_cons, List.all_nil, belowV, Nat.reduceLT, decide_true, Bool.and_self], by simp only [List.all_cons, List.all_nil, belowV, belowB, Bool.and_self, List.take_succ_cons, List.take_nil], 0, by omega, by omega, by simp, rfl⟩
      · rintro N' st ⟨i, rfl, hi, htk, rfl⟩
        simp only [List.replicate_succ, List.replicate_zero, List.cons_append, List.nil_append, tyCells]
        refine tri_seq ?_
        by_cases hlt : i < t.flds.length
        · have hd := lt_dec hlt
          refine tri_seq_region tt_ok fun K hK => ?_
          simp only [length_encFds, hd, runOps, stepOp, wantedV, opV, St.eval, St.put, if_true, if_false, List.length_cons, List.length_nil, List.set_cons_zero, List.set_cons_succ, List.getD_cons_zero, List.getD_cons_succ, tElem, List.map_nil, List.map_cons, fieldV, tOff, fieldAt, loadV, pickCells, List.drop_zero, List.drop_succ_cons, List.take_succ_cons, List.take_zero, List.getElem?_cons_zero, List.getElem?_cons_succ, List.head?_cons, Nat.zero_add, Nat.le_refl, Bool.false_eq_true, lenV, ev_lss, List.getElem?_toArray, nilLen, ev_len1, gnCmp, tt23, tt25]
          refine hK _ ?_
          clear hK K
          refine tri_cond rfl (tri_skip ?_)
          refine tri_seq (tri_block ?_)
          obtain ⟨f, hf⟩ : ∃ f, t.flds[i]? = some f := ⟨_, List.getElem?_eq_getElem hlt⟩
          obtain ⟨g, hg⟩ : ∃ g, u.flds[i]? = some g := ⟨_, List.getElem?_eq_getElem (by omega)⟩
          have hrec := ih f.ty g.ty (by have := Ty.flds_size hf; omega) (by omega)
          rw [encTy_eq, encTy_eq] at hrec
          have no : ¬ f = g → ¬ t = u := fun h e => h (by rw [e, hg] at hf; exact (Option.some.inj hf).symm)
          refine tri_seq_mixed tt_ok mixed_ok [⟨.n, 0, [], []⟩, ⟨.r, 0, [], []⟩, ⟨.n, 0, [], []⟩, ⟨.r, 0, [], []⟩, ⟨.n, 0, [], []⟩, ⟨.r, 0, [], []⟩, ⟨.n, 0, [], []⟩, ⟨.r, 0, [], []⟩, ⟨.n, 0, [], []⟩, ⟨.r, 0, [], []⟩, ⟨.n, 0, [], []⟩, ⟨.r, 0, [], []⟩, ⟨.n, 0, [], []⟩, ⟨.n, 0, [], []⟩, ⟨.n, 0, [], []⟩, ⟨.r, 0, [], []⟩, ⟨.n, 0, [], []⟩, ⟨.r, 0, [], []⟩, ⟨.n, 0, [], []⟩, ⟨.r, 0, [], []⟩, ⟨.n, 0, [], []⟩, ⟨.r, 0, [], []⟩, ⟨.n, 0, [], []⟩, ⟨.r, 0, [], []⟩, ⟨.n, 0, [], []⟩, ⟨.r, 0, [], []⟩, ⟨.n, 0, [], []⟩, ⟨.n, 0, [], []⟩, ⟨.n, 0, [], []⟩, ⟨.n, 0, [], []⟩, ⟨.r, 0, [], []⟩, ⟨.n, 0, [], []⟩, ⟨.r, 0, [], []⟩, ⟨.n, 0, [], []⟩, ⟨.r, 0, [], []⟩, ⟨.n, 0, [], []⟩, ⟨.r, 0, [], []⟩, ⟨.n, 0, [], []⟩, ⟨.r, 0, [], []⟩, ⟨.n, 0, [], []⟩, ⟨.r, 0, [], []⟩, ⟨.n, 0, [], []⟩, ⟨.n, 0, [], []⟩, ⟨.n, 0, [], []⟩] 0 (by kernel_rfl) fun K hK => ?_
          have keepT : ¬ t = u → eqKeep t u i true K := fun hne fr hfr => by
            refine hK _ ?_
            refine tri_mask 2 ([false, false, true, true, false, true] ++ List.replicate 78 false ++ [true]) (by omega) (by rw [hfr]; simp only [List.replicate_succ, List.replicate_zero, List.cons_append, List.nil_append, List.all_cons, List.all_nil, belowV, Nat.reduceLT, decide_true, Bool.and_self]) (by simp only [tyCells, List.all_cons, List.all_nil, belowV, belowB, Bool.and_self, List.take_succ_cons, List.take_nil]) ?_
            rw [hfr]
            simp only [List.replicate_succ, List.replicate_zero, List.cons_append, List.nil_append]
            refine tri_cond rfl ?_
            refine tri_seq_region tt_ok fun K hK => ?_
            simp only [runOps, stepOp, wantedV, opV, St.eval, St.put, absV, List.set_cons_zero, List.set_cons_succ, List.take_succ_cons, List.take_zero]
            refine hK _ ?_
            clear hK K
            refine tri_ret ⟨.inl rfl, ?_⟩
            rw [eqb_false hne]; rfl
          by_cases h5 : f.name = g.name
          · by_cases h6 : f.opt = g.opt
            · by_cases h7 : f.ty = g.ty
              · rw [eqb_true h7] at hrec
                refine eqReg_ty hf hg rfl h5 h6 true hrec fun fr hfr => ?_
                refine hK _ ?_
                refine tri_mask 2 ([false, false, true, true, false, true] ++ List.replicate 78 false ++ [true]) (by omega) (by rw [hfr]; simp only [List.replicate_succ, List.replicate_zero, List.cons_append, List.nil_append, List.all_cons, List.all_nil, belowV, Nat.reduceLT, decide_true, Bool.and_self]) (by simp only [tyCells, List.all_cons, List.all_nil, belowV, belowB, Bool.and_self, List.take_succ_cons, List.take_nil]) ?_
                rw [hfr]
                simp only [List.replicate_succ, List.replicate_zero, List.cons_append, List.nil_append]
                refine tri_cond rfl (tri_skip ?_)
                show Tri _ _ _ _ _ _
                refine tri_last_region tt_ok fun K hK => ?_
                simp only [runOps, stepOp, wantedV, opV, St.eval, St.put, absV, List.set_cons_zero, List.set_cons_succ, List.getD_cons_zero, List.getD_cons_succ, List.take_succ_cons, List.take_zero, ev_add, Bool.not_true, nilLen, gnCmp]
                refine hK _ ?_
                clear hK K
                have hw2 := i64_succ i (by omega)
                rw [hw2]
                have hfg : f = g := (Fd.ext_iff f g).2 ⟨h5, h6, h7⟩
                exact ⟨t.flds.length - (i + 1), by omega, 2, [false, false, true, true, false, true], by omega, by simp only [maskFr, if_true, if_false, Bool.false_eq_true, List.all_cons, List.all_nil, belowV, Nat.reduceLT, decide_true, Bool.and_self], by simp only [tyCells, List.all_cons, List.all_nil, belowV, belowB, Bool.and_self, List.take_succ_cons, List.take_nil], i + 1, rfl, hlt, by rw [List.take_add_one, List.take_add_one, htk, hf, hg, hfg], rfl⟩
              · rw [eqb_false h7] at hrec
                exact eqReg_ty hf hg rfl h5 h6 false hrec (keepT (no fun e => h7 ((Fd.ext_iff f g).1 e).2.2))
            · exact eqReg_opt hf hg rfl h5 h6 (keepT (no fun e => h6 ((Fd.ext_iff f g).1 e).2.1))
          · exact eqReg_name hf hg rfl h5 (keepT (no fun e => h5 ((Fd.ext_iff f g).1 e).1))
        · have hd := ge_dec hlt
          refine tri_seq_region tt_ok fun K hK => ?_
          simp only [length_encFds, hd, runOps, stepOp, wantedV, opV, St.eval, St.put, if_true, if_false, List.length_cons, List.length_nil, List.set_cons_zero, List.set_cons_succ, List.getD_cons_zero, List.getD_cons_succ, tElem, List.map_nil, List.map_cons, fieldV, tOff, fieldAt, loadV, pickCells, List.drop_zero, List.drop_succ_cons, List.take_succ_cons, List.take_zero, List.getElem?_cons_zero, List.getElem?_cons_succ, List.head?_cons, Nat.zero_add, Nat.le_refl, Bool.false_eq_true, lenV, ev_lss, List.getElem?_toArray, nilLen, ev_len1, gnCmp, tt23, tt25]
          refine hK _ ?_
          clear hK K
          refine tri_cond rfl (tri_exit ?_)
          have hie : i = t.flds.length := by omega
          subst hie
          show Tri _ _ _ _ _ _
          refine tri_seq_region tt_ok fun K hK => ?_
          simp only [runOps, stepOp, wantedV, opV, St.eval, St.put, if_true, if_false, List.length_cons, List.length_nil, List.nil_append, List.append_nil, List.set_cons_zero, List.set_cons_succ, List.getD_cons_zero, List.getD_cons_succ, List.map_nil, List.map_cons, fieldV, tOff, fieldAt, loadV, pickCells, List.drop_zero, List.drop_succ_cons, List.take_succ_cons, List.take_zero, List.getElem?_cons_zero, List.getElem?_cons_succ, List.head?_cons, Nat.zero_add, Nat.reduceAdd, Nat.reduceLeDiff, Bool.false_eq_true, calleeOf, tt22, tt25]
          refine .inl ⟨_, _, by simp only [purL, pur1, purCell], hA, ?_⟩
          try simp only [St.put, List.append_nil, List.set_cons_zero, List.set_cons_succ, List.getD_cons_zero, List.getD_cons_succ, memAfter_nil, List.flatMap_cons, List.flatMap_nil, ref1, refCell]
          refine hK _ ?_
          clear hK K
          refine tri_ret ⟨.inl rfl, ?_⟩
          have hfl : t.flds = u.flds := by
            rw [List.take_length] at htk
            rw [htk, h4, List.take_length]
          by_cases h8 : t.args = u.args
          · rw [eqb_true h8, eqb_true ((Ty.ext_iff t u).2 ⟨h1, h2, h3, h8, hfl⟩)]; rfl
          · rw [eqb_false h8, eqb_false fun e => h8 ((Ty.ext_iff t u).1 e).2.2.2.1]; rfl
    · have fin : ∀ x, x = false → eqb t u = x := fun x hx => by
        rw [hx]
        refine eqb_false fun e => hall ?_
        obtain ⟨h1, h2, h3, -, h5⟩ := (Ty.ext_iff t u).1 e
        exact ⟨h1, h2, h3, by rw [h5]⟩
      rw [fin false rfl]
      have no : decide (t.kind = u.kind) = true → eqb t.mod u.mod = true → eqb t.name u.name = true → decide ((t.flds.length : Int) = (u.flds.length : Int)) = true → False := fun a b c d =>
        hall ⟨of_decide_eq_true a, eqb_iff.1 b, eqb_iff.1 c, by have := of_decide_eq_true d; omega⟩
      cases d1 : decide (t.kind = u.kind) with
      | false =>
        refine tri_seq_region tt_ok fun K hK => ?_
        simp only [d1, runOps, stepOp, wantedV, opV, St.eval, St.put, absV, if_true, if_false, List.length_cons, List.length_nil, List.set_cons_zero, List.set_cons_succ, List.getD_cons_zero, List.getD_cons_succ, fieldV, tOff, fieldAt, loadV, pickCells, List.drop_zero, List.take_succ_cons, List.take_zero, List.getElem?_cons_zero, List.getElem?_cons_succ, List.head?_cons, Nat.zero_add, Nat.add_zero, Nat.reduceAdd, Nat.reduceLeDiff, Bool.false_eq_true, ev_neq, Option.bind_some, List.getElem?_toArray, Bool.not_false, nilLen, ev_tf, gnCmp, tt3, tt25]
        refine hK _ ?_
        clear hK K
        refine tri_cond rfl ?_
        refine tri_seq_region tt_ok fun K hK => ?_
        simp only [runOps, stepOp, wantedV, opV, St.eval, St.put, absV, List.set_cons_zero, List.set_cons_succ]
        refine hK _ ?_
        clear hK K
        exact tri_ret ⟨.inl rfl, rfl⟩
      | true =>
        cases d2 : eqb t.mod u.mod with
        | false =>
          rw [d2] at e2
          refine tri_seq_region tt_ok fun K hK => ?_
          simp only [d1, e2, runOps, stepOp, wantedV, opV, St.eval, St.put, absV, if_true, if_false, List.length_cons, List.length_nil, List.set_cons_zero, List.set_cons_succ, List.getD_cons_zero, List.getD_cons_succ, fieldV, tOff, fieldAt, loadV, pickCells, List.drop_zero, List.drop_succ_cons, List.take_succ_cons, List.take_zero, List.getElem?_cons_zero, List.getElem?_cons_succ, List.head?_cons, Nat.zero_add, Nat.add_zero, Nat.reduceAdd, Nat.reduceLeDiff, Bool.false_eq_true, ev_neq, ev_sneq, Option.bind_some, List.getElem?_toArray, beq_self_eq_true, Bool.not_true, Bool.not_false, nilLen, ev_tf, gnCmp, tt3, tt9, tt25]
          refine hK _ ?_
          clear hK K
          refine tri_cond rfl ?_
          refine tri_seq_region tt_ok fun K hK => ?_
          simp only [runOps, stepOp, wantedV, opV, St.eval, St.put, absV, List.set_cons_zero, List.set_cons_succ]
          refine hK _ ?_
          clear hK K
          exact tri_ret ⟨.inl rfl, rfl⟩
        | true =>
          rw [d2] at e2
          cases d3 : eqb t.name u.name with
          | false =>
            rw [d3] at e3
            refine tri_seq_region tt_ok fun K hK => ?_
            simp only [d1, e2, e3, runOps, stepOp, wantedV, opV, St.eval, St.put, absV, if_true, if_false, List.length_cons, List.length_nil, List.set_cons_zero, List.set_cons_succ, List.getD_cons_zero, List.getD_cons_succ, fieldV, tOff, fieldAt, loadV, pickCells, List.drop_zero, List.drop_succ_cons, List.take_succ_cons, List.take_zero, List.getElem?_cons_zero, List.getElem?_cons_succ, List.head?_cons, Nat.zero_add, Nat.add_zero, Nat.reduceAdd, Nat.reduceLeDiff, Bool.false_eq_true, ev_neq, ev_sneq, Option.bind_some, List.getElem?_toArray, beq_self_eq_true, Bool.not_true, Bool.not_false, nilLen, ev_tf, gnCmp, tt3, tt9, tt25]
            refine hK _ ?_
            clear hK K
            refine tri_cond rfl ?_
            refine tri_seq_region tt_ok fun K hK => ?_
            simp only [runOps, stepOp, wantedV, opV, St.eval, St.put, absV, List.set_cons_zero, List.set_cons_succ]
            refine hK _ ?_
            clear hK K
            exact tri_ret ⟨.inl rfl, rfl⟩
          | true =>
            rw [d3] at e3
            cases d4 : decide ((t.flds.length : Int) = (u.flds.length : Int)) with
            | false =>
              refine tri_seq_region tt_ok fun K hK => ?_
              simp only [d1, e2, e3, d4, length_encFds, runOps, stepOp, wantedV, opV, St.eval, St.put, absV, if_true, if_false, List.length_cons, List.length_nil, List.set_cons_zero, List.set_cons_succ, List.getD_cons_zero, List.getD_cons_succ, tElem, List.map_nil, List.map_cons, fieldV, tOff, fieldAt, loadV, pickCells, List.drop_zero, List.drop_succ_cons, List.take_succ_cons, List.take_zero, List.getElem?_cons_zero, List.getElem?_cons_succ, List.head?_cons, Nat.zero_add, Nat.add_zero, Nat.reduceAdd, Nat.reduceLeDiff, Nat.le_refl, Bool.false_eq_true, lenV, ev_neq, ev_sneq, Option.bind_some, List.getElem?_toArray, beq_self_eq_true, Bool.not_true, Bool.not_false, nilLen, ev_len1, gnCmp, tt3, tt9, tt23, tt25]
              refine hK _ ?_
              clear hK K
              refine tri_cond rfl ?_
              refine tri_seq_region tt_ok fun K hK => ?_
              simp only [runOps, stepOp, wantedV, opV, St.eval, St.put, absV, List.set_cons_zero, List.set_cons_succ]
              refine hK _ ?_
              clear hK K
              exact tri_ret ⟨.inl rfl, rfl⟩
            | true => exact (no d1 d2 d3 d4).elim
end Go.Proofs.YtpjdfcigadnhcaaGreatDoor
end
