/-
  THE DATA of the language's trees, and the abstract values that stand for them.
  CONTRACTS: the reference's Parts, TypeSize, TypeDepth.
  CONTRACTS: slices.Clone; the parts of a type; the depth of a type.
  CONTRACTS: the depth of a type.
  CONTRACTS: the walk over a type's nodes.
  CONTRACTS: a range over a type's nodes.
  CONTRACTS: the size of a type.
  CONTRACTS: the walk over an expression's nodes.
  WEIGHTS: trees with their strings.
-/
import Derived.Test.YtpjdfcigadnhcaaGreatDoorE5
import Derived.IntWalk
set_option linter.all false
section
namespace Go.Proofs.YtpjdfcigadnhcaaGreatDoor
open Go.Eng
/-- Facts on literal lists, bundled. -/
theorem ltb : (∀ (α : Type) (l : List α), l.toArray.toList = l) ∧ (∀ (α : Type) (a b : List α), List.append a b = a ++ b) ∧ (∀ (α : Type) (a : α) (l r : List α), (a :: l) ++ r = a :: (l ++ r)) ∧ (∀ (α : Type) (l : List α), [] ++ l = l) ∧
    (∀ (α : Type) (n : Nat) (a : α) (l : List α), (a :: l).take (n + 1) = a :: l.take n) ∧ (∀ (α : Type) (l : List α), l.take 0 = []) ∧ (∀ (α : Type) (n : Nat) (a : α) (l : List α), (a :: l).drop (n + 1) = l.drop n) ∧ (∀ (α : Type) (l : List α), l.drop 0 = l) :=
  ⟨fun _ _ => rfl, fun _ _ _ => rfl, fun _ _ _ _ => rfl, fun _ _ => rfl, fun _ _ _ _ => rfl, fun _ _ => rfl, fun _ _ _ _ => rfl, fun _ _ => rfl⟩
/-- Lists by their runs. -/
def rp {α : Type} : Nat → α → List α → List α
  | 0, _, l => l
  | n + 1, a, l => a :: rp n a l
/-- Facts for frames, bundled. -/
theorem mwb : (∀ (α : Type) (n : Nat) (a : α) (l : List α), rp (n + 1) a l = a :: rp n a l) ∧ (∀ (α : Type) (a : α) (l : List α), rp 0 a l = l) ∧
    (∀ (ws : List (Nat × V)) (i : Nat) (cs : List Nat), mkW ws i cs [] = []) ∧ (∀ (ws : List (Nat × V)) (i : Nat) (v : V) (l : List V), mkW ws i [] (v :: l) = v :: l) ∧
    (∀ (ws : List (Nat × V)) (i : Nat) (cs : List Nat) (v : V) (l : List V), mkW ws i (0 :: cs) (v :: l) = v :: mkW ws (i + 1) cs l) ∧ (∀ (ws : List (Nat × V)) (i : Nat) (cs : List Nat) (v : V) (l : List V), mkW ws i (1 :: cs) (v :: l) = .undef :: mkW ws (i + 1) cs l) ∧
    (∀ (ws : List (Nat × V)) (i : Nat) (cs : List Nat) (v : V) (l : List V), mkW ws i (2 :: cs) (v :: l) = lkF i v ws :: mkW ws (i + 1) cs l) ∧ (∀ (t : Nat) (b : V), lkF t b [] = b) ∧ (∀ (t k : Nat) (b v : V) (ws : List (Nat × V)), lkF t b ((k, v) :: ws) = if k = t then v else lkF t b ws) ∧
    (∀ (α : Type) (h : Decidable True) (a b : α), @ite α True h a b = a) ∧ (∀ (α : Type) (h : Decidable False) (a b : α), @ite α False h a b = b) :=
  ⟨fun _ _ _ _ => rfl, fun _ _ _ => rfl, fun _ _ cs => by cases cs <;> rfl, fun _ _ _ _ => rfl, fun _ _ _ _ _ => rfl, fun _ _ _ _ _ => rfl, fun _ _ _ _ _ => rfl, fun _ _ => rfl, fun _ _ _ _ _ => rfl, fun _ _ _ _ => if_pos trivial, fun _ _ _ _ => if_neg id⟩
/-- Facts for masks, bundled. -/
theorem mkb : (∀ (α : Type) (h : Decidable True) (a b : α), @ite α True h a b = a) ∧ (∀ (α : Type) (h : Decidable False) (a b : α), @ite α False h a b = b) ∧ ((false = true) = False) ∧ (∀ (α : Type) (p : α → Bool) (a : α) (l : List α), (a :: l).all p = (p a && l.all p)) ∧
    (∀ (α : Type) (p : α → Bool), ([] : List α).all p = true) ∧ (∀ h : Decidable True, @decide True h = true) ∧ (∀ b : Bool, (b && b) = b) ∧ (∀ (α : Type) (n : Nat) (a : α) (l : List α), (a :: l).take (n + 1) = a :: l.take n) ∧ (∀ (α : Type) (l : List α), l.take 0 = []) ∧ (∀ (α : Type) (n : Nat), ([] : List α).take n = []) ∧ (∀ (α : Type) (n : Nat) (a : α) (l : List α), rp (n + 1) a l = a :: rp n a l) ∧ (∀ (α : Type) (a : α) (l : List α), rp 0 a l = l) :=
  ⟨fun _ _ _ _ => if_pos trivial, fun _ _ _ _ => if_neg id, by simp, fun _ _ _ _ => List.all_cons, fun _ _ => rfl, fun _ => decide_eq_true trivial, fun b => by cases b <;> rfl, fun _ _ _ _ => rfl, fun _ _ => rfl, fun _ _ => List.take_nil, fun _ _ _ _ => rfl, fun _ _ _ => rfl⟩
end Go.Proofs.YtpjdfcigadnhcaaGreatDoor
end

section
namespace Go.Proofs.YtpjdfcigadnhcaaGreatDoor
open Go.Eng
variable [Glob]
mutual
inductive Ty where
 | mk (kind : Int) (mod name : ByteArray) (args : List Ty) (flds : List Fd)
inductive Fd where
 | mk (name : ByteArray) (ty : Ty) (opt : Bool)
end
structure Lb where
 name : ByteArray
 var : ByteArray
 ty : Ty
 opt : Bool
inductive Ex where
 | mk (kind : Int) (mod name text : ByteArray) (num : Int) (types : List Ty) (labels : List Lb) (kids : List Ex)
structure Pm where
 name : ByteArray
 variance : Int
 bound : Ty
structure Im where
 path : ByteArray
 alias : ByteArray
structure Dc where
 kind : Int
 name : ByteArray
 exported : Bool
 deprecated : Bool
 note : ByteArray
 params : List Pm
 lower : Ty
 upper : Ty
 type : Ty
 expr : Ex
 mod : ByteArray
 target : ByteArray
structure Md where
 path : ByteArray
 imports : List Im
 decls : List Dc

abbrev str (s : ByteArray) : V := .sc (.string s)
abbrev num (n : Int) : V := .sc (.int .i64 n)
abbrev bl (b : Bool) : V := .sc (.bool b)
mutual
def encTy : Ty → V
 | .mk k m n ts fs => .agg [.sc (.int .i64 k), .sc (.string m), .sc (.string n), .slice (encTys ts), .slice (encFds fs)]
def encTys : List Ty → List V
 | [] => []
 | t :: r => encTy t :: encTys r
def encFd : Fd → V
 | .mk n (.mk k m n' ts fs) o => .agg [.sc (.string n), .sc (.int .i64 k), .sc (.string m), .sc (.string n'), .slice (encTys ts), .slice (encFds fs), .sc (.bool o)]
def encFds : List Fd → List V
 | [] => []
 | f :: r => encFd f :: encFds r
end
def Fd.ty : Fd → Ty | .mk _ t _ => t
def Fd.name : Fd → ByteArray | .mk n _ _ => n
def Fd.opt : Fd → Bool | .mk _ _ o => o
def Ty.flds : Ty → List Fd | .mk _ _ _ _ fs => fs
def Ty.args : Ty → List Ty | .mk _ _ _ ts _ => ts
def Ty.kind : Ty → Int | .mk k _ _ _ _ => k
def Ty.mod : Ty → ByteArray | .mk _ m _ _ _ => m
def Ty.name : Ty → ByteArray | .mk _ _ n _ _ => n
def Ty.parts (t : Ty) : List Ty := t.args ++ t.flds.map Fd.ty
def tyCells (t : Ty) : List V := [.sc (.int .i64 t.kind), .sc (.string t.mod), .sc (.string t.name), .slice (encTys t.args), .slice (encFds t.flds)]
theorem encTy_eq (t : Ty) : encTy t = .agg (tyCells t) := by obtain ⟨k, m, n, ts, fs⟩ := t; rfl
theorem encTys_map (ts : List Ty) : encTys ts = ts.map encTy := by induction ts with | nil => rfl | cons t r ih => simp [encTys, ih]
theorem encFds_map (ts : List Fd) : encFds ts = ts.map encFd := by induction ts with | nil => rfl | cons t r ih => simp [encFds, ih]
theorem encFd_eq (f : Fd) : encFd f = .agg ([str f.name] ++ tyCells f.ty ++ [bl f.opt]) := by obtain ⟨n', ⟨k, m, n, ts, fs⟩, o⟩ := f; rfl
def Ex.kind : Ex → Int | .mk k _ _ _ _ _ _ _ => k
def Ex.mod : Ex → ByteArray | .mk _ m _ _ _ _ _ _ => m
def Ex.name : Ex → ByteArray | .mk _ _ n _ _ _ _ _ => n
def Ex.text : Ex → ByteArray | .mk _ _ _ t _ _ _ _ => t
def Ex.types : Ex → List Ty | .mk _ _ _ _ _ ts _ _ => ts
def Ex.labels : Ex → List Lb | .mk _ _ _ _ _ _ ls _ => ls
def Ex.kids : Ex → List Ex | .mk _ _ _ _ _ _ _ ks => ks
theorem len_encTy (t : Ty) : (encTy t).cells.length = 5 := by rw [encTy_eq]; rfl
theorem len_encFd (t : Fd) : (encFd t).cells.length = 7 := by rw [encFd_eq]; rfl
theorem first_ty (ts : List Ty) (n : Nat) : firstOk (encTys ts) n 5 = true := by
 rw [encTys_map]; unfold firstOk; split
 ·rename_i h; simp at h; obtain ⟨t, -, rfl⟩ := h; simp [len_encTy]
 ·rfl
theorem length_encTys (ts : List Ty) : (encTys ts).length = ts.length := by simp [encTys_map]
theorem length_encFds (ts : List Fd) : (encFds ts).length = ts.length := by simp [encFds_map]
theorem get_encTys (ts : List Ty) (i : Nat) : (encTys ts)[i]? = ts[i]?.map encTy := by simp [encTys_map]
theorem get_encFds (ts : List Fd) (i : Nat) : (encFds ts)[i]? = ts[i]?.map encFd := by simp [encFds_map]

mutual
def Ty.size : Ty → Nat
 | .mk _ _ _ ts fs => 1 + sizeTys ts + sizeFds fs
def sizeTys : List Ty → Nat
 | [] => 0
 | t :: r => t.size + sizeTys r
def Fd.size : Fd → Nat
 | .mk _ (.mk _ _ _ ts fs) _ => 1 + sizeTys ts + sizeFds fs
def sizeFds : List Fd → Nat
 | [] => 0
 | f :: r => f.size + sizeFds r
end
theorem Fd.size_ty (f : Fd) : f.size = f.ty.size := by obtain ⟨n', ⟨k, m, n, ts, fs⟩, o⟩ := f; rfl
def sumBy {α : Type} (g : α → Nat) : List α → Nat
 | [] => 0
 | a :: r => g a + sumBy g r
theorem sumBy_append {α : Type} (g : α → Nat) (a b : List α) : sumBy g (a ++ b) = sumBy g a + sumBy g b := by induction a with | nil => simp [sumBy] | cons x r ih => simp [sumBy, ih]; omega
theorem sumBy_map {α β : Type} (g : β → Nat) (h : α → β) (a : List α) : sumBy g (a.map h) = sumBy (fun x => g (h x)) a := by induction a with | nil => rfl | cons x r ih => simp [sumBy, ih]
theorem sizeTys_sum (ts : List Ty) : sizeTys ts = sumBy Ty.size ts := by induction ts with | nil => rfl | cons t r ih => simp [sizeTys, sumBy, ih]
theorem sizeFds_sum (ts : List Fd) : sizeFds ts = sumBy (fun f => f.ty.size) ts := by induction ts with | nil => rfl | cons t r ih => simp [sizeFds, sumBy, ih, Fd.size_ty]
theorem Ty.size_parts (t : Ty) : t.size = 1 + sumBy Ty.size t.parts := by
 obtain ⟨k, m, n, ts, fs⟩ := t
 simp only [Ty.size,Ty.parts,Ty.args,Ty.flds,sumBy_append,sumBy_map,sizeTys_sum,sizeFds_sum]; omega
theorem sumBy_take_succ {α : Type} (g : α → Nat) {l : List α} {i : Nat} {a : α} (h : l[i]? = some a) : sumBy g (l.take (i + 1)) = sumBy g (l.take i) + g a := by
 rw [List.take_add_one, h, sumBy_append]; simp [sumBy]
theorem sumBy_take_le {α : Type} (g : α → Nat) (l : List α) (i : Nat) : sumBy g (l.take i) ≤ sumBy g l := by
 conv => rhs; rw [← List.take_append_drop i l, sumBy_append]
 omega
theorem sumBy_mem {α : Type} (g : α → Nat) {l : List α} {i : Nat} {a : α} (h : l[i]? = some a) : g a ≤ sumBy g l := by
 have := sumBy_take_succ g h; have := sumBy_take_le g l (i + 1); omega
theorem Ty.size_pos (t : Ty) : 0 < t.size := by rw [Ty.size_parts]; omega
theorem length_le_sum {α : Type} (g : α → Nat) (hg : ∀ a, 0 < g a) (l : List α) : l.length ≤ sumBy g l := by
 induction l with
 | nil => simp
 | cons a r ih => simp [sumBy]; have := hg a; omega
theorem Ty.parts_length (t : Ty) : t.args.length + t.flds.length < t.size := by
 have := length_le_sum Ty.size Ty.size_pos t.parts
 rw [Ty.size_parts]
 simp only [Ty.parts,List.length_append,List.length_map] at this
 simp only [Ty.parts]; omega
theorem i64_nat (n : Nat) (h : n ≤ 1152921504606846976) : IntKind.i64.wrap (n : Int) = n := by rw [IntWalk.i64_in _ (by omega)]
theorem i64_add (a b : Nat) (h : a + b ≤ 1152921504606846976) : IntKind.i64.wrap ((a : Int) + (b : Int)) = ((a + b : Nat) : Int) := by rw [IntWalk.i64_in _ (by omega)]; omega
theorem i64_succ (a : Nat) (h : a + 1 ≤ 1152921504606846976) : IntKind.i64.wrap ((a : Int) + 1) = ((a + 1 : Nat) : Int) := by rw [IntWalk.i64_in _ (by omega)]; omega
theorem i64_c (x : Int) (n : Nat) (h : x = n) (hb : n ≤ 1152921504606846976) : IntKind.i64.wrap x = (n : Int) := by rw [h, i64_nat n hb]
theorem lt_dec {a b : Nat} (h : a < b) : decide ((a : Int) < (b : Int)) = true := by simpa using h
theorem ge_dec {a b : Nat} (h : ¬ a < b) : decide ((a : Int) < (b : Int)) = false := by simpa using h
end Go.Proofs.YtpjdfcigadnhcaaGreatDoor
end

section
namespace Go.Proofs.YtpjdfcigadnhcaaGreatDoor
open Go.Eng
open Nat (reduceAdd reduceLT reduceLeDiff reduceMul reduceEqDiff reduceSub)
variable [Glob]

theorem parts_ok (t : Ty) (hl : t.args.length + t.flds.length ≤ 34359738368) : FnOk Tryz.prog 21 [encTy t] (.slice (encTys t.parts)) := by
 obtain ⟨k, m, n, ts, fs⟩ := t
 simp only [Ty.args,Ty.flds] at hl
 have hl1 : ts.length ≤ 34359738368 := by omega
 refine fn_ok tt_ok (fn := Tryz.f21) Tryz.func21 rfl Tryz.call21 ?_
 simp only [ltb,startSt,Tryz.ntmps21,List.length_cons,List.length_nil,reduceAdd,reduceSub,List.replicate_succ,List.replicate_zero]
 refine tri_seq_region tt_ok fun K hK => ?_
 simp only [encTy,go_sem,reduceIte,reduceAdd,reduceLT,reduceLeDiff,reduceMul,reduceEqDiff,reduceSub,reduceCtorEq]
 refine hK _ ?_
 refine tri_seq_region tt_ok fun K hK => ?_
 simp only [first_ty,length_encTys,hl1,go_sem,reduceIte,reduceAdd,reduceLT,reduceLeDiff,reduceMul,reduceEqDiff,reduceSub,reduceCtorEq]
 refine hK _ ?_
 refine tri_seq ?_
 refine tri_seq_region tt_ok fun K hK => ?_
 simp only [go_sem,reduceIte,reduceAdd,reduceLT,reduceLeDiff,reduceMul,reduceEqDiff,reduceSub,reduceCtorEq]
 refine hK _ ?_
 refine tri_block (tri_loop_inv (fun N st => ∃ (i ver : Nat) (acc : List Ty), N = fs.length - i ∧ i ≤ fs.length ∧ acc = ts ++ (fs.take i).map Fd.ty ∧
  st = { fr := [encTy (.mk k m n ts fs), .ptr 0 0, .undef, .ms 1 ver 0 acc.length, .sc (.int .i64 i)] ++ List.replicate 21 .undef, mem := [.box (encTy (.mk k m n ts fs)).cells, .rows ver 5 (encTys acc)] }) fs.length ?_ ?_)
 ·exact ⟨2, [true,true,false,true,true], by omega, by simp only [maskFr,belowV,belowL,belowB,reduceLT,mkb], by simp only [maskFr,belowV,belowL,belowB,reduceLT,mkb], 0, 1, ts, by omega, by omega, by simp, rfl⟩
 ·rintro N st ⟨i, ver, acc, rfl, hi, hacc, rfl⟩
  have hal : acc.length ≤ 34359738367 ∨ i = fs.length := by
   rw [hacc]; simp; omega
  simp only [ltb,List.replicate_succ,List.replicate_zero,encTy,V.cells]
  refine tri_seq ?_
  by_cases hlt : i < fs.length
  ·have hd := lt_dec hlt
   have hal' : acc.length ≤ 34359738367 := by omega
   refine tri_seq_region tt_ok fun K hK => ?_
   simp only [length_encFds,hd,go_sem,reduceIte,reduceAdd,reduceLT,reduceLeDiff,reduceMul,reduceEqDiff,reduceSub,reduceCtorEq]
   refine hK _ ?_
   refine tri_cond rfl (tri_skip ?_)
   refine tri_seq (tri_block ?_)
   obtain ⟨f, hf⟩ : ∃ f, fs[i]? = some f := ⟨_, List.getElem?_eq_getElem hlt⟩
   have hft : (fs.take (i + 1)).map Fd.ty = (fs.take i).map Fd.ty ++ [f.ty] := by
    rw [List.take_add_one, hf]; simp
   obtain ⟨fnm, ⟨fk, fm, fn, fts, ffs⟩, fo⟩ := f
   refine tri_last_region tt_ok fun K hK => ?_
   simp only [get_encFds,hf,encFd,length_encTys,hal',go_sem,reduceIte,reduceAdd,reduceLT,reduceLeDiff,reduceMul,reduceEqDiff,reduceSub,reduceCtorEq]
   refine hK _ ?_
   refine tri_last_region tt_ok fun K hK => ?_
   simp only [go_sem,reduceIte,reduceAdd,reduceLT,reduceLeDiff,reduceMul,reduceEqDiff,reduceSub,reduceCtorEq]
   refine hK _ ?_
   refine ⟨fs.length - (i + 1), by omega, 2, [true,true,false,true,true], by omega, by simp only [maskFr,belowV,belowL,belowB,reduceLT,mkb], by simp only [maskFr,belowV,belowL,belowB,reduceLT,mkb], i + 1, ver + 1, acc ++ [.mk fk fm fn fts ffs], rfl, hlt, by rw [hacc, hft]; simp [Fd.ty], ?_⟩
   have hw : IntKind.i64.wrap ((i : Int) + 1) = ((i + 1 : Nat) : Int) := i64_succ i (by omega)
   rw [hw]
   simp [rp,maskFr, encTys_map, encTy]
  ·have hd := ge_dec hlt
   refine tri_seq_region tt_ok fun K hK => ?_
   simp only [length_encFds,hd,go_sem,reduceIte,reduceAdd,reduceLT,reduceLeDiff,reduceMul,reduceEqDiff,reduceSub,reduceCtorEq]
   refine hK _ ?_
   refine tri_cond rfl (tri_exit ?_)
   have hie : i = fs.length := by omega
   subst hie
   show Tri _ _ _ _ _ _
   refine tri_seq_region tt_ok fun K hK => ?_
   simp only [go_sem,reduceIte,reduceAdd,reduceLT,reduceLeDiff,reduceMul,reduceEqDiff,reduceSub,reduceCtorEq]
   refine hK _ ?_
   refine tri_ret ⟨.inl rfl, ?_⟩
   rw [List.take_length] at hacc
   have hr : encTys (Ty.mk k m n ts fs).parts = encTys acc := by rw [hacc]; rfl
   rw [hr]
   simp [retV, resL, resV, Tryz.f21, pur, pur1, purCell, length_encTys]
   rw [← length_encTys]; simp

theorem tsize_ok : ∀ (N : Nat) (t : Ty), t.size ≤ N → N ≤ 1048576 → FnOk Tryz.prog 15 [encTy t] (num t.size) := by
 intro N
 induction N with
 | zero => intro t h; have := t.size_pos; omega
 | succ N ih =>
  intro t hN hb
  have hpl := t.parts_length
  have hps := t.size_parts
  have hpn := length_le_sum Ty.size Ty.size_pos t.parts
  have hp := parts_ok t (by omega)
  refine fn_ok tt_ok (fn := Tryz.f15) Tryz.func15 rfl Tryz.call15 ?_
  simp only [ltb,startSt,Tryz.ntmps15,List.length_cons,List.length_nil,reduceAdd,reduceSub,List.replicate_succ,List.replicate_zero]
  rw [encTy_eq] at hp ⊢
  simp only [tyCells] at hp ⊢
  refine tri_seq_region tt_ok fun K hK => ?_
  simp only [go_sem,reduceIte,reduceAdd,reduceLT,reduceLeDiff,reduceMul,reduceEqDiff,reduceSub,reduceCtorEq]
  refine hK _ ?_
  refine tri_seq_region tt_ok fun K hK => ?_
  simp only [go_sem,reduceIte,reduceAdd,reduceLT,reduceLeDiff,reduceMul,reduceEqDiff,reduceSub,reduceCtorEq]
  refine hK _ ?_
  refine tri_seq_region tt_ok fun K hK => ?_
  simp only [go_sem,reduceIte,reduceAdd,reduceLT,reduceLeDiff,reduceMul,reduceEqDiff,reduceSub,reduceCtorEq]
  refine .inl ⟨_, _, by simp only [go_sem,reduceIte,reduceAdd,reduceLT,reduceLeDiff,reduceMul,reduceEqDiff,reduceSub,reduceCtorEq,List.take_length], hp, ?_⟩
  try simp only [go_sem,reduceIte,reduceAdd,reduceLT,reduceLeDiff,reduceMul,reduceEqDiff,reduceSub,reduceCtorEq]
  refine hK _ ?_
  refine tri_seq ?_
  refine tri_seq_region tt_ok fun K hK => ?_
  simp only [go_sem,reduceIte,reduceAdd,reduceLT,reduceLeDiff,reduceMul,reduceEqDiff,reduceSub,reduceCtorEq]
  refine hK _ ?_
  obtain ⟨ps, hps'⟩ : ∃ ps, ps = t.parts := ⟨_, rfl⟩
  rw [← hps'] at hps hpn ⊢
  refine tri_block (tri_loop_inv (fun N st => ∃ (i : Nat), N = ps.length - i ∧ i ≤ ps.length ∧
   st = { fr := [.undef, .undef, .undef, num ((1 + sumBy Ty.size (ps.take i) : Nat)), .slice (encTys ps), num i] ++ List.replicate 16 .undef, mem := [] }) ps.length ?_ ?_)
  ·exact ⟨0, [false,false,false,true,true,true], by omega, by simp only [maskFr,belowV,belowL,belowB,reduceLT,mkb], by simp only [maskFr,belowV,belowL,belowB,reduceLT,mkb], 0, by omega, by omega, rfl⟩
  ·rintro N st ⟨i, rfl, hi, rfl⟩
   simp only [ltb,List.replicate_succ,List.replicate_zero]
   refine tri_seq ?_
   by_cases hlt : i < ps.length
   ·have hd := lt_dec hlt
    refine tri_seq_region tt_ok fun K hK => ?_
    simp only [length_encTys,hd,go_sem,reduceIte,reduceAdd,reduceLT,reduceLeDiff,reduceMul,reduceEqDiff,reduceSub,reduceCtorEq]
    refine hK _ ?_
    refine tri_cond rfl (tri_skip ?_)
    refine tri_seq (tri_block ?_)
    obtain ⟨u, hu⟩ : ∃ u, ps[i]? = some u := ⟨_, List.getElem?_eq_getElem hlt⟩
    have hus := sumBy_mem Ty.size hu
    have hts := sumBy_take_succ Ty.size hu
    have htl := sumBy_take_le Ty.size ps (i + 1)
    have hrec := ih u (by omega) (by omega)
    rw [encTy_eq] at hrec
    simp only [tyCells] at hrec
    refine tri_last_region tt_ok fun K hK => ?_
    simp only [get_encTys,hu,encTy_eq,tyCells,go_sem,reduceIte,reduceAdd,reduceLT,reduceLeDiff,reduceMul,reduceEqDiff,reduceSub,reduceCtorEq]
    refine .inl ⟨_, _, by simp only [go_sem,reduceIte,reduceAdd,reduceLT,reduceLeDiff,reduceMul,reduceEqDiff,reduceSub,reduceCtorEq,List.take_length], hrec, ?_⟩
    try simp only [go_sem,reduceIte,reduceAdd,reduceLT,reduceLeDiff,reduceMul,reduceEqDiff,reduceSub,reduceCtorEq]
    refine hK _ ?_
    have hw : IntKind.i64.wrap (((1 + sumBy Ty.size (ps.take i) : Nat) : Int) + (u.size : Int)) = ((1 + sumBy Ty.size (ps.take (i + 1)) : Nat) : Int) := by rw [i64_add _ _ (by omega)]; congr 1; omega
    rw [hw]
    refine tri_last_region tt_ok fun K hK => ?_
    simp only [go_sem,reduceIte,reduceAdd,reduceLT,reduceLeDiff,reduceMul,reduceEqDiff,reduceSub,reduceCtorEq]
    refine hK _ ?_
    have hw2 := i64_succ i (by omega)
    rw [hw2]
    exact ⟨ps.length - (i + 1), by omega, 0, [false,false,false,true,true,true], by omega, by simp only [maskFr,belowV,belowL,belowB,reduceLT,mkb], by simp only [maskFr,belowV,belowL,belowB,reduceLT,mkb], i + 1, rfl, hlt, by simp [rp,maskFr]⟩
   ·have hd := ge_dec hlt
    refine tri_seq_region tt_ok fun K hK => ?_
    simp only [length_encTys,hd,go_sem,reduceIte,reduceAdd,reduceLT,reduceLeDiff,reduceMul,reduceEqDiff,reduceSub,reduceCtorEq]
    refine hK _ ?_
    refine tri_cond rfl (tri_exit ?_)
    have hie : i = ps.length := by omega
    subst hie
    show Tri _ _ _ _ _ _
    refine tri_seq_region tt_ok fun K hK => ?_
    simp only [go_sem,reduceIte,reduceAdd,reduceLT,reduceLeDiff,reduceMul,reduceEqDiff,reduceSub,reduceCtorEq]
    refine hK _ ?_
    refine tri_ret ⟨.inl rfl, ?_⟩
    rw [List.take_length, ← hps]
    simp [retV, resL, resV, Tryz.f15, pur, pur1, purCell, nilS]
end Go.Proofs.YtpjdfcigadnhcaaGreatDoor
end

section
namespace Go.Proofs.YtpjdfcigadnhcaaGreatDoor
open Go.Eng
open Nat (reduceAdd reduceLT reduceLeDiff reduceMul reduceEqDiff reduceSub)
variable [Glob]

theorem cloneTy_ok (rows : List V) (h1 : firstOk rows 0 5 = true) (hl : rows.length ≤ 34359738368) : FnOkS Tryz.prog 61 [.slice rows] [] (.ms 0 1 0 rows.length) [.rows 1 5 rows] := by
 refine fns_ok tt_ok (fn := Tryz.f61) 1 (by simp) Tryz.func61 rfl Tryz.call61 ?_
 simp only [ltb,startSt,Tryz.ntmps61,List.length_cons,List.length_nil,reduceAdd,reduceSub,List.replicate_succ,List.replicate_zero]
 refine tri_seq_region tt_ok fun K hK => ?_
 simp only [go_sem,reduceIte,reduceAdd,reduceLT,reduceLeDiff,reduceMul,reduceEqDiff,reduceSub,reduceCtorEq]
 refine hK _ ?_
 refine tri_seq ?_
 refine tri_seq_region tt_ok fun K hK => ?_
 simp only [go_sem,reduceIte,reduceAdd,reduceLT,reduceLeDiff,reduceMul,reduceEqDiff,reduceSub,reduceCtorEq]
 intro b hb
 refine hK _ ?_
 cases b with
 | true =>
  have h0 : rows = [] := by
   cases rows with
   | nil => rfl
   | cons a r => have := hb (by simp); cases this
  subst h0
  refine tri_cond rfl ?_
  refine tri_seq_region tt_ok fun K hK => ?_
  simp only [go_sem,reduceIte,reduceAdd,reduceLT,reduceLeDiff,reduceMul,reduceEqDiff,reduceSub,reduceCtorEq]
  refine hK _ ?_
  refine tri_nilMs 2 1 5 rfl ?_
  exact tri_ret ⟨.inl rfl, rfl, rfl, rfl, rfl⟩
 | false =>
  refine tri_cond rfl (tri_skip ?_)
  show Tri _ _ _ _ _ _
  refine tri_seq_region tt_ok fun K hK => ?_
  simp only [h1,hl,go_sem,reduceIte,reduceAdd,reduceLT,reduceLeDiff,reduceMul,reduceEqDiff,reduceSub,reduceCtorEq]
  refine hK _ ?_
  refine tri_ret ⟨.inl rfl, ?_⟩
  simp [resOne, resL, resV, Tryz.f61, belowV, belowB, belowL]

theorem sparts_ok (t : Ty) (hl : t.args.length + t.flds.length ≤ 34359738368) : FnOk Tryz.prog 52 [encTy t] (.slice (encTys t.parts)) := by
 obtain ⟨k, m, n, ts, fs⟩ := t
 simp only [Ty.args,Ty.flds] at hl
 have hl1 : ts.length ≤ 34359738368 := by omega
 refine fn_ok tt_ok (fn := Tryz.f52) Tryz.func52 rfl Tryz.call52 ?_
 simp only [ltb,startSt,Tryz.ntmps52,List.length_cons,List.length_nil,reduceAdd,reduceSub,List.replicate_succ,List.replicate_zero]
 refine tri_seq_region tt_ok fun K hK => ?_
 simp only [encTy,go_sem,reduceIte,reduceAdd,reduceLT,reduceLeDiff,reduceMul,reduceEqDiff,reduceSub,reduceCtorEq]
 refine hK _ ?_
 refine tri_seq_region tt_ok fun K hK => ?_
 simp only [encTy,go_sem,reduceIte,reduceAdd,reduceLT,reduceLeDiff,reduceMul,reduceEqDiff,reduceSub,reduceCtorEq]
 refine .inr <| .inl ⟨_, _, FnOkS.live (by simp only [encTy,length_encTys,go_sem,reduceIte,reduceAdd,reduceLT,reduceLeDiff,reduceMul,reduceEqDiff,reduceSub,reduceCtorEq,List.take_length]) (cloneTy_ok (encTys ts) (first_ty ts 0) (by rw [length_encTys]; exact hl1)) rfl _, ?_⟩
 try simp only [encTy,length_encTys,go_sem,reduceIte,reduceAdd,reduceLT,reduceLeDiff,reduceMul,reduceEqDiff,reduceSub,reduceCtorEq]
 refine hK _ ?_
 refine tri_seq ?_
 refine tri_seq_region tt_ok fun K hK => ?_
 simp only [length_encFds,go_sem,reduceIte,reduceAdd,reduceLT,reduceLeDiff,reduceMul,reduceEqDiff,reduceSub,reduceCtorEq]
 refine hK _ ?_
 refine tri_block (tri_loop_inv (fun N st => ∃ (i ver : Nat) (acc : List Ty), N = fs.length - i ∧ i ≤ fs.length ∧ acc = ts ++ (fs.take i).map Fd.ty ∧
  st = { fr := [.undef, .ptr 0 0, .undef, .ms 1 ver 0 acc.length, .undef, .undef, .undef, .undef, .undef, .undef, .slice (encFds fs), num fs.length, num i] ++ List.replicate 10 .undef, mem := [.box (encTy (.mk k m n ts fs)).cells, .rows ver 5 (encTys acc)] }) fs.length ?_ ?_)
 ·exact ⟨2, [false,true,false,true,false,false,false,false,false,false,true,true,true], by omega, by simp only [maskFr,belowV,belowL,belowB,reduceLT,mkb], by simp only [maskFr,belowV,belowL,belowB,reduceLT,mkb], 0, 1, ts, by omega, by omega, by simp, rfl⟩
 ·rintro N st ⟨i, ver, acc, rfl, hi, hacc, rfl⟩
  have hal : acc.length ≤ 34359738367 ∨ i = fs.length := by
   rw [hacc]; simp; omega
  simp only [ltb,List.replicate_succ,List.replicate_zero,encTy,V.cells]
  by_cases hlt : i < fs.length
  ·have hd := lt_dec hlt
   have hal' : acc.length ≤ 34359738367 := by omega
   refine tri_seq_region tt_ok fun K hK => ?_
   simp only [length_encFds,hd,go_sem,reduceIte,reduceAdd,reduceLT,reduceLeDiff,reduceMul,reduceEqDiff,reduceSub,reduceCtorEq]
   refine hK _ ?_
   refine tri_seq (tri_cond rfl (tri_skip ?_))
   refine tri_seq (tri_block ?_)
   obtain ⟨f, hf⟩ : ∃ f, fs[i]? = some f := ⟨_, List.getElem?_eq_getElem hlt⟩
   have hft : (fs.take (i + 1)).map Fd.ty = (fs.take i).map Fd.ty ++ [f.ty] := by
    rw [List.take_add_one, hf]; simp
   obtain ⟨fnm, ⟨fk, fm, fn, fts, ffs⟩, fo⟩ := f
   refine tri_seq_region tt_ok fun K hK => ?_
   simp only [get_encFds,hf,encFd,go_sem,reduceIte,reduceAdd,reduceLT,reduceLeDiff,reduceMul,reduceEqDiff,reduceSub,reduceCtorEq]
   refine hK _ ?_
   refine tri_last_region tt_ok fun K hK => ?_
   simp only [length_encTys,hal',go_sem,reduceIte,reduceAdd,reduceLT,reduceLeDiff,reduceMul,reduceEqDiff,reduceSub,reduceCtorEq]
   refine hK _ ?_
   refine tri_last_region tt_ok fun K hK => ?_
   simp only [go_sem,reduceIte,reduceAdd,reduceLT,reduceLeDiff,reduceMul,reduceEqDiff,reduceSub,reduceCtorEq]
   refine hK _ ?_
   have hw := i64_succ i (by omega)
   rw [hw]
   refine ⟨fs.length - (i + 1), by omega, 2, [false,true,false,true,false,false,false,false,false,false,true,true,true], by omega, by simp only [maskFr,belowV,belowL,belowB,reduceLT,mkb], by simp only [maskFr,belowV,belowL,belowB,reduceLT,mkb], i + 1, ver + 1, acc ++ [.mk fk fm fn fts ffs], rfl, hlt, by rw [hacc, hft]; simp [Fd.ty], ?_⟩
   simp [rp,maskFr, encTys_map, encTy]
  ·have hd := ge_dec hlt
   refine tri_seq_region tt_ok fun K hK => ?_
   simp only [length_encFds,hd,go_sem,reduceIte,reduceAdd,reduceLT,reduceLeDiff,reduceMul,reduceEqDiff,reduceSub,reduceCtorEq]
   refine hK _ ?_
   refine tri_seq (tri_cond rfl (tri_exit ?_))
   have hie : i = fs.length := by omega
   subst hie
   show Tri _ _ _ _ _ _
   refine tri_seq_region tt_ok fun K hK => ?_
   simp only [go_sem,reduceIte,reduceAdd,reduceLT,reduceLeDiff,reduceMul,reduceEqDiff,reduceSub,reduceCtorEq]
   refine hK _ ?_
   refine tri_ret ⟨.inl rfl, ?_⟩
   rw [List.take_length] at hacc
   have hr : encTys (Ty.mk k m n ts fs).parts = encTys acc := by rw [hacc]; rfl
   rw [hr]
   simp [retV, resL, resV, Tryz.f52, pur, pur1, purCell, length_encTys]
   rw [← length_encTys]; simp
end Go.Proofs.YtpjdfcigadnhcaaGreatDoor
end

section
namespace Go.Proofs.YtpjdfcigadnhcaaGreatDoor
open Go.Eng
open Nat (reduceAdd reduceLT reduceLeDiff reduceMul reduceEqDiff reduceSub)
variable [Glob]
mutual
def Ty.depth : Ty → Nat
 | .mk _ _ _ ts fs => 1 + max (depthTys ts) (depthFds fs)
def depthTys : List Ty → Nat
 | [] => 0
 | t :: r => max t.depth (depthTys r)
def Fd.depth : Fd → Nat
 | .mk _ (.mk _ _ _ ts fs) _ => 1 + max (depthTys ts) (depthFds fs)
def depthFds : List Fd → Nat
 | [] => 0
 | f :: r => max f.depth (depthFds r)
end
theorem Fd.depth_ty (f : Fd) : f.depth = f.ty.depth := by obtain ⟨n', ⟨k, m, n, ts, fs⟩, o⟩ := f; rfl
def maxBy {α : Type} (g : α → Nat) : List α → Nat
 | [] => 0
 | a :: r => max (g a) (maxBy g r)
theorem maxBy_append {α : Type} (g : α → Nat) (a b : List α) : maxBy g (a ++ b) = max (maxBy g a) (maxBy g b) := by induction a with | nil => simp [maxBy] | cons x r ih => simp [maxBy, ih, Nat.max_assoc]
theorem maxBy_map {α β : Type} (g : β → Nat) (h : α → β) (a : List α) : maxBy g (a.map h) = maxBy (fun x => g (h x)) a := by induction a with | nil => rfl | cons x r ih => simp [maxBy, ih]
theorem depthTys_max (ts : List Ty) : depthTys ts = maxBy Ty.depth ts := by induction ts with | nil => rfl | cons t r ih => simp [depthTys, maxBy, ih]
theorem depthFds_max (ts : List Fd) : depthFds ts = maxBy (fun f => f.ty.depth) ts := by induction ts with | nil => rfl | cons t r ih => simp [depthFds, maxBy, ih, Fd.depth_ty]
theorem Ty.depth_parts (t : Ty) : t.depth = 1 + maxBy Ty.depth t.parts := by
 obtain ⟨k, m, n, ts, fs⟩ := t
 simp only [Ty.depth,Ty.parts,Ty.args,Ty.flds,maxBy_append,maxBy_map,depthTys_max,depthFds_max]
theorem maxBy_take_succ {α : Type} (g : α → Nat) {l : List α} {i : Nat} {a : α} (h : l[i]? = some a) : maxBy g (l.take (i + 1)) = max (maxBy g (l.take i)) (g a) := by
 rw [List.take_add_one, h, maxBy_append]; simp [maxBy]
theorem maxBy_lt {α : Type} (g : α → Nat) {B : Nat} : ∀ {l : List α}, (∀ (i : Nat) (a : α), l[i]? = some a → g a ≤ B) → maxBy g l ≤ B
 | [], _ => by simp [maxBy]
 | a :: r, h => by
  have h1 := h 0 a rfl
  have h2 := maxBy_lt g (l := r) (B := B) fun i b hb => h (i + 1) b (by simpa using hb)
  simp only [maxBy]; omega
theorem Ty.depth_le_size : ∀ (N : Nat) (t : Ty), t.size ≤ N → t.depth ≤ t.size := by
 intro N
 induction N with
 | zero => intro t h; have := t.size_pos; omega
 | succ N ih =>
  intro t hN
  rw [Ty.depth_parts, Ty.size_parts]
  have h1 := t.size_parts
  have := maxBy_lt Ty.depth (l := t.parts) (B := sumBy Ty.size t.parts) fun i a ha => by
   have := sumBy_mem Ty.size ha
   have := ih a (by omega)
   omega
  omega
theorem i64_max (a b : Nat) : (if ((a : Int) < (b : Int)) then ((b : Nat) : Int) else (a : Int)) = ((max a b : Nat) : Int) := by
 split <;> omega

theorem tdepth_ok : ∀ (N : Nat) (t : Ty), t.size ≤ N → N ≤ 1048576 → FnOk Tryz.prog 17 [encTy t] (num t.depth) := by
 intro N
 induction N with
 | zero => intro t h; have := t.size_pos; omega
 | succ N ih =>
  intro t hN hb
  have hpl := t.parts_length
  have hps := t.size_parts
  have hds := Ty.depth_le_size _ t (Nat.le_refl _)
  have hdp := t.depth_parts
  have hpn := length_le_sum Ty.size Ty.size_pos t.parts
  have hp := parts_ok t (by omega)
  refine fn_ok tt_ok (fn := Tryz.f17) Tryz.func17 rfl Tryz.call17 ?_
  simp only [ltb,startSt,Tryz.ntmps17,List.length_cons,List.length_nil,reduceAdd,reduceSub,List.replicate_succ,List.replicate_zero]
  rw [encTy_eq] at hp ⊢
  simp only [tyCells] at hp ⊢
  refine tri_seq_region tt_ok fun K hK => ?_
  simp only [go_sem,reduceIte,reduceAdd,reduceLT,reduceLeDiff,reduceMul,reduceEqDiff,reduceSub,reduceCtorEq]
  refine hK _ ?_
  refine tri_seq_region tt_ok fun K hK => ?_
  simp only [go_sem,reduceIte,reduceAdd,reduceLT,reduceLeDiff,reduceMul,reduceEqDiff,reduceSub,reduceCtorEq]
  refine hK _ ?_
  refine tri_seq_region tt_ok fun K hK => ?_
  simp only [go_sem,reduceIte,reduceAdd,reduceLT,reduceLeDiff,reduceMul,reduceEqDiff,reduceSub,reduceCtorEq]
  refine .inl ⟨_, _, by simp only [go_sem,reduceIte,reduceAdd,reduceLT,reduceLeDiff,reduceMul,reduceEqDiff,reduceSub,reduceCtorEq,List.take_length], hp, ?_⟩
  try simp only [go_sem,reduceIte,reduceAdd,reduceLT,reduceLeDiff,reduceMul,reduceEqDiff,reduceSub,reduceCtorEq]
  refine hK _ ?_
  refine tri_seq ?_
  refine tri_seq_region tt_ok fun K hK => ?_
  simp only [go_sem,reduceIte,reduceAdd,reduceLT,reduceLeDiff,reduceMul,reduceEqDiff,reduceSub,reduceCtorEq]
  refine hK _ ?_
  obtain ⟨ps, hps'⟩ : ∃ ps, ps = t.parts := ⟨_, rfl⟩
  rw [← hps'] at hps hpn hdp ⊢
  refine tri_block (tri_loop_inv (fun N st => ∃ (i : Nat), N = ps.length - i ∧ i ≤ ps.length ∧
   st = { fr := [.undef, .undef, .undef, num ((maxBy Ty.depth (ps.take i) : Nat)), .slice (encTys ps), num i] ++ List.replicate 17 .undef, mem := [] }) ps.length ?_ ?_)
  ·exact ⟨0, [false,false,false,true,true,true], by omega, by simp only [maskFr,belowV,belowL,belowB,reduceLT,mkb], by simp only [maskFr,belowV,belowL,belowB,reduceLT,mkb], 0, by omega, by omega, rfl⟩
  ·rintro N st ⟨i, rfl, hi, rfl⟩
   simp only [ltb,List.replicate_succ,List.replicate_zero]
   refine tri_seq ?_
   by_cases hlt : i < ps.length
   ·have hd := lt_dec hlt
    refine tri_seq_region tt_ok fun K hK => ?_
    simp only [length_encTys,hd,go_sem,reduceIte,reduceAdd,reduceLT,reduceLeDiff,reduceMul,reduceEqDiff,reduceSub,reduceCtorEq]
    refine hK _ ?_
    refine tri_cond rfl (tri_skip ?_)
    refine tri_seq (tri_block ?_)
    obtain ⟨u, hu⟩ : ∃ u, ps[i]? = some u := ⟨_, List.getElem?_eq_getElem hlt⟩
    have hus := sumBy_mem Ty.size hu
    have hts := maxBy_take_succ Ty.depth hu
    have hrec := ih u (by omega) (by omega)
    rw [encTy_eq] at hrec
    simp only [tyCells] at hrec
    refine tri_last_region tt_ok fun K hK => ?_
    simp only [get_encTys,hu,encTy_eq,tyCells,go_sem,reduceIte,reduceAdd,reduceLT,reduceLeDiff,reduceMul,reduceEqDiff,reduceSub,reduceCtorEq]
    refine .inl ⟨_, _, by simp only [go_sem,reduceIte,reduceAdd,reduceLT,reduceLeDiff,reduceMul,reduceEqDiff,reduceSub,reduceCtorEq,List.take_length], hrec, ?_⟩
    try simp only [go_sem,reduceIte,reduceAdd,reduceLT,reduceLeDiff,reduceMul,reduceEqDiff,reduceSub,reduceCtorEq]
    refine hK _ ?_
    rw [i64_max, ← hts]
    refine tri_last_region tt_ok fun K hK => ?_
    simp only [go_sem,reduceIte,reduceAdd,reduceLT,reduceLeDiff,reduceMul,reduceEqDiff,reduceSub,reduceCtorEq]
    refine hK _ ?_
    have hw2 := i64_succ i (by omega)
    rw [hw2]
    exact ⟨ps.length - (i + 1), by omega, 0, [false,false,false,true,true,true], by omega, by simp only [maskFr,belowV,belowL,belowB,reduceLT,mkb], by simp only [maskFr,belowV,belowL,belowB,reduceLT,mkb], i + 1, rfl, hlt, by simp [rp,maskFr]⟩
   ·have hd := ge_dec hlt
    refine tri_seq_region tt_ok fun K hK => ?_
    simp only [length_encTys,hd,go_sem,reduceIte,reduceAdd,reduceLT,reduceLeDiff,reduceMul,reduceEqDiff,reduceSub,reduceCtorEq]
    refine hK _ ?_
    refine tri_cond rfl (tri_exit ?_)
    have hie : i = ps.length := by omega
    subst hie
    show Tri _ _ _ _ _ _
    refine tri_seq_region tt_ok fun K hK => ?_
    simp only [go_sem,reduceIte,reduceAdd,reduceLT,reduceLeDiff,reduceMul,reduceEqDiff,reduceSub,reduceCtorEq]
    refine hK _ ?_
    refine tri_ret ⟨.inl rfl, ?_⟩
    rw [List.take_length, i64_succ _ (by omega)]
    have hfin : maxBy Ty.depth ps + 1 = t.depth := by omega
    rw [hfin]
    simp [retV, resL, resV, Tryz.f17, pur, pur1, purCell, nilS]

end Go.Proofs.YtpjdfcigadnhcaaGreatDoor
end

section
namespace Go.Proofs.YtpjdfcigadnhcaaGreatDoor
open Go.Eng
variable [Glob]
mutual
def Ty.nodes : Ty → List Ty
 | .mk k m n ts fs => .mk k m n ts fs :: (nodesTys ts ++ nodesFds fs)
def nodesTys : List Ty → List Ty
 | [] => []
 | t :: r => t.nodes ++ nodesTys r
def Fd.nodes : Fd → List Ty
 | .mk _ (.mk k m n ts fs) _ => .mk k m n ts fs :: (nodesTys ts ++ nodesFds fs)
def nodesFds : List Fd → List Ty
 | [] => []
 | f :: r => f.nodes ++ nodesFds r
end
theorem Fd.nodes_ty (f : Fd) : f.nodes = f.ty.nodes := by obtain ⟨n', ⟨k, m, n, ts, fs⟩, o⟩ := f; rfl
theorem nodesTys_eq (ts : List Ty) : nodesTys ts = ts.flatMap Ty.nodes := by induction ts with | nil => rfl | cons t r ih => simp [nodesTys, ih]
theorem nodesFds_eq (ts : List Fd) : nodesFds ts = (ts.map Fd.ty).flatMap Ty.nodes := by induction ts with | nil => rfl | cons t r ih => simp [nodesFds, ih, Fd.nodes_ty]
theorem Ty.nodes_eq (t : Ty) : t.nodes = t :: t.parts.flatMap Ty.nodes := by
 obtain ⟨k, m, n, ts, fs⟩ := t
 simp only [Ty.nodes,Ty.parts,Ty.args,Ty.flds,nodesTys_eq,nodesFds_eq,List.flatMap_append]
theorem Ty.nodes_length : ∀ (N : Nat) (t : Ty), t.size ≤ N → t.nodes.length = t.size := by
 intro N
 induction N with
 | zero => intro t h; have := t.size_pos; omega
 | succ N ih =>
  intro t hN
  have h1 := t.size_parts
  have gen : ∀ (l : List Ty), sumBy Ty.size l ≤ N → (l.flatMap Ty.nodes).length = sumBy Ty.size l := by
   intro l
   induction l with
   | nil => intro _; rfl
   | cons a r ihr =>
    intro hl
    simp only [sumBy] at hl ⊢
    rw [List.flatMap_cons, List.length_append, ih a (by omega), ihr (by omega)]
  rw [Ty.nodes_eq, List.length_cons, gen _ (by omega)]; omega

section
variable {σ α : Type}
def stepL (step : σ → α → σ × Bool) : σ → List α → σ × Bool
 | s, [] => (s, true)
 | s, u :: r => if (step s u).2 = true then stepL step (step s u).1 r else ((step s u).1, false)
theorem stepL_append (step : σ → α → σ × Bool) : ∀ (a : List α) (s : σ) (b : List α), stepL step s (a ++ b) = if (stepL step s a).2 = true then stepL step (stepL step s a).1 b else ((stepL step s a).1, false)
 | [], s, b => by simp [stepL]
 | u :: r, s, b => by
  simp only [List.cons_append,stepL]
  split
  ·exact stepL_append step r _ b
  ·simp
theorem stepL_good (step : σ → α → σ × Bool) {G : σ → Prop} (hG : ∀ s u, G s → (step s u).2 = true → G (step s u).1) : ∀ (l : List α) (s : σ), G s → (stepL step s l).2 = true → G (stepL step s l).1
 | [], s, h, _ => h
 | u :: r, s, h, hs => by
  simp only [stepL] at hs ⊢
  split at hs
  ·rename_i hu; rw [if_pos hu]; exact stepL_good step hG r _ (hG s u h hu) hs
  ·cases hs
end

section
variable {σ : Type} {M : σ → List Blk} {n k k1 k2 : Nat}
end
end Go.Proofs.YtpjdfcigadnhcaaGreatDoor
end

section
namespace Go.Proofs.YtpjdfcigadnhcaaGreatDoor
open Go.Eng
open Nat (reduceAdd reduceLT reduceLeDiff reduceMul reduceEqDiff reduceSub)
variable [Glob]

theorem types_ok (t : Ty) (m : List Blk) (hb : m.all (belowB (m.length + 1)) = true) : FnOkS Tryz.prog 51 [encTy t] m (.clo (.func 91) [] [.ptr m.length 0]) (m ++ [.box (tyCells t)]) := by
 refine fns_ok tt_ok (fn := Tryz.f51) (m.length + 1) (by omega) Tryz.func51 rfl Tryz.call51 ?_
 simp only [ltb,startSt,Tryz.ntmps51,List.length_cons,List.length_nil,reduceAdd,reduceSub,List.replicate_succ,List.replicate_zero]
 rw [encTy_eq]
 simp only [tyCells]
 refine tri_seq_region tt_ok fun K hK => ?_
 simp only [go_sem,reduceIte,reduceAdd,reduceLT,reduceLeDiff,reduceMul,reduceEqDiff,reduceSub,reduceCtorEq]
 refine hK _ ?_
 refine tri_seq_region tt_ok fun K hK => ?_
 simp only [go_sem,reduceIte,reduceAdd,reduceLT,reduceLeDiff,reduceMul,reduceEqDiff,reduceSub,reduceCtorEq]
 refine hK _ ?_
 have ht : ∀ B : Blk, (m ++ [B]).take (m.length + 1) = m ++ [B] := fun B => List.take_of_length_le (by simp)
 refine tri_ret ⟨.inl rfl, rfl, by simp [belowV, belowL], ?_, ?_⟩
 ·dsimp only; rw [ht]; simp [hb, belowB, belowV, belowL]
 ·dsimp only; rw [ht]

section
variable {σ : Type} {M : σ → List Blk} {n k kt : Nat}

def stepJ {α : Type} (step : σ → α → σ × Option Code) : σ → List α → σ × Option Code
 | s, [] => (s, none)
 | s, u :: r => match (step s u).2 with
  | none => stepJ step (step s u).1 r
  | some c => ((step s u).1, some c)
def stepB {α : Type} (step : σ → α → σ × Option Code) (s : σ × Option Code) (u : α) : (σ × Option Code) × Bool := (step s.1 u, (step s.1 u).2.isNone)
theorem stepJ_L {α : Type} (step : σ → α → σ × Option Code) : ∀ (l : List α) (s : σ), (stepL (stepB step) (s, none) l).1 = stepJ step s l
 | [], s => rfl
 | u :: r, s => by
  simp only [stepL,stepJ]
  have hb1 : (stepB step (s, none) u).1 = step s u := rfl
  have hb2 : (stepB step (s, none) u).2 = (step s u).2.isNone := rfl
  by_cases hnone : (step s u).2.isNone = true
  ·rw [if_pos (hb2.trans hnone), hb1]
   have h2 : (step s u).2 = none := by simpa using hnone
   have e : step s u = ((step s u).1, none) := Prod.ext rfl h2
   have h3 := stepJ_L step r (step s u).1
   rw [← e] at h3
   rw [h2]
   exact h3
  ·have hsome := hnone
   rw [if_neg (fun h => hsome (hb2.symm.trans h)), hb1]
   cases h2 : (step s u).2 with
   | none => rw [h2] at hsome; exact absurd rfl hsome
   | some c => dsimp only; exact Prod.ext rfl h2

theorem take_set {mem pre : List Blk} {n : Nat} {X Y : Blk} (hn : pre.length = n) (h1 : mem[n]? = some Y) (h2 : mem.take n = pre) : (mem.set n X).take (n + 1) = pre ++ [X] := by
 have hlt : n < mem.length := (List.getElem?_eq_some_iff.1 h1).1
 refine List.ext_getElem? fun i => ?_
 by_cases hi : i < n
 ·rw [List.getElem?_take_of_lt (by omega), List.getElem?_set_ne (by omega), List.getElem?_append_left (by omega), ← h2, List.getElem?_take_of_lt hi]
 ·by_cases hin : i = n
  ·subst hin
   rw [List.getElem?_take_of_lt (by omega), List.getElem?_set_self hlt, List.getElem?_append_right (by omega)]
   simp [hn]
  ·rw [List.getElem?_eq_none (by simp; omega), List.getElem?_eq_none (by simp [hn]; omega)]

end
end Go.Proofs.YtpjdfcigadnhcaaGreatDoor
end

section
namespace Go.Proofs.YtpjdfcigadnhcaaGreatDoor
open Go.Eng
variable [Glob]

theorem stepJ_pure {σ α : Type} (g : σ → α → σ) : ∀ (l : List α) (s : σ), stepJ (fun s u => (g s u, none)) s l = (l.foldl g s, none)
 | [], s => rfl
 | u :: r, s => by simp only [stepJ,List.foldl_cons]; exact stepJ_pure g r _

end Go.Proofs.YtpjdfcigadnhcaaGreatDoor
end

section
namespace Go.Proofs.YtpjdfcigadnhcaaGreatDoor
open Go.Eng
variable [Glob]
def Ex.own (e : Ex) : List Ty := e.types ++ if e.kind = 8 then e.labels.map Lb.ty else []
mutual
def Ex.size : Ex → Nat
 | .mk k _ _ _ _ ts ls ks => 1 + sumBy Ty.size (ts ++ if k = 8 then ls.map Lb.ty else []) + sizeExs ks
def sizeExs : List Ex → Nat
 | [] => 0
 | e :: r => e.size + sizeExs r
end
mutual
def Ex.nodes : Ex → List Ex
 | .mk k m n t i ts ls ks => .mk k m n t i ts ls ks :: nodesExs ks
def nodesExs : List Ex → List Ex
 | [] => []
 | e :: r => e.nodes ++ nodesExs r
end
theorem nodesExs_eq (ts : List Ex) : nodesExs ts = ts.flatMap Ex.nodes := by induction ts with | nil => rfl | cons t r ih => simp [nodesExs, ih]
theorem sizeExs_eq (ts : List Ex) : sizeExs ts = sumBy Ex.size ts := by induction ts with | nil => rfl | cons t r ih => simp [sizeExs, sumBy, ih]
theorem Ex.nodes_eq (t : Ex) : t.nodes = t :: t.kids.flatMap Ex.nodes := by
 obtain ⟨k, m, n, x, i, ts, ls, ks⟩ := t
 simp only [Ex.nodes,Ex.kids,nodesExs_eq]
theorem Ex.size_eq (t : Ex) : t.size = 1 + sumBy Ty.size t.own + sumBy Ex.size t.kids := by
 obtain ⟨k, m, n, x, i, ts, ls, ks⟩ := t
 rw [Ex.size, sizeExs_eq]; rfl
theorem Ex.size_pos (t : Ex) : 0 < t.size := by rw [Ex.size_eq]; omega

section
variable {σ : Type} {M : σ → List Blk} {n k k1 k2 : Nat}
end


section
variable {σ : Type} {M : σ → List Blk} {n k kt : Nat}


end
end Go.Proofs.YtpjdfcigadnhcaaGreatDoor
end

section
namespace Go.Proofs.YtpjdfcigadnhcaaGreatDoor
open Go.Eng
variable [Glob]
mutual
def Ty.wt : Ty → Nat
 | .mk _ m n ts fs => 1 + m.size + n.size + wtTys ts + wtFds fs
def wtTys : List Ty → Nat
 | [] => 0
 | t :: r => t.wt + wtTys r
def Fd.wt : Fd → Nat
 | .mk n (.mk _ m n' ts fs) _ => 1 + n.size + m.size + n'.size + wtTys ts + wtFds fs
def wtFds : List Fd → Nat
 | [] => 0
 | f :: r => f.wt + wtFds r
end
theorem Fd.wt_eq (f : Fd) : f.wt = f.name.size + f.ty.wt := by
 obtain ⟨n', ⟨k, m, n, ts, fs⟩, o⟩ := f
 simp only [Fd.wt,Ty.wt,Fd.name,Fd.ty]; omega
theorem wtTys_sum (ts : List Ty) : wtTys ts = sumBy Ty.wt ts := by induction ts with | nil => rfl | cons t r ih => simp [wtTys, sumBy, ih]
theorem wtFds_sum (ts : List Fd) : wtFds ts = sumBy Fd.wt ts := by induction ts with | nil => rfl | cons t r ih => simp [wtFds, sumBy, ih]
theorem Ty.wt_eq (t : Ty) : t.wt = 1 + t.mod.size + t.name.size + sumBy Ty.wt t.args + sumBy Fd.wt t.flds := by
 obtain ⟨k, m, n, ts, fs⟩ := t
 simp only [Ty.wt,wtTys_sum,wtFds_sum,Ty.mod,Ty.name,Ty.args,Ty.flds]
theorem sumBy_le {α : Type} {g h : α → Nat} (hle : ∀ a, g a ≤ h a) (l : List α) : sumBy g l ≤ sumBy h l := by
 induction l with
 | nil => exact Nat.le_refl _
 | cons a r ih => simp only [sumBy]; have := hle a; omega
theorem Ty.wt_parts (t : Ty) : 1 + t.mod.size + t.name.size + sumBy Ty.wt t.parts ≤ t.wt := by
 rw [t.wt_eq, Ty.parts, sumBy_append, sumBy_map]
 have := sumBy_le (g := fun f : Fd => f.ty.wt) (h := Fd.wt) (fun f => by rw [f.wt_eq]; omega) t.flds
 omega
theorem Ty.size_le_wt' : ∀ (N : Nat) (t : Ty), t.size ≤ N → t.size ≤ t.wt := by
 intro N
 induction N with
 | zero => intro t h; have := t.size_pos; omega
 | succ N ih =>
  intro t hN
  have h1 := t.size_parts
  have h2 := t.wt_parts
  have gen : ∀ (l : List Ty), sumBy Ty.size l ≤ N → sumBy Ty.size l ≤ sumBy Ty.wt l := by
   intro l
   induction l with
   | nil => intro _; exact Nat.le_refl _
   | cons a r ihr =>
    intro hl
    simp only [sumBy] at hl ⊢
    have := ih a (by omega); have := ihr (by omega); omega
  have := gen t.parts (by omega)
  omega
theorem Ty.size_le_wt (t : Ty) : t.size ≤ t.wt := Ty.size_le_wt' _ t (Nat.le_refl _)
theorem Ty.wt_nodes' : ∀ (N : Nat) (t : Ty), t.size ≤ N → ∀ v ∈ t.nodes, v.wt ≤ t.wt := by
 intro N
 induction N with
 | zero => intro t h; have := t.size_pos; omega
 | succ N ih =>
  intro t hN v hv
  have h1 := t.size_parts
  have h2 := t.wt_parts
  rw [t.nodes_eq] at hv
  rcases List.mem_cons.1 hv with rfl | hv
  ·exact Nat.le_refl _
  ·obtain ⟨p, hp, hv⟩ := List.mem_flatMap.1 hv
   obtain ⟨i, hi⟩ := List.mem_iff_getElem?.1 hp
   have e1 := sumBy_mem Ty.size hi
   have e2 := sumBy_mem Ty.wt hi
   have := ih p (by omega) v hv
   omega
theorem Ty.wt_nodes {t v : Ty} (hv : v ∈ t.nodes) : v.wt ≤ t.wt := Ty.wt_nodes' _ t (Nat.le_refl _) v hv
def Lb.wt (l : Lb) : Nat := 1 + l.name.size + l.var.size + l.ty.wt
mutual
def Ex.wt : Ex → Nat
 | .mk _ m n t _ ts ls ks => 1 + m.size + n.size + t.size + sumBy Ty.wt ts + sumBy Lb.wt ls + wtExs ks
def wtExs : List Ex → Nat
 | [] => 0
 | e :: r => e.wt + wtExs r
end
theorem wtExs_eq (ts : List Ex) : wtExs ts = sumBy Ex.wt ts := by induction ts with | nil => rfl | cons t r ih => simp [wtExs, sumBy, ih]
theorem Ex.wt_eq (t : Ex) : t.wt = 1 + t.mod.size + t.name.size + t.text.size + sumBy Ty.wt t.types + sumBy Lb.wt t.labels + sumBy Ex.wt t.kids := by
 obtain ⟨k, m, n, x, i, ts, ls, ks⟩ := t
 rw [Ex.wt, wtExs_eq]; rfl
end Go.Proofs.YtpjdfcigadnhcaaGreatDoor
end
