/-
  AWAKE: the example of the chapter.
  THE LAW AdvisoryChains itself.
  THE LAW AdvisoryChains, A: what it does at every argument of the bound, in every world of the shape.
  CLOSING, B: a world for the witness.
-/
import Derived.Test.YtefbaladomfccaaGreatDoorH11
import Derived.Test.YtefbaladomfccaaGreatDoorCards
import Derived.Test.YtefbaladomfccaaGreatDoorTie
import Derived.Lib.LaidTab
set_option linter.all false
section
namespace Go.Proofs.YtefbaladomfccaaGreatDoor
open Go.Eng
variable [Glob]
set_option maxHeartbeats 4000000
set_option maxRecDepth 100000
theorem line_a (hG : Glob.g = some 0) : FnOk Tryz.prog 71 [str ⟨#[97,47,118,49]⟩] (.tup [str ⟨#[97]⟩, num 1, num 0]) := by
 obtain ⟨_, rfl, h⟩ := lineN_ok hG ⟨#[97,47,118,49]⟩ (by decide)
 have e1 : majN ⟨#[97,47,118,49]⟩ = 1 := by kernel_rfl
 have e2 : majE ⟨#[97,47,118,49]⟩ = 0 := by kernel_rfl
 have e3 : linN ⟨#[97,47,118,49]⟩ = ⟨#[97]⟩ := by kernel_rfl
 rw [e1, e2, e3] at h
 exact h
theorem noNat_okA : NatFOk Tryz.prog (fun _ _ => none) := fun f vs r h => by cases h
abbrev pA : V := str ⟨#[97,47,118,49]⟩
abbrev p0 : V := str ⟨#[]⟩
abbrev sF : V := str ⟨#[102]⟩
abbrev sG : V := str ⟨#[103]⟩
abbrev sH : V := str ⟨#[104]⟩
abbrev aA : V := .agg [str ⟨#[65,49]⟩, pA, .slice [.agg [num 0, num 2000]], .slice [sF], p0]
abbrev one : V := .slice [.agg [pA, num 1, num 1, num 0]]
abbrev two : V := .slice [.agg [pA, num 1, num 2, num 0]]
abbrev rl (k : Int) (b : Bool) : V := .agg [pA, num 1, num k, num 0, .slice [], p0, p0, p0, bl b]
abbrev ix : V := .agg [.slice [rl 1 false, rl 2 false], .slice []]
abbrev iy : V := .agg [.slice [rl 1 true, rl 2 false], .slice []]
abbrev rq : V := .slice [.agg [pA, .slice [.agg [num 0, num 1000000]]]]
abbrev dcl (nm : V) (ex : List V) : V := .agg ([num 1, nm, bl true, bl false, p0, .slice [], num 0, p0, p0, .slice [], .slice [], num 0, p0, p0, .slice [], .slice [], num 2, p0, p0, .slice [], .slice []] ++ ex ++ [p0, p0])
abbrev vN (n : Int) : List V := [num 0, p0, p0, p0, num n, .slice [], .slice [], .slice []]
abbrev vU (nm : V) : List V := [num 4, pA, nm, p0, num 0, .slice [], .slice [], .slice []]
abbrev exP : V := .slice [.agg [pA, .slice [], .slice [dcl sF (vN 1), dcl sG [num 16, p0, str ⟨#[43]⟩, p0, num 0, .slice [], .slice [], .slice [.agg (vU sF), .agg (vN 1)]], dcl sH [num 12, p0, p0, p0, num 0, .slice [.agg [num 2, p0, p0, .slice [], .slice []]], .slice [], .slice [.agg [num 2, p0, p0, p0, num 0, .slice [], .slice [], .slice []], .agg (vU sG), .agg (vN 2)]]]]]
abbrev us (nm : V) : V := .agg [pA, nm]
theorem h36 : FnOk Tryz.prog 36 [] exP := ev_call orcOf_nil noNat_okA 2000 (by kernel_rfl)
theorem h30 (hG : Glob.g = some 0) : FnOk Tryz.prog 30 [aA] (num 0) := ev_call (orcOf_cons (line_a hG) orcOf_nil) (natS_ok hG) 2000 (by kernel_rfl)
theorem h27a : FnOk Tryz.prog 27 [aA, one] (bl true) := ev_call orcOf_nil noNat_okA 2000 (by kernel_rfl)
theorem h27b : FnOk Tryz.prog 27 [aA, two] (bl false) := ev_call orcOf_nil noNat_okA 2000 (by kernel_rfl)
theorem h11a (hG : Glob.g = some 0) : FnOk Tryz.prog 11 [exP, one, .slice [aA], pA, sH] (.tup [.slice [.agg [str ⟨#[65,49]⟩, .slice [us sH, us sG, us sF]]], num 0]) := ev_call (orcOf_cons (h30 hG) (orcOf_cons h27a orcOf_nil)) (natS_ok hG) 2000 (by kernel_rfl)
theorem h11b (hG : Glob.g = some 0) : FnOk Tryz.prog 11 [exP, two, .slice [aA], pA, sH] (.tup [.slice [], num 0]) := ev_call (orcOf_cons (h30 hG) (orcOf_cons h27b orcOf_nil)) (natS_ok hG) 2000 (by kernel_rfl)
theorem h95 (hG : Glob.g = some 0) : FnOk Tryz.prog 95 [ix] (num 0) := ev_call (orcOf_cons (line_a hG) orcOf_nil) (natS_ok hG) 2000 (by kernel_rfl)
theorem h95y (hG : Glob.g = some 0) : FnOk Tryz.prog 95 [iy] (num 0) := ev_call (orcOf_cons (line_a hG) orcOf_nil) (natS_ok hG) 2000 (by kernel_rfl)
theorem h19 (hG : Glob.g = some 0) : FnOk Tryz.prog 19 [ix, aA] (.tup [.slice [.agg [pA, num 1000, num 2000]], num 0]) := ev_call (orcOf_cons (h95 hG) (orcOf_cons (h30 hG) orcOf_nil)) (natS_ok hG) 2000 (by kernel_rfl)
theorem h15 (hG : Glob.g = some 0) : FnOk Tryz.prog 15 [ix, .slice [aA]] (.tup [iy, num 0]) := ev_call (orcOf_cons (h95 hG) (orcOf_cons (h30 hG) orcOf_nil)) (natS_ok hG) 2000 (by kernel_rfl)
theorem h28 (hG : Glob.g = some 0) : FnOk Tryz.prog 28 [iy, rq] (.tup [two, num 0]) := ev_call (orcOf_cons (h95y hG) (orcOf_cons (line_a hG) orcOf_nil)) (natS_ok hG) 2000 (by kernel_rfl)
theorem h17 (hG : Glob.g = some 0) : FnOk Tryz.prog 17 [ix, rq, .slice [aA]] (.tup [two, num 0]) := ev_call (orcOf_cons (h15 hG) (orcOf_cons (h28 hG) orcOf_nil)) (natS_ok hG) 2000 (by kernel_rfl)
theorem awake_ok (hG : Glob.g = some 0) : FnOk Tryz.prog 8 [] (bl true) := ev_call (orcOf_cons h36 (orcOf_cons (h30 hG) (orcOf_cons h27a (orcOf_cons (h11a hG) (orcOf_cons (h11b hG) (orcOf_cons (h19 hG) (orcOf_cons (h17 hG) orcOf_nil))))))) (natS_ok hG) 2000 (by kernel_rfl)
end Go.Proofs.YtefbaladomfccaaGreatDoor
end

section
namespace Go.Proofs.YtefbaladomfccaaGreatDoor
open Go.Eng
open Nat renaming reduceAdd → zA, reduceLT → zB, reduceLeDiff → zC, reduceMul → zD, reduceEqDiff → zE, reduceSub → zF
variable [Glob]
set_option maxHeartbeats 4000000
set_option maxRecDepth 100000
theorem le00 : ((0 : Int) ≤ 0) = True := eq_true (Int.le_refl 0)
theorem toNat0 : Int.toNat 0 = 0 := rfl
theorem nillen : liftL Tryz.prog (Builtin.len_ #[29] 3) [V.sc (.slice none 0 0)] = some (num 0) := by kernel_rfl
theorem stepD_len (path : ByteArray) : ∀ (l : List Dc) (g : GD), (l.foldl (stepD path) g).length ≤ g.length + l.length
 | [], g => Nat.le_refl _
 | d :: l, g => by
  have h := stepD_len path l (stepD path g d)
  have h2 : (stepD path g d).length ≤ g.length + 1 := by unfold stepD; split <;> simp
  rw [List.foldl_cons, List.length_cons]; omega
theorem stepMd_len : ∀ (p : List Md) (S : List ByteArray × GD), (p.foldl stepMd S).2.length ≤ S.2.length + sumBy Md.wt p
 | [], S => Nat.le_refl _
 | m :: p, S => by
  have h := stepMd_len p (stepMd S m)
  have hm : m.wt = 1 + m.path.size + sumBy Im.wt m.imports + sumBy Dc.wt m.decls := rfl
  have hd := length_le_sum Dc.wt Dc.wt_pos m.decls
  have h2 : (stepMd S m).2.length ≤ S.2.length + m.decls.length := by
   unfold stepMd
   split
   ·omega
   ·exact stepD_len m.path m.decls S.2
  rw [List.foldl_cons]
  simp only [sumBy]; omega
theorem decG_len {p : List Md} (h : sumBy Md.wt p ≤ 1048576) : (decG p).length ≤ 1048576 := by
 have h1 := stepMd_len (p.take p.length) ([], [])
 rw [List.take_length] at h1
 unfold decG mdsO
 rw [List.take_length]
 exact Nat.le_trans h1 (by simpa using h)
def hasU (l : List Us) (u : Us) : Bool := l.any fun t => decide (u = t)
theorem hasU_yes {l : List Us} {i : Nat} {u : Us} (h : l[i]? = some u) : hasU l u = true := List.any_eq_true.2 ⟨u, List.mem_of_getElem? h, decide_eq_true rfl⟩
theorem hasU_mem {l : List Us} {u : Us} (h : u ∈ l) : hasU l u = true := List.any_eq_true.2 ⟨u, h, decide_eq_true rfl⟩
theorem hasU_no {l : List Us} {u : Us} (h : ∀ j < l.length, ∀ b, l[j]? = some b → u ≠ b) : hasU l u = false := any_none fun j hj x hx => decide_eq_false (h j hj x hx)
theorem hasS_no {l : List ByteArray} {u : ByteArray} (h : ∀ j < l.length, ∀ b, l[j]? = some b → u ≠ b) : hasS l u = false := any_none fun j hj x hx => decide_eq_false fun e => h j hj x hx e.symm
section
variable {look : Us → Option Dc} {v : Us} {s : List Sel} {l : List Adv} {k : Nat} {ad : Adv} {f : Fnd} {r : List Fnd} {z : Us}
theorem drop_at {α : Type} {l : List α} {k : Nat} {a : α} (h : l[k]? = some a) : l.drop k = a :: l.drop (k + 1) := by
 rw [List.drop_eq_getElem_cons (List.getElem?_eq_some_iff.1 h).1, (List.getElem?_eq_some_iff.1 h).2]
theorem Sub.step_no (h : Sub look v s (l.drop k) (f :: r)) (hx : l[k]? = some ad) (hn : ¬ Fits look v s ad f) : Sub look v s (l.drop (k + 1)) (f :: r) := by
 rw [drop_at hx] at h
 cases h with
 | skip _ h => exact h
 | take hf _ => exact absurd hf hn
theorem Sub.step_yes (h : Sub look v s (l.drop k) (f :: r)) (hx : l[k]? = some ad) : Sub look v s (l.drop (k + 1)) r := by
 rw [drop_at hx] at h
 cases h with
 | skip _ h => exact h.tail
 | take _ h => exact h
theorem Sub.no_nil (h : Sub look v s (l.drop k) (f :: r)) (hge : l.length ≤ k) : False := by
 rw [List.drop_eq_nil_of_le hge] at h; cases h
theorem Fits.match (h : Fits look v s ad f) (hz : f.chain.getLast? = some z) : ad.id = f.adv ∧ s.any (conc ad) = true ∧ z.1 = ad.path ∧ hasS ad.syms z.2 = true := by
 obtain ⟨z', h1, h2⟩ := h.chn.last
 rw [hz] at h1; cases h1
 rw [Bool.and_eq_true, decide_eq_true_eq] at h2
 exact ⟨h.id.symm, h.con, h2.1, h2.2⟩
theorem usesL_val {x : Us} (h : isVal look x) : usesL look x = dirU look x := by
 obtain ⟨d, hd, hk⟩ := h
 unfold usesL; rw [leads_self hd hk]
end
theorem idxU (l : List Us) (c : Us) (hl : l.length ≤ 1048576) : ∃ r_, (fun w => ∃ n : Int, w = num n ∧ decide (n ≥ 0) = hasU l c) r_ ∧ FnOk Tryz.prog 81 [.slice (l.map encU), encU c] r_ := by
 refine vfn tt_ok [] 19 [.tmp 4] (fn := Tryz.f81) Tryz.func81 rfl Tryz.call81 ⟨rfl, rfl, by simp⟩ fun K hK => ?_
 simp only [encU]
 simp only [List.length_map,ev_useql,go_sem,reduceIte,zA,zB,zC,zD,zE,zF,reduceCtorEq]
 refine xloopL tt_ok [] [8] 1 [0,3,7] (fun vs => ((l.length : Int) - Go.Eng.intOf (vs.headD .undef)).toNat) (fun vs => ∃ i : Nat, vs = [num i] ∧ i ≤ l.length ∧ ∀ j < i, ∀ b, l[j]? = some b → c ≠ b) (by omega) (by simp only [List.length_map,ev_useql,go_sem,reduceIte,zA,zB,zC,zD,zE,zF,reduceCtorEq]) (⟨0, rfl, Nat.zero_le _, fun j hj => absurd hj (Nat.not_lt_zero j)⟩) fun vs hI Z1 hZ1 => ?_
 obtain ⟨i, rfl, hi, hall⟩ := hI
 simp only [List.length_map,ev_useql,go_sem,reduceIte,zA,zB,zC,zD,zE,zF,reduceCtorEq]
 refine gif (fun hc9 => ?_) (fun hc9 => ?_)
 ·have hlt : i < l.length := by simpa using hc9
  have hw := i64_succ i (by omega)
  obtain ⟨x, hx⟩ : ∃ x, l[i]? = some x := ⟨_, List.getElem?_eq_getElem hlt⟩
  simp only [hw,List.getElem?_map,hx,encU,List.length_map,ev_useql,go_sem,reduceIte,zA,zB,zC,zD,zE,zF,reduceCtorEq]
  refine xmixL tt_ok mixed_ok [⟨.r, 0, [], [], []⟩, ⟨.n, 0, [], [], []⟩, ⟨.n, 0, [], [], []⟩, ⟨.r, 0, [], [], []⟩, ⟨.r, 0, [], [], []⟩, ⟨.n, 0, [], [], []⟩] 0 (by kernel_rfl) ?_
  simp only [hw,List.getElem?_map,hx,encU,List.length_map,ev_useql,go_sem,reduceIte,zA,zB,zC,zD,zE,zF,reduceCtorEq]
  refine gif (fun hc16 => ?_) (fun hc16 => ?_)
  ·have heq : c = x := by simpa using hc16
   have hres : decide ((i : Int) ≥ 0) = hasU l c := by rw [decide_eq_true (by omega : (i : Int) ≥ 0), hasU_yes (heq ▸ hx)]
   simp only [hw,List.getElem?_map,hx,encU,List.length_map,ev_useql,go_sem,reduceIte,zA,zB,zC,zD,zE,zF,reduceCtorEq]
   exact hK _ ⟨_, rfl, hres⟩
  ·have hne : c ≠ x := by simpa using hc16
   simp only [hw,List.getElem?_map,hx,encU,List.length_map,ev_useql,go_sem,reduceIte,zA,zB,zC,zD,zE,zF,reduceCtorEq]
   refine hZ1 _ (endK (by omega) (by simp only [hw,List.getElem?_map,hx,encU,List.length_map,ev_useql,go_sem,reduceIte,zA,zB,zC,zD,zE,zF,reduceCtorEq]) ?_ ?_) <;> simp only [lks,lk,reduceIte,zE]
   ·refine ⟨i + 1, rfl, hlt, fun j hj => ?_⟩
    rcases Nat.lt_or_ge j i with h | h
    ·exact hall j h
    ·obtain rfl : j = i := by omega
     intro y hy
     rw [hx] at hy; cases hy; exact hne
   ·simp only [Go.Eng.intOf,List.headD_cons]; omega
 ·have hge : ¬ i < l.length := by simpa using hc9
  have hres : decide ((-1 : Int) ≥ 0) = hasU l c := by rw [decide_eq_false (by decide : ¬ ((-1 : Int) ≥ 0)), hasU_no fun j hj => hall j (by omega)]
  simp only [List.length_map,ev_useql,go_sem,reduceIte,zA,zB,zC,zD,zE,zF,reduceCtorEq]
  exact hK _ ⟨_, rfl, hres⟩
theorem contU (l : List Us) (c : Us) (hl : l.length ≤ 1048576) : ∃ r_, (fun w => w = bl (hasU l c)) r_ ∧ FnOk Tryz.prog 35 [.slice (l.map encU), encU c] r_ := by
 refine vfn tt_ok [] 9 [.tmp 4] (fn := Tryz.f35) Tryz.func35 rfl Tryz.call35 ⟨rfl, rfl, by simp⟩ fun K hK => ?_
 simp only [encU]
 simp only [go_sem,reduceIte,zA,zB,zC,zD,zE,zF,reduceCtorEq]
 refine cF (by have h := idxU l c hl; simp only [encU] at h; exact h) ?_
 rintro _ ⟨n, rfl, hn⟩
 simp only [go_sem,reduceIte,zA,zB,zC,zD,zE,zF,reduceCtorEq]
 exact hK _ (congrArg bl hn)
theorem idxS (l : List ByteArray) (c : ByteArray) (hl : l.length ≤ 1048576) : ∃ r_, (fun w => ∃ n : Int, w = num n ∧ decide (n ≥ 0) = hasS l c) r_ ∧ FnOk Tryz.prog 80 [.slice (l.map str), str c] r_ := by
 refine vfn tt_ok [] 19 [.tmp 4] (fn := Tryz.f80) Tryz.func80 rfl Tryz.call80 ⟨rfl, rfl, by simp⟩ fun K hK => ?_
 simp only [List.length_map,str_beq,go_sem,reduceIte,zA,zB,zC,zD,zE,zF,reduceCtorEq]
 refine xloopL tt_ok [] [8] 0 [0,1,7] (fun vs => ((l.length : Int) - Go.Eng.intOf (vs.headD .undef)).toNat) (fun vs => ∃ i : Nat, vs = [num i] ∧ i ≤ l.length ∧ ∀ j < i, ∀ b, l[j]? = some b → c ≠ b) (by omega) (by simp only [List.length_map,str_beq,go_sem,reduceIte,zA,zB,zC,zD,zE,zF,reduceCtorEq]) (⟨0, rfl, Nat.zero_le _, fun j hj => absurd hj (Nat.not_lt_zero j)⟩) fun vs hI Z1 hZ1 => ?_
 obtain ⟨i, rfl, hi, hall⟩ := hI
 simp only [List.length_map,str_beq,go_sem,reduceIte,zA,zB,zC,zD,zE,zF,reduceCtorEq]
 refine gif (fun hc9 => ?_) (fun hc9 => ?_)
 ·have hlt : i < l.length := by simpa using hc9
  have hw := i64_succ i (by omega)
  obtain ⟨x, hx⟩ : ∃ x, l[i]? = some x := ⟨_, List.getElem?_eq_getElem hlt⟩
  simp only [hw,List.getElem?_map,hx,List.length_map,str_beq,go_sem,reduceIte,zA,zB,zC,zD,zE,zF,reduceCtorEq]
  refine gif (fun hc16 => ?_) (fun hc16 => ?_)
  ·have heq : c = x := by simpa using hc16
   have hres : decide ((i : Int) ≥ 0) = hasS l c := by rw [decide_eq_true (by omega : (i : Int) ≥ 0), hasS_mem (heq ▸ hx)]
   simp only [hw,List.getElem?_map,hx,List.length_map,str_beq,go_sem,reduceIte,zA,zB,zC,zD,zE,zF,reduceCtorEq]
   exact hK _ ⟨_, rfl, hres⟩
  ·have hne : c ≠ x := by simpa using hc16
   simp only [hw,List.getElem?_map,hx,List.length_map,str_beq,go_sem,reduceIte,zA,zB,zC,zD,zE,zF,reduceCtorEq]
   refine hZ1 _ (endK (by omega) (by simp only [hw,List.getElem?_map,hx,List.length_map,str_beq,go_sem,reduceIte,zA,zB,zC,zD,zE,zF,reduceCtorEq]) ?_ ?_) <;> simp only [lks,lk,reduceIte,zE]
   ·refine ⟨i + 1, rfl, hlt, fun j hj => ?_⟩
    rcases Nat.lt_or_ge j i with h | h
    ·exact hall j h
    ·obtain rfl : j = i := by omega
     intro y hy
     rw [hx] at hy; cases hy; exact hne
   ·simp only [Go.Eng.intOf,List.headD_cons]; omega
 ·have hge : ¬ i < l.length := by simpa using hc9
  have hres : decide ((-1 : Int) ≥ 0) = hasS l c := by rw [decide_eq_false (by decide : ¬ ((-1 : Int) ≥ 0)), hasS_no fun j hj => hall j (by omega)]
  simp only [List.length_map,str_beq,go_sem,reduceIte,zA,zB,zC,zD,zE,zF,reduceCtorEq]
  exact hK _ ⟨_, rfl, hres⟩
theorem contS (l : List ByteArray) (c : ByteArray) (hl : l.length ≤ 1048576) : ∃ r_, (fun w => w = bl (hasS l c)) r_ ∧ FnOk Tryz.prog 34 [.slice (l.map str), str c] r_ := by
 refine vfn tt_ok [] 9 [.tmp 4] (fn := Tryz.f34) Tryz.func34 rfl Tryz.call34 ⟨rfl, rfl, by simp⟩ fun K hK => ?_
 simp only [go_sem,reduceIte,zA,zB,zC,zD,zE,zF,reduceCtorEq]
 refine cF (idxS l c hl) ?_
 rintro _ ⟨n, rfl, hn⟩
 simp only [go_sem,reduceIte,zA,zB,zC,zD,zE,zF,reduceCtorEq]
 exact hK _ (congrArg bl hn)
theorem lawChains_ok (hG : Glob.g = some 0) (haw : FnOk Tryz.prog 8 [] (bl true)) (p : List Md) (hl : p.length ≤ 1048576) (hw : ∀ m ∈ p, m.wt ≤ 1048576) (hgl : (decG p).length ≤ 1048576) (s : List Sel) (hs : s.length ≤ 1048576) (l : List Adv) (hla : l.length ≤ 1048576) (hab : ∀ a ∈ l, AdB a) (a b : ByteArray) : FnOk Tryz.prog 7 [.slice (p.map encMd), .slice (s.map encSel), .slice (l.map encAdv), str a, str b] (bl true) := by
 refine vft tt_ok [] 185 [.tmp 10] (fn := Tryz.f7) Tryz.func7 rfl Tryz.call7 ⟨rfl, rfl, by simp⟩ fun K hK => ?_
 have hT9 : Tryz.prog.underlying 9 = some .string := by kernel_rfl
 have sl : ∀ (a : ByteArray) (ty : TypeId), liftL Tryz.prog (Builtin.len_ #[9] ty) [.sc (.string a)] = some (num a.size) := fun a ty => ev_slen (P := Tryz.prog) (tt := tt) (T := 9) a hT9 ty
 simp only [List.length_map,sl,str_beq,go_sem,reduceIte,zA,zB,zC,zD,zE,zF,reduceCtorEq]
 refine cF (⟨_, rfl, haw⟩) ?_
 rintro _ rfl
 simp only [List.length_map,sl,str_beq,go_sem,reduceIte,zA,zB,zC,zD,zE,zF,reduceCtorEq]
 refine cF (small_ok p hl hw) ?_
 rintro _ ⟨b0, rfl⟩
 simp only [List.length_map,sl,str_beq,go_sem,reduceIte,zA,zB,zC,zD,zE,zF,reduceCtorEq]
 refine gif (fun hb3_3 => ?_) (fun hb3_3 => ?_)
 ·simp only [List.length_map,sl,str_beq,go_sem,reduceIte,zA,zB,zC,zD,zE,zF,reduceCtorEq]
  exact hK _ (by first | rfl | simp)
 ·simp only [List.length_map,sl,str_beq,go_sem,reduceIte,zA,zB,zC,zD,zE,zF,reduceCtorEq]
  refine gif (fun hb3_8 => ?_) (fun hb3_8 => ?_)
  ·simp only [List.length_map,sl,str_beq,go_sem,reduceIte,zA,zB,zC,zD,zE,zF,reduceCtorEq]
   exact hK _ (by first | rfl | simp)
  ·simp only [List.length_map,sl,str_beq,go_sem,reduceIte,zA,zB,zC,zD,zE,zF,reduceCtorEq]
   refine cF (few_ok l hla) ?_
   rintro _ ⟨b1, rfl⟩
   simp only [List.length_map,sl,str_beq,go_sem,reduceIte,zA,zB,zC,zD,zE,zF,reduceCtorEq]
   refine gif (fun hb3_13 => ?_) (fun hb3_13 => ?_)
   ·simp only [List.length_map,sl,str_beq,go_sem,reduceIte,zA,zB,zC,zD,zE,zF,reduceCtorEq]
    exact hK _ (by first | rfl | simp)
   ·simp only [List.length_map,sl,str_beq,go_sem,reduceIte,zA,zB,zC,zD,zE,zF,reduceCtorEq]
    refine gif (fun hb3_18 => ?_) (fun hb3_18 => ?_)
    ·simp only [List.length_map,sl,str_beq,go_sem,reduceIte,zA,zB,zC,zD,zE,zF,reduceCtorEq]
     exact hK _ (by first | rfl | simp)
    ·simp only [List.length_map,sl,str_beq,go_sem,reduceIte,zA,zB,zC,zD,zE,zF,reduceCtorEq]
     refine gif (fun hc42 => ?_) (fun hc42 => ?_)
     ·simp only [List.length_map,sl,str_beq,go_sem,reduceIte,zA,zB,zC,zD,zE,zF,reduceCtorEq]
      exact hK _ (by first | rfl | simp)
     ·simp only [List.length_map,sl,str_beq,go_sem,reduceIte,zA,zB,zC,zD,zE,zF,reduceCtorEq]
      refine cR (find_ok hG p hl hw hgl s hs l hla hab a b) ?_
      rintro _ _ ⟨rfl, F, e, rfl, hF⟩
      simp only [List.length_map,sl,str_beq,go_sem,reduceIte,zA,zB,zC,zD,zE,zF,reduceCtorEq]
      refine gif (fun hc53 => ?_) (fun hc53 => ?_)
      ·have he0 : e ≠ 0 := by simpa using hc53
       obtain ⟨-, rfl⟩ := hF.resolve_right fun h => he0 h.1
       simp only [nillen,List.length_map,sl,str_beq,go_sem,reduceIte,zA,zB,zC,zD,zE,zF,reduceCtorEq]
       exact hK _ (by first | rfl | simp)
      ·have he0 : e = 0 := by simpa using hc53
       obtain ⟨-, v, fl, hv, hS, rfl⟩ := hF.resolve_left fun h => h.1 he0
       have hfl := hS.len
       simp only [List.length_map,sl,str_beq,go_sem,reduceIte,zA,zB,zC,zD,zE,zF,reduceCtorEq]
       refine xloopL tt_ok [] [59,13] 0 [0,1,2,3,4,19,42,53,57,58] (fun vs => ((fl.length : Int) - Go.Eng.intOf (vs.headD .undef)).toNat) (fun vs => ∃ i k : Nat, vs = [num i, num k] ∧ i ≤ fl.length ∧ k ≤ l.length ∧ Sub (declP p) v s (l.drop k) (fl.drop i)) (by omega) (by simp only [List.length_map,sl,str_beq,go_sem,reduceIte,zA,zB,zC,zD,zE,zF,reduceCtorEq]) (⟨0, 0, rfl, Nat.zero_le _, Nat.zero_le _, hS⟩) fun vs hI Z1 hZ1 => ?_
       obtain ⟨i, k0, rfl, hi, hk0, hSi⟩ := hI
       simp only [List.length_map,sl,str_beq,go_sem,reduceIte,zA,zB,zC,zD,zE,zF,reduceCtorEq]
       refine gif (fun hc60 => ?_) (fun hc60 => ?_)
       ·have hlti : i < fl.length := by simpa using hc60
        have hwi := i64_succ i (by omega)
        obtain ⟨fd, hf⟩ : ∃ fd, fl[i]? = some fd := ⟨_, List.getElem?_eq_getElem hlti⟩
        have hcur : Sub (declP p) v s (l.drop k0) (fd :: fl.drop (i + 1)) := by rw [← drop_at hf]; exact hSi
        obtain ⟨ad0, -, hft⟩ := hcur.fits fd (List.mem_cons_self ..)
        have hch := hft.chn
        obtain ⟨z, hzl, -⟩ := hch.last
        have hc0 := hch.head
        have hcl0 : 0 < fd.chain.length := (List.getElem?_eq_some_iff.1 hc0).1
        have hcll := hch.len
        have hz : fd.chain[fd.chain.length - 1]? = some z := by rw [← List.getLast?_eq_getElem?]; exact hzl
        have hwl : IntKind.i64.wrap ((fd.chain.length : Int) - 1) = ((fd.chain.length - 1 : Nat) : Int) := i64_c _ _ (by omega) (by omega)
        have hlz : ((fd.chain.length - 1 : Nat) : Int) < (fd.chain.length : Int) := by omega
        have hl0 : (0 : Int) < (fd.chain.length : Int) := by omega
        simp only [hwi,hf,List.getElem?_map,encFnd,hz,hwl,hlz,hl0,hc0,encU,le00,toNat0,Option.map_some,List.length_map,sl,str_beq,go_sem,reduceIte,zA,zB,zC,zD,zE,zF,reduceCtorEq]
        refine xloopL tt_ok [] [13] 1 [0,1,2,3,4,10,15,19,42,53,57,58,59,60,61,62] (fun vs => ((l.length : Int) - Go.Eng.intOf (vs.headD .undef)).toNat) (fun vs => ∃ k : Nat, vs = [num k] ∧ k ≤ l.length ∧ Sub (declP p) v s (l.drop k) (fd :: fl.drop (i + 1))) (by omega) (by simp only [hwi,hf,List.getElem?_map,encFnd,hz,hwl,hlz,hl0,hc0,encU,le00,toNat0,Option.map_some,List.length_map,sl,str_beq,go_sem,reduceIte,zA,zB,zC,zD,zE,zF,reduceCtorEq]) (⟨k0, rfl, hk0, hcur⟩) fun vs hI Z2 hZ2 => ?_
        obtain ⟨k, rfl, hk, hck⟩ := hI
        simp only [hwi,hf,List.getElem?_map,encFnd,hz,hwl,hlz,hl0,hc0,encU,le00,toNat0,Option.map_some,List.length_map,sl,str_beq,go_sem,reduceIte,zA,zB,zC,zD,zE,zF,reduceCtorEq]
        refine xmixL tt_ok mixed_ok [⟨.n, 0, [], [], []⟩, ⟨.n, 0, [], [], []⟩, ⟨.n, 0, [], [], []⟩, ⟨.n, 0, [], [], []⟩, ⟨.n, 0, [], [], []⟩, ⟨.n, 0, [], [], []⟩, ⟨.n, 0, [], [], []⟩, ⟨.r, 0, [], [], []⟩, ⟨.n, 0, [], [], []⟩, ⟨.r, 0, [], [], []⟩, ⟨.n, 0, [], [], []⟩, ⟨.r, 0, [], [], []⟩, ⟨.n, 0, [], [], []⟩, ⟨.n, 0, [], [], []⟩, ⟨.n, 0, [], [], []⟩, ⟨.n, 0, [], [], []⟩, ⟨.r, 0, [], [], []⟩, ⟨.r, 0, [], [], []⟩, ⟨.n, 0, [], [], []⟩, ⟨.n, 0, [], [], []⟩, ⟨.n, 0, [], [], []⟩, ⟨.n, 0, [], [], []⟩, ⟨.n, 0, [], [], []⟩, ⟨.n, 0, [], [], []⟩, ⟨.r, 0, [], [], []⟩, ⟨.n, 0, [], [], []⟩, ⟨.n, 0, [], [], []⟩, ⟨.n, 0, [], [], []⟩, ⟨.n, 0, [], [], []⟩, ⟨.n, 0, [], [], []⟩, ⟨.r, 0, [], [], []⟩, ⟨.n, 0, [], [], []⟩, ⟨.r, 0, [], [], []⟩, ⟨.n, 0, [], [], []⟩, ⟨.n, 0, [], [], []⟩, ⟨.r, 0, [], [], []⟩, ⟨.n, 0, [], [], []⟩, ⟨.r, 0, [], [], []⟩, ⟨.n, 0, [], [], []⟩, ⟨.n, 0, [], [], []⟩, ⟨.r, 0, [], [], []⟩, ⟨.n, 0, [], [], []⟩, ⟨.r, 0, [], [], []⟩, ⟨.n, 0, [], [], []⟩, ⟨.n, 0, [], [], []⟩, ⟨.n, 0, [], [], []⟩, ⟨.n, 0, [], [], []⟩, ⟨.n, 0, [], [], []⟩, ⟨.r, 0, [], [], []⟩, ⟨.n, 0, [], [], []⟩, ⟨.r, 0, [], [], []⟩, ⟨.n, 0, [], [], []⟩, ⟨.r, 0, [], [], []⟩, ⟨.n, 0, [], [], []⟩, ⟨.r, 0, [], [], []⟩, ⟨.n, 0, [], [], []⟩, ⟨.n, 0, [], [], []⟩, ⟨.r, 0, [], [], []⟩, ⟨.n, 0, [], [], []⟩, ⟨.r, 0, [], [], []⟩, ⟨.n, 0, [], [], []⟩, ⟨.n, 0, [], [], []⟩, ⟨.n, 0, [], [], []⟩, ⟨.n, 0, [], [], []⟩] 0 (by kernel_rfl) ?_
        simp only [hwi,hf,List.getElem?_map,encFnd,hz,hwl,hlz,hl0,hc0,encU,le00,toNat0,Option.map_some,List.length_map,sl,str_beq,go_sem,reduceIte,zA,zB,zC,zD,zE,zF,reduceCtorEq]
        refine gif (fun hb12_4 => ?_) (fun hb12_4 => ?_)
        ·have hltk : k < l.length := by have := of_decide_eq_true hb12_4; omega
         have hwk := i64_succ k (by omega)
         obtain ⟨ad, hx⟩ : ∃ ad, l[k]? = some ad := ⟨_, List.getElem?_eq_getElem hltk⟩
         simp only [hwi,hf,List.getElem?_map,encFnd,hz,hwl,hlz,hl0,hc0,encU,le00,toNat0,Option.map_some,hwk,hx,encAdv,advCells,List.length_map,sl,str_beq,go_sem,reduceIte,zA,zB,zC,zD,zE,zF,reduceCtorEq]
         refine gif (fun hb12_13 => ?_) (fun hb12_13 => ?_)
         ·simp only [hwi,hf,List.getElem?_map,encFnd,hz,hwl,hlz,hl0,hc0,encU,le00,toNat0,Option.map_some,hwk,hx,encAdv,advCells,List.length_map,sl,str_beq,go_sem,reduceIte,zA,zB,zC,zD,zE,zF,reduceCtorEq]
          refine hZ2 _ (endK (by omega) (by simp only [hwi,hf,List.getElem?_map,encFnd,hz,hwl,hlz,hl0,hc0,encU,le00,toNat0,Option.map_some,hwk,hx,encAdv,advCells,List.length_map,sl,str_beq,go_sem,reduceIte,zA,zB,zC,zD,zE,zF,reduceCtorEq]) ?_ ?_) <;> simp only [lks,lk,reduceIte,zE]
          ·exact ⟨k + 1, rfl, hltk, hck.step_no hx (fun hf => by obtain ⟨m1, m2, m3, m4⟩ := hf.match hzl; first | (simp [m1] at hb12_13; done) | (simp [m2] at hb12_22; done) | (simp [m3] at hb12_45; done) | (simp [m4] at hc126; done) | (exfalso; have := of_decide_eq_true hb12_28; omega) | (exfalso; simp at hb12_28; omega))⟩
          ·simp only [Go.Eng.intOf,List.headD_cons]; omega
         ·simp only [hwi,hf,List.getElem?_map,encFnd,hz,hwl,hlz,hl0,hc0,encU,le00,toNat0,Option.map_some,hwk,hx,encAdv,advCells,List.length_map,sl,str_beq,go_sem,reduceIte,zA,zB,zC,zD,zE,zF,reduceCtorEq]
          refine cG (by have h := concs_ok ad (hab ad (List.mem_of_getElem? hx)).2.1 s hs; simp only [encAdv,advCells] at h; exact h) ?_
          rintro _ rfl
          simp only [hwi,hf,List.getElem?_map,encFnd,hz,hwl,hlz,hl0,hc0,encU,le00,toNat0,Option.map_some,hwk,hx,encAdv,advCells,List.length_map,sl,str_beq,go_sem,reduceIte,zA,zB,zC,zD,zE,zF,reduceCtorEq]
          refine gif (fun hb12_22 => ?_) (fun hb12_22 => ?_)
          ·simp only [hwi,hf,List.getElem?_map,encFnd,hz,hwl,hlz,hl0,hc0,encU,le00,toNat0,Option.map_some,hwk,hx,encAdv,advCells,List.length_map,sl,str_beq,go_sem,reduceIte,zA,zB,zC,zD,zE,zF,reduceCtorEq]
           refine hZ2 _ (endK (by omega) (by simp only [hwi,hf,List.getElem?_map,encFnd,hz,hwl,hlz,hl0,hc0,encU,le00,toNat0,Option.map_some,hwk,hx,encAdv,advCells,List.length_map,sl,str_beq,go_sem,reduceIte,zA,zB,zC,zD,zE,zF,reduceCtorEq]) ?_ ?_) <;> simp only [lks,lk,reduceIte,zE]
           ·exact ⟨k + 1, rfl, hltk, hck.step_no hx (fun hf => by obtain ⟨m1, m2, m3, m4⟩ := hf.match hzl; first | (simp [m1] at hb12_13; done) | (simp [m2] at hb12_22; done) | (simp [m3] at hb12_45; done) | (simp [m4] at hc126; done) | (exfalso; have := of_decide_eq_true hb12_28; omega) | (exfalso; simp at hb12_28; omega))⟩
           ·simp only [Go.Eng.intOf,List.headD_cons]; omega
          ·simp only [hwi,hf,List.getElem?_map,encFnd,hz,hwl,hlz,hl0,hc0,encU,le00,toNat0,Option.map_some,hwk,hx,encAdv,advCells,List.length_map,sl,str_beq,go_sem,reduceIte,zA,zB,zC,zD,zE,zF,reduceCtorEq]
           refine gif (fun hb12_28 => ?_) (fun hb12_28 => ?_)
           ·simp only [hwi,hf,List.getElem?_map,encFnd,hz,hwl,hlz,hl0,hc0,encU,le00,toNat0,Option.map_some,hwk,hx,encAdv,advCells,List.length_map,sl,str_beq,go_sem,reduceIte,zA,zB,zC,zD,zE,zF,reduceCtorEq]
            refine hZ2 _ (endK (by omega) (by simp only [hwi,hf,List.getElem?_map,encFnd,hz,hwl,hlz,hl0,hc0,encU,le00,toNat0,Option.map_some,hwk,hx,encAdv,advCells,List.length_map,sl,str_beq,go_sem,reduceIte,zA,zB,zC,zD,zE,zF,reduceCtorEq]) ?_ ?_) <;> simp only [lks,lk,reduceIte,zE]
            ·exact ⟨k + 1, rfl, hltk, hck.step_no hx (fun hf => by obtain ⟨m1, m2, m3, m4⟩ := hf.match hzl; first | (simp [m1] at hb12_13; done) | (simp [m2] at hb12_22; done) | (simp [m3] at hb12_45; done) | (simp [m4] at hc126; done) | (exfalso; have := of_decide_eq_true hb12_28; omega) | (exfalso; simp at hb12_28; omega))⟩
            ·simp only [Go.Eng.intOf,List.headD_cons]; omega
           ·simp only [hwi,hf,List.getElem?_map,encFnd,hz,hwl,hlz,hl0,hc0,encU,le00,toNat0,Option.map_some,hwk,hx,encAdv,advCells,List.length_map,sl,str_beq,go_sem,reduceIte,zA,zB,zC,zD,zE,zF,reduceCtorEq]
            refine gif (fun hb12_45 => ?_) (fun hb12_45 => ?_)
            ·simp only [hwi,hf,List.getElem?_map,encFnd,hz,hwl,hlz,hl0,hc0,encU,le00,toNat0,Option.map_some,hwk,hx,encAdv,advCells,List.length_map,sl,str_beq,go_sem,reduceIte,zA,zB,zC,zD,zE,zF,reduceCtorEq]
             refine hZ2 _ (endK (by omega) (by simp only [hwi,hf,List.getElem?_map,encFnd,hz,hwl,hlz,hl0,hc0,encU,le00,toNat0,Option.map_some,hwk,hx,encAdv,advCells,List.length_map,sl,str_beq,go_sem,reduceIte,zA,zB,zC,zD,zE,zF,reduceCtorEq]) ?_ ?_) <;> simp only [lks,lk,reduceIte,zE]
             ·exact ⟨k + 1, rfl, hltk, hck.step_no hx (fun hf => by obtain ⟨m1, m2, m3, m4⟩ := hf.match hzl; first | (simp [m1] at hb12_13; done) | (simp [m2] at hb12_22; done) | (simp [m3] at hb12_45; done) | (simp [m4] at hc126; done) | (exfalso; have := of_decide_eq_true hb12_28; omega) | (exfalso; simp at hb12_28; omega))⟩
             ·simp only [Go.Eng.intOf,List.headD_cons]; omega
            ·simp only [hwi,hf,List.getElem?_map,encFnd,hz,hwl,hlz,hl0,hc0,encU,le00,toNat0,Option.map_some,hwk,hx,encAdv,advCells,List.length_map,sl,str_beq,go_sem,reduceIte,zA,zB,zC,zD,zE,zF,reduceCtorEq]
             refine cG (contS ad.syms z.2 (hab ad (List.mem_of_getElem? hx)).2.2) ?_
             rintro _ rfl
             simp only [hwi,hf,List.getElem?_map,encFnd,hz,hwl,hlz,hl0,hc0,encU,le00,toNat0,Option.map_some,hwk,hx,encAdv,advCells,List.length_map,sl,str_beq,go_sem,reduceIte,zA,zB,zC,zD,zE,zF,reduceCtorEq]
             refine gif (fun hc126 => ?_) (fun hc126 => ?_)
             ·simp only [hwi,hf,List.getElem?_map,encFnd,hz,hwl,hlz,hl0,hc0,encU,le00,toNat0,Option.map_some,hwk,hx,encAdv,advCells,List.length_map,sl,str_beq,go_sem,reduceIte,zA,zB,zC,zD,zE,zF,reduceCtorEq]
              refine hZ2 _ (endK (by omega) (by simp only [hwi,hf,List.getElem?_map,encFnd,hz,hwl,hlz,hl0,hc0,encU,le00,toNat0,Option.map_some,hwk,hx,encAdv,advCells,List.length_map,sl,str_beq,go_sem,reduceIte,zA,zB,zC,zD,zE,zF,reduceCtorEq]) ?_ ?_) <;> simp only [lks,lk,reduceIte,zE]
              ·exact ⟨k + 1, rfl, hltk, hck.step_no hx (fun hf => by obtain ⟨m1, m2, m3, m4⟩ := hf.match hzl; first | (simp [m1] at hb12_13; done) | (simp [m2] at hb12_22; done) | (simp [m3] at hb12_45; done) | (simp [m4] at hc126; done) | (exfalso; have := of_decide_eq_true hb12_28; omega) | (exfalso; simp at hb12_28; omega))⟩
              ·simp only [Go.Eng.intOf,List.headD_cons]; omega
             ·have hcur2 := hck.step_yes hx
              obtain ⟨D, hD⟩ : ∃ D, D = dirU (declP p) v := ⟨_, rfl⟩
              obtain ⟨dv, hdv, hkv⟩ := leads_some hv
              have hU1 : usesL (declP p) v = D := by rw [usesL_val ⟨dv, hdv, hkv⟩, hD]
              have hU2 : usesL (declP p) (a, b) = D := by unfold usesL; rw [hv, hD]
              have hDl : D.length ≤ 1048576 := by rw [hD]; exact dirU_len hw hdv
              simp only [hwi,hf,List.getElem?_map,encFnd,hz,hwl,hlz,hl0,hc0,encU,le00,toNat0,Option.map_some,hwk,hx,encAdv,advCells,List.length_map,sl,str_beq,go_sem,reduceIte,zA,zB,zC,zD,zE,zF,reduceCtorEq]
              refine gif (fun hc132 => ?_) (fun hc132 => ?_)
              ·exact (by have := of_decide_eq_true hc132; omega : False).elim
              ·simp only [hwi,hf,List.getElem?_map,encFnd,hz,hwl,hlz,hl0,hc0,encU,le00,toNat0,Option.map_some,hwk,hx,encAdv,advCells,List.length_map,sl,str_beq,go_sem,reduceIte,zA,zB,zC,zD,zE,zF,reduceCtorEq]
               refine xmixL tt_ok mixed_ok [⟨.n, 0, [], [], []⟩, ⟨.n, 0, [], [], []⟩, ⟨.r, 0, [], [], []⟩, ⟨.r, 0, [], [], []⟩, ⟨.n, 0, [], [], []⟩, ⟨.r, 0, [], [], []⟩, ⟨.n, 0, [], [], []⟩, ⟨.r, 0, [], [], []⟩, ⟨.r, 0, [], [], []⟩, ⟨.n, 0, [], [], []⟩, ⟨.r, 0, [], [], []⟩, ⟨.n, 0, [], [], []⟩, ⟨.n, 0, [], [], []⟩] 0 (by kernel_rfl) ?_
               simp only [hwi,hf,List.getElem?_map,encFnd,hz,hwl,hlz,hl0,hc0,encU,le00,toNat0,Option.map_some,hwk,hx,encAdv,advCells,List.length_map,sl,str_beq,go_sem,reduceIte,zA,zB,zC,zD,zE,zF,reduceCtorEq]
               refine cG (by have h := uses_ok p v hl hw; unfold usesV at h; rw [hU1] at h; exact h) ?_
               rintro _ rfl
               simp only [hwi,hf,List.getElem?_map,encFnd,hz,hwl,hlz,hl0,hc0,encU,le00,toNat0,Option.map_some,hwk,hx,encAdv,advCells,List.length_map,sl,str_beq,go_sem,reduceIte,zA,zB,zC,zD,zE,zF,reduceCtorEq]
               refine cF (by have h := uses_ok p (a, b) hl hw; unfold usesV at h; rw [hU2] at h; exact h) ?_
               rintro _ rfl
               simp only [hwi,hf,List.getElem?_map,encFnd,hz,hwl,hlz,hl0,hc0,encU,le00,toNat0,Option.map_some,hwk,hx,encAdv,advCells,List.length_map,sl,str_beq,go_sem,reduceIte,zA,zB,zC,zD,zE,zF,reduceCtorEq]
               refine cF (by have h := sameUs_ok D D hDl; rw [decide_eq_true rfl] at h; exact h) ?_
               rintro _ rfl
               simp only [hwi,hf,List.getElem?_map,encFnd,hz,hwl,hlz,hl0,hc0,encU,le00,toNat0,Option.map_some,hwk,hx,encAdv,advCells,List.length_map,sl,str_beq,go_sem,reduceIte,zA,zB,zC,zD,zE,zF,reduceCtorEq]
               refine xloopL tt_ok [] [17] 1 [0,1,2,3,4,13,15,16,19,42,53,57,58,59,60,61,62,63,64,65,66,67,68,69,70,71,72,73,74,75,76,77,78,79,80,81,82,83,84,85,86,87,88,89,90,91,92,93,94,95,96,97,98,99,100,101,102,103,104,105,106,107,108,109,110,111,112,113,114,115,116,117,118,119,120,121,122,123,124,125,126,127,128,129,130,131,132,133,134,135,136,137,138,139,140,141,142,143,144,145,146,147,148,149,150,151,152,153] (fun vs => ((fd.chain.length : Int) - Go.Eng.intOf (vs.headD .undef)).toNat) (fun vs => ∃ j : Nat, vs = [num j] ∧ 1 ≤ j) (by omega) (by simp only [hwi,hf,List.getElem?_map,encFnd,hz,hwl,hlz,hl0,hc0,encU,le00,toNat0,Option.map_some,hwk,hx,encAdv,advCells,List.length_map,sl,str_beq,go_sem,reduceIte,zA,zB,zC,zD,zE,zF,reduceCtorEq]) (⟨1, rfl, Nat.le_refl _⟩) fun vs hI Z3 hZ3 => ?_
               obtain ⟨j, rfl, hj⟩ := hI
               simp only [hwi,hf,List.getElem?_map,encFnd,hz,hwl,hlz,hl0,hc0,encU,le00,toNat0,Option.map_some,hwk,hx,encAdv,advCells,List.length_map,sl,str_beq,go_sem,reduceIte,zA,zB,zC,zD,zE,zF,reduceCtorEq]
               refine gif (fun hc158 => ?_) (fun hc158 => ?_)
               ·have hltj : j < fd.chain.length := by have := of_decide_eq_true hc158; omega
                have hwj := i64_succ j (by omega)
                obtain ⟨y, hy⟩ : ∃ y, fd.chain[j]? = some y := ⟨_, List.getElem?_eq_getElem hltj⟩
                obtain ⟨x, hxx⟩ : ∃ x, fd.chain[j - 1]? = some x := ⟨_, List.getElem?_eq_getElem (by omega)⟩
                have hwm : IntKind.i64.wrap ((j : Int) - 1) = ((j - 1 : Nat) : Int) := i64_c _ _ (by omega) (by omega)
                have hlm : ((j - 1 : Nat) : Int) < (fd.chain.length : Int) := by omega
                have hlj : ((j : Nat) : Int) < (fd.chain.length : Int) := by omega
                have hxv := hch.val x (List.mem_of_getElem? hxx)
                have hU3 := usesL_val hxv
                obtain ⟨dx, hdx, hkx⟩ := hxv
                have hDx : (dirU (declP p) x).length ≤ 1048576 := dirU_len hw hdx
                have hyx : hasU (dirU (declP p) x) y = true := hasU_mem (hch.link (j - 1) x y hxx (by rw [show j - 1 + 1 = j by omega]; exact hy))
                simp only [hwi,hf,List.getElem?_map,encFnd,hz,hwl,hlz,hl0,hc0,encU,le00,toNat0,Option.map_some,hwk,hx,encAdv,advCells,hwj,hy,hxx,hwm,hlm,hlj,List.length_map,sl,str_beq,go_sem,reduceIte,zA,zB,zC,zD,zE,zF,reduceCtorEq]
                refine xmixL tt_ok mixed_ok [⟨.n, 0, [], [], []⟩, ⟨.n, 0, [], [], []⟩, ⟨.r, 0, [], [], []⟩, ⟨.n, 0, [], [], []⟩, ⟨.n, 0, [], [], []⟩, ⟨.r, 0, [], [], []⟩, ⟨.n, 0, [], [], []⟩, ⟨.r, 0, [], [], []⟩, ⟨.n, 0, [], [], []⟩, ⟨.r, 0, [], [], []⟩, ⟨.n, 0, [], [], []⟩, ⟨.n, 0, [], [], []⟩, ⟨.r, 0, [], [], []⟩, ⟨.n, 0, [], [], []⟩, ⟨.r, 0, [], [], []⟩, ⟨.n, 0, [], [], []⟩, ⟨.n, 0, [], [], []⟩, ⟨.r, 0, [], [], []⟩, ⟨.n, 0, [], [], []⟩, ⟨.r, 0, [], [], []⟩, ⟨.r, 0, [], [], []⟩, ⟨.n, 0, [], [], []⟩, ⟨.n, 0, [], [], []⟩] 0 (by kernel_rfl) ?_
                simp only [hwi,hf,List.getElem?_map,encFnd,hz,hwl,hlz,hl0,hc0,encU,le00,toNat0,Option.map_some,hwk,hx,encAdv,advCells,hwj,hy,hxx,hwm,hlm,hlj,List.length_map,sl,str_beq,go_sem,reduceIte,zA,zB,zC,zD,zE,zF,reduceCtorEq]
                refine cG (by have h := uses_ok p x hl hw; unfold usesV at h; rw [hU3] at h; exact h) ?_
                rintro _ rfl
                simp only [hwi,hf,List.getElem?_map,encFnd,hz,hwl,hlz,hl0,hc0,encU,le00,toNat0,Option.map_some,hwk,hx,encAdv,advCells,hwj,hy,hxx,hwm,hlm,hlj,List.length_map,sl,str_beq,go_sem,reduceIte,zA,zB,zC,zD,zE,zF,reduceCtorEq]
                refine cG (by have h := contU (dirU (declP p) x) y hDx; rw [hyx] at h; simp only [encU] at h; exact h) ?_
                rintro _ rfl
                simp only [hwi,hf,List.getElem?_map,encFnd,hz,hwl,hlz,hl0,hc0,encU,le00,toNat0,Option.map_some,hwk,hx,encAdv,advCells,hwj,hy,hxx,hwm,hlm,hlj,List.length_map,sl,str_beq,go_sem,reduceIte,zA,zB,zC,zD,zE,zF,reduceCtorEq]
                refine hZ3 _ (endK (by omega) (by simp only [hwi,hf,List.getElem?_map,encFnd,hz,hwl,hlz,hl0,hc0,encU,le00,toNat0,Option.map_some,hwk,hx,encAdv,advCells,hwj,hy,hxx,hwm,hlm,hlj,List.length_map,sl,str_beq,go_sem,reduceIte,zA,zB,zC,zD,zE,zF,reduceCtorEq]) ?_ ?_) <;> simp only [lks,lk,reduceIte,zE]
                ·exact ⟨j + 1, rfl, by omega⟩
                ·simp only [Go.Eng.intOf,List.headD_cons]; omega
               ·simp only [hwi,hf,List.getElem?_map,encFnd,hz,hwl,hlz,hl0,hc0,encU,le00,toNat0,Option.map_some,hwk,hx,encAdv,advCells,List.length_map,sl,str_beq,go_sem,reduceIte,zA,zB,zC,zD,zE,zF,reduceCtorEq]
                refine hZ1 _ (endK (by omega) (by simp only [hwi,hf,List.getElem?_map,encFnd,hz,hwl,hlz,hl0,hc0,encU,le00,toNat0,Option.map_some,hwk,hx,encAdv,advCells,List.length_map,sl,str_beq,go_sem,reduceIte,zA,zB,zC,zD,zE,zF,reduceCtorEq]) ?_ ?_) <;> simp only [lks,lk,reduceIte,zE]
                ·exact ⟨i + 1, k + 1, rfl, hlti, hltk, hcur2⟩
                ·simp only [Go.Eng.intOf,List.headD_cons]; omega
        ·exact (hck.no_nil (by have := of_decide_eq_false hb12_4; omega)).elim
       ·simp only [List.length_map,sl,str_beq,go_sem,reduceIte,zA,zB,zC,zD,zE,zF,reduceCtorEq]
        exact hK _ (by first | rfl | simp)
end Go.Proofs.YtefbaladomfccaaGreatDoor
end

section
namespace Go.Proofs.YtefbaladomfccaaGreatDoor.lawAdvisoryChains
open Go.Eng
set_option maxRecDepth 100000
open Go.ChangeShapes Go.WideShapes Go.ChangeAt Go.RowKit
theorem contract (H : Type) (enc : TypeId × Value → H) (W : World) (args : Array Value) (ds gs : List (DataW H)) (before : List MemPlace) (base : Nat)
  (hok : ∀ (j : Nat) t v, Tryz.f7.params[j]? = some t → args[j]? = some v → Value.okWide Tryz.prog W .any base t v)
  (hW : DataW.Whole enc Tryz.prog Tryz.f7.params.toList Rows.advisoryChainsSpec.vars false W args.toList ds gs before) (hb : Rows.uptoBulkAll (ds ++ gs) ≤ 1048576) (hS : W.ShapedOpen Tryz.prog) :
  Calls Tryz.prog 7 args W fun e W' => ∃ v, e = .returned v ∧ Rows.advisoryChainsSpec.post enc Tryz.prog Tryz.f7 false true false false W args v W' := by
 have hW' := hW
 have hlt := hW.lt
 obtain ⟨p, q, hA0, hV, rfl, hfz, hnd⟩ := hW
 have hA : DataW.TrodAll enc Tryz.prog W 0 (fun _ => true) true Tryz.f7.params.toList args.toList ds p := hA0
 rw [Tryz.params7] at hA
 obtain ⟨v0, vs0, d0, ds0, p0, q0, hargs, rfl, rfl, h0, r0⟩ := trodAll_cons hA
 obtain ⟨v1, vs1, d1, ds1, p1, q1, rfl, rfl, rfl, h1, r1⟩ := trodAll_cons r0
 obtain ⟨v2, vs2, d2, ds2, p2, q2, rfl, rfl, rfl, h2, r2⟩ := trodAll_cons r1
 obtain ⟨v3, vs3, d3, ds3, p3, q3, rfl, rfl, rfl, h3, r3⟩ := trodAll_cons r2
 obtain ⟨v4, vs4, d4, ds4, p4, q4, rfl, rfl, rfl, h4, r4⟩ := trodAll_cons r3
 obtain ⟨rfl, rfl, rfl⟩ := trodAll_nil r4
 obtain rfl : args = #[v0, v1, v2, v3, v4] := by cases args; simp_all
 obtain ⟨rfl, rfl⟩ := trodVars_none hV
 rw [Tryz.params7] at hok
 obtain ⟨a0, l0, c0, rfl⟩ := okWide_slice Tryz.underlying23 (hok 0 23 v0 rfl rfl)
 obtain ⟨a1, l1, c1, rfl⟩ := okWide_slice Tryz.underlying24 (hok 1 24 v1 rfl rfl)
 obtain ⟨a2, l2, c2, rfl⟩ := okWide_slice Tryz.underlying25 (hok 2 25 v2 rfl rfl)
 obtain ⟨s3, rfl⟩ := okWide_string Tryz.underlying9 (hok 3 9 v3 rfl rfl)
 obtain ⟨s4, rfl⟩ := okWide_string Tryz.underlying9 (hok 4 9 v4 rfl rfl)
 clear hok
 clear hA0 hA r0 r1 r2 r3 r4 hargs hV
 simp only [List.append_nil] at hW' hlt
 simp only [ltb,List.append_nil,Rows.uptoBulkAll] at hb
 have h0' := h0
 have h1' := h1
 have h2' := h2
 have h3' := h3
 have h4' := h4
 obtain ⟨f0, h0⟩ := h0
 obtain ⟨f1, h1⟩ := h1
 obtain ⟨f2, h2⟩ := h2
 have main : Calls Tryz.prog 7 #[.slice a0 l0 c0, .slice a1 l1 c1, .slice a2 l2 c2, .string s3, .string s4] W fun e W' => e = .returned (.bool true) ∧ Below W.heap.size W W' := by
  obtain ⟨n, hn⟩ := maxLen_at hS
  have go : ∀ (G : Glob) (hG : G.g = some 0) (hg : @Gl G W.cell?), Calls Tryz.prog 7 #[.slice a0 l0 c0, .slice a1 l1 c1, .slice a2 l2 c2, .string s3, .string s4] W fun e W' => e = .returned (.bool true) ∧ Below W.heap.size W W' := fun G hG hg => by
   have haw : FnOk Tryz.prog 8 [] (bl true) := awake_ok hG
   obtain ⟨x0, hx0, b0⟩ := rd_mds (F := W.cell?) (hg := hg) rfl h0
   obtain ⟨x1, hx1, b1⟩ := rd_Sels (F := W.cell?) (hg := hg) rfl h1
   obtain ⟨x2, hx2, b2⟩ := rd_Advs (F := W.cell?) (hg := hg) rfl h2
   obtain ⟨x3, ht3, b3⟩ := rd_str (F := W.cell?) (hg := hg) (Exists.choose_spec h3)
   have e3 : x3 = s3 := by have h := rep_sc (ht3.1.2 0 _ _ rfl rfl); exact (Value.string.inj h).symm
   subst e3
   obtain ⟨x4, ht4, b4⟩ := rd_str (F := W.cell?) (hg := hg) (Exists.choose_spec h4)
   have e4 : x4 = s4 := by have h := rep_sc (ht4.1.2 0 _ _ rfl rfl); exact (Value.string.inj h).symm
   subst e4
   obtain ⟨rr, hrr, hc⟩ : ∃ r_, r_ = bl true ∧ FnOk Tryz.prog 7 [.slice (x0.map encMd), .slice (x1.map encSel), .slice (x2.map encAdv), str x3, str x4] r_ := by
    obtain ⟨r_, h1, h2⟩ := (⟨_, rfl, lawChains_ok hG haw x0 (mds_B (l := x0) (by omega)).1 (mds_B (l := x0) (by omega)).2 (decG_len (by omega)) x1 (sels_B (l := x1) (by omega)) x2 (advs_B (l := x2) (by omega)).1 (advs_B (l := x2) (by omega)).2 x3 x4⟩ : ∃ r_, r_ = bl true ∧ FnOk Tryz.prog 7 _ r_)
    exact ⟨r_, h1, h2⟩
   subst hrr
   refine (hc.2 W.cell? hg W #[.slice a0 l0 c0, .slice a1 l1 c1, .slice a2 l2 c2, .string x3, .string x4] (fun _ _ h => h) ?_).mono fun o W' h => ?_
   ·exact .cons (rep_sl hx0) (.cons (rep_sl hx1) (.cons (rep_sl hx2) (.cons (.sc _ _) (.cons (.sc _ _) (.nil _)))))
   ·obtain ⟨F', x, rfl, -, -, -, ⟨hg', hx⟩, hbel⟩ := h
    obtain rfl := rep_sc hx
    exact ⟨rfl, hbel⟩
  exact go (gOf n) rfl (@Gl.mk (gOf n) _ (fun g hg => by cases hg; exact hn) (fun g cs j x h => by cases h))
 refine main.mono fun e W' ⟨he, hbel⟩ => ?_
 subst he
 have hlaid : laidOutB Tryz.prog = true := by kernel_rfl
 refine ⟨_, rfl, post_kept (pa := p0 ++ (p1 ++ (p2 ++ (p3 ++ (p4 ++ []))))) (pv := []) hW' (fun _ _ _ => trodAll_cons_mk (shut_bool Tryz.underlying4 _) trodAll_mk0) (fun sp hsp => ?_) (fun _ _ => rfl) (by simp)
  hbel (ok_one (by kernel_rfl) rfl (okWide_bool_mk Tryz.underlying4 _))⟩
 ·refine trodAll_cons_mk (WideElems.Trod_stays hlaid (by kernel_rfl) (of_decide_eq_true (by kernel_rfl)) h0' (fun x hx => hbel.same (hlt x (by simp [hx]))) (fun x hx => hsp x (by simp [hx])))
   (trodAll_cons_mk (WideElems.Trod_stays hlaid (by kernel_rfl) (of_decide_eq_true (by kernel_rfl)) h1' (fun x hx => hbel.same (hlt x (by simp [hx]))) (fun x hx => hsp x (by simp [hx])))
   (trodAll_cons_mk (WideElems.Trod_stays hlaid (by kernel_rfl) (of_decide_eq_true (by kernel_rfl)) h2' (fun x hx => hbel.same (hlt x (by simp [hx]))) (fun x hx => hsp x (by simp [hx])))
   (trodAll_cons_mk (WideElems.Trod_stays hlaid (by kernel_rfl) (of_decide_eq_true (by kernel_rfl)) h3' (fun x hx => hbel.same (hlt x (by simp [hx]))) (fun x hx => hsp x (by simp [hx])))
   (trodAll_cons_mk (WideElems.Trod_stays hlaid (by kernel_rfl) (of_decide_eq_true (by kernel_rfl)) h4' (fun x hx => hbel.same (hlt x (by simp [hx]))) (fun x hx => hsp x (by simp [hx])))
   trodAll_mk0))))
end Go.Proofs.YtefbaladomfccaaGreatDoor.lawAdvisoryChains
end

section
namespace Go.Proofs.YtefbaladomfccaaGreatDoor
open Go.ChangeShapes Go.WideShapes Go.ChangeAt Go.RowKit
theorem own : ownKnob Tryz.prog.godebug = none := by kernel_rfl
def layAs (cs : Array Value) : Obj → Obj
 | .cells _ t frozen => .cells cs t frozen
 | o => o
def accZ : List Nat := [128,191,160,191,128,159,144,191,128,143,0,0,0,0,0,0,0,0,0,0,0,0,0,0,0,0,0,0,0,0,0,0]
noncomputable def laidWorld (os : Os) : World :=
 { World.holding Tryz.prog os ⟨#[], #[], []⟩ with heap := ((World.holding Tryz.prog os ⟨#[], #[], []⟩).heap.modify 1 (layAs ⟨Pinned.utf8FirstZ.map fun n => Value.int .u8 (Int.ofNat n)⟩)).modify 2 (layAs ⟨accZ.map fun n => Value.int .u8 (Int.ofNat n)⟩) }
end Go.Proofs.YtefbaladomfccaaGreatDoor
end
