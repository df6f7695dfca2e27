/-
  CONTRACTS: Findings exactly, by the program.
  PLAIN: keywords, segments and versions of paths, as the reference of layer 3 finds them.
  CONTRACTS: names, by the reference.
  CONTRACTS: versions of paths, by the reference.
  CONTRACTS: paths, by the reference.
  CONTRACTS: lines, comparing, by the reference.
  CONTRACTS: Canonical, by the reference.
  CONTRACTS: Check, Concerns, Increasing, by the reference.
  PLAIN: least ways in a graph of numbers: distances found by rounds, and the greedy way along them.
  CONTRACTS: positions, values, the graph of the uses, by the reference.
  CONTRACTS: graphs, by the reference.
  CONTRACTS: least ways, by the reference.
  CONTRACTS: types and sizes of expressions, by the reference.
  CONTRACTS: equality of types, sizes of modules, by the reference: that they answer.
-/
import Derived.Test.YtefbaladomfccaaGreatDoorJ11
set_option linter.all false
section
namespace Go.Proofs.YtefbaladomfccaaGreatDoor
open Go.Eng
open Nat renaming reduceAdd → zA, reduceLT → zB, reduceLeDiff → zC, reduceMul → zD, reduceEqDiff → zE, reduceSub → zF
variable [aK]
set_option maxHeartbeats 4000000
set_option maxRecDepth 100000
def kB (look : Us → Option Dc) (z : Us) : Bool := match look z with | some d => decide (d.kind = 1) | none => false
def JK (look : Us → Option Dc) (a : fQ) (z : Us) : Bool := decide (z.1 = a.path) && ju a.syms z.2 && kB look z
theorem zS (u : Us) (b : Bool) (z : Us) : ∀ T : xl, oi (rf u b T) z = if u = z then b else oi T z
 | [] => by
  unfold rf oi jF
  by_cases hz : u = z
  ·rw [List.find?_cons_of_pos (by simpa using hz), if_pos hz]; rfl
  ·rw [List.find?_cons_of_neg (by simpa using hz), if_neg hz]
 | e :: r => by
  have ih := zS u b z r
  unfold rf
  unfold oi jF at ih ⊢
  by_cases he : e.1 = u
  ·rw [if_pos he]
   by_cases hz : u = z
   ·rw [List.find?_cons_of_pos (by simpa using hz), if_pos hz]; rfl
   ·rw [List.find?_cons_of_neg (by simpa using hz), if_neg hz, List.find?_cons_of_neg (by rw [he]; simpa using hz)]
  ·rw [if_neg he]
   by_cases hz : e.1 = z
   ·rw [List.find?_cons_of_pos (by simpa using hz), List.find?_cons_of_pos (by simpa using hz), if_neg (fun h => he (hz.trans h.symm))]
   ·rw [List.find?_cons_of_neg (by simpa using hz), List.find?_cons_of_neg (by simpa using hz)]; exact ih
theorem DE {look : Us → Option Dc} {T : xl} {pa n : ByteArray} {S : List ByteArray} {b : Bool} (hb : b = kB look (pa, n)) (h : ∀ z, oi T z = (decide (z.1 = pa) && ju S z.2 && kB look z)) (z : Us) :
  oi (rf (pa, n) b T) z = (decide (z.1 = pa) && ju (S ++ [n]) z.2 && kB look z) := by
 rw [zS, qe, h z]
 by_cases hz : (pa, n) = z
 ·subst hz; rw [if_pos rfl, hb]; simp
 ·rw [if_neg hz]
  by_cases h1 : z.1 = pa
  ·have : ¬ n = z.2 := fun e => hz (by rw [← h1, e])
   rw [decide_eq_false this, Bool.or_false]
  ·rw [decide_eq_false h1]; rfl
section
variable (look : Us → Option Dc) (v : Us) (s : List kr)
def MR (a : fQ) : Prop := s.any (fJ a) = false ∨ ∀ x P, Way (dW look) v x P → JK look a x = false
def Q1 (a : fQ) (c : List Us) : Prop := (s.any (fJ a) = true ∧ c.length ≤ 1048576) ∧ nA (dW look) v dM (JK look a) c
inductive lG : List fQ → List Ix → Prop
 | nil : lG [] []
 | skip {l fl a} : MR look v s a → lG l fl → lG (a :: l) fl
 | take {l fl a c} : Q1 look v s a c → lG l fl → lG (a :: l) (⟨a.id, c⟩ :: fl)
variable {look v s}
theorem lG.mr {l fl a} (h : lG look v s l fl) (ha : MR look v s a) : lG look v s (l ++ [a]) fl := by
 induction h with
 | nil => exact .skip ha .nil
 | skip hb _ ih => exact .skip hb ih
 | take hf _ ih => exact .take hf ih
theorem lG.pe {l fl a c} (h : lG look v s l fl) (ha : Q1 look v s a c) : lG look v s (l ++ [a]) (fl ++ [⟨a.id, c⟩]) := by
 induction h with
 | nil => exact .take ha .nil
 | skip hb _ ih => exact .skip hb ih
 | take hf _ ih => exact .take hf ih
theorem lG.len {l fl} (h : lG look v s l fl) : fl.length ≤ l.length := by
 induction h with
 | nil => exact Nat.le_refl _
 | skip _ _ ih => simp only [List.length_cons]; omega
 | take _ _ ih => simp only [List.length_cons]; omega
theorem lG.PQ {l fl} (h : lG look v s l fl) : ∀ f ∈ fl, f.chain.length ≤ 1048576 := by
 induction h with
 | nil => intro f hf; simp at hf
 | skip _ _ ih => exact ih
 | take hf _ ih =>
  intro f h2
  rcases List.mem_cons.1 h2 with rfl | h2
  ·exact hf.1.2
  ·exact ih f h2
theorem MR.no {a c} (h : MR look v s a) (h2 : Q1 look v s a c) : False := by
 rcases h with h | h
 ·rw [h2.1.1] at h; cases h
 ·obtain ⟨⟨x, hx, tx⟩, -⟩ := h2.2
  rw [h x _ hx] at tx; cases tx
theorem lG.unique : ∀ {l f1 f2}, lG look v s l f1 → lG look v s l f2 → f1 = f2
 | [], _, _, h1, h2 => by cases h1; cases h2; rfl
 | a :: l, _, _, h1, h2 => by
  cases h1 with
  | skip a1 b1 =>
   cases h2 with
   | skip a2 b2 => exact lG.unique b1 b2
   | take a2 b2 => exact (a1.no a2).elim
  | take a1 b1 =>
   cases h2 with
   | skip a2 b2 => exact (a2.no a1).elim
   | take a2 b2 => rw [a1.2.unique jr a2.2, lG.unique b1 b2]
end
def mu (look : Us → Option Dc) (s : List kr) (l : List fQ) (u : Us) : Int := if iX l ≠ 0 then iX l else if nY s = false then 1 else if leads look u = none then 6 else 0
theorem MS {look : Us → Option Dc} {s : List kr} {l : List fQ} {u : Us} (h : iX l ≠ 0) : mu look s l u = iX l := if_pos h
theorem MT {look : Us → Option Dc} {s : List kr} {l : List fQ} {u : Us} (h : iX l = 0) (h2 : nY s = false) : mu look s l u = 1 := by unfold mu; rw [if_neg (by simpa using h), if_pos h2]
theorem MU {look : Us → Option Dc} {s : List kr} {l : List fQ} {u : Us} (h : iX l = 0) (h2 : nY s = true) (h3 : leads look u = none) : mu look s l u = 6 := by unfold mu; rw [if_neg (by simpa using h), if_neg (by rw [h2]; simp), if_pos h3]
theorem MV {look : Us → Option Dc} {s : List kr} {l : List fQ} {u v : Us} (h : iX l = 0) (h2 : nY s = true) (h3 : leads look u = some v) : mu look s l u = 0 := by unfold mu; rw [if_neg (by simpa using h), if_neg (by rw [h2]; simp), if_neg (by rw [h3]; simp)]
theorem Fm (g : GD) (T : xl) (s : Us) (hg : g.length ≤ 1048576) (KX : ∀ u d, aY u g = some d → d.wt ≤ 1048576) (hs : isVal (fun v => aY v g) s) (M : List aC) (k k2 : Nat) (hk : M[k]? = some (.map (b8 cI 0 (bn g)) (bn g).length)) (iz : M[k2]? = some (.map (b8 cI 0 (ca T)) (ca T).length)) (bL : k ≠ k2) :
  ∃ r_, (fun r : V => (r = V.sc (.slice none 0 0) ∧ ∀ x P, Way (dW (fun v => aY v g)) s x P → oi T x = false) ∨ ∃ c : List Us, c ≠ [] ∧ r = V.slice (c.map az) ∧ QU (fun v => aY v g) s (oi T) c ∧ nA (dW (fun v => aY v g)) s dM (oi T) c) r_ ∧ bF Tryz.prog 40 [.mp k, .agg [str s.1, str s.2], .mp k2] M r_ M := by
 obtain ⟨r, hr, h⟩ := Fl g T s hg KX hs
 have JV : ∀ σ, dm σ r = r := fun σ => by
  rcases hr with ⟨rfl, -⟩ | ⟨c, -, rfl, -⟩
  ·rfl
  ·exact pX σ (by simp [ah])
 have hrb : ah 2 r = true := by
  rcases hr with ⟨rfl, -⟩ | ⟨c, -, rfl, -⟩
  ·rfl
  ·simp [ah]
 have h3 := Fh h M k k2 (by simp [ah, bA, az]) (by simp [aB, ab, ag]) hrb (fun σ => vm σ g _) (fun σ => Fi σ T _) hk iz bL
 rw [JV] at h3
 exact ⟨r, hr, by simpa [kp, dm, az, σ2] using h3⟩
theorem IF (hG : aK.g = some 0) (p : List Md) (hl : p.length ≤ 1048576) (hw : ∀ m ∈ p, m.wt ≤ 1048576) (hgl : (gf p).length ≤ 1048576) (s : List kr) (hs : s.length ≤ 1048576) (l : List fQ) (Jv : l.length ≤ 1048576) (jA : ∀ a ∈ l, MG a) (mo nm : ByteArray) : fm Tryz.prog 11 [.slice (p.map dv), .slice (s.map a6), .slice (l.map ay), str mo, str nm] ([]) (fun (r : V) (m : List aC) => m = [] ∧ ∃ (F : V) (e : Int), r = V.ch [F, num e] ∧ e = mu (ae p) s l (mo, nm) ∧ ((e ≠ 0 ∧ F = V.sc (.slice none 0 0)) ∨ (e = 0 ∧ ∃ v fl, leads (ae p) (mo, nm) = some v ∧ lG (ae p) v s l fl ∧ F = V.slice (fl.map bT)))) := by
 refine vfr tt_ok [33] 114 [.tmp 10, .tmp 11] (0) (by simp) (fn := Tryz.f11) Tryz.func11 rfl Tryz.call11 ⟨rfl, rfl, by simp⟩ fun K hK => ?_
 have gv : Tryz.prog.underlying 9 = some .string := by kernel_rfl
 have sl : ∀ (a : ByteArray) (ty : TypeId), dh Tryz.prog (Builtin.len_ #[9] ty) [.sc (.string a)] = some (num a.size) := fun a ty => cH (P := Tryz.prog) (tt := tt) (T := 9) a gv ty
 simp only [ab,ag,List.length_map,sl,aE,go_sem,reduceIte,zA,zB,zC,zD,zE,zF,reduceCtorEq]
 refine bk tt_ok [33] [29] 0 [0,1,2,3,4,27,28] (fun vs => ((l.length : Int) - Go.Eng.intOf (vs.headD .undef)).toNat) (fun vs => ∃ i : Nat, vs = [num i] ∧ i ≤ l.length ∧ iX l = iX (l.drop i)) (by omega) (by simp only [ab,ag,List.length_map,sl,aE,go_sem,reduceIte,zA,zB,zC,zD,zE,zF,reduceCtorEq]) (⟨0, rfl, Nat.zero_le _, rfl⟩) fun vs hI Z1 bX => ?_
 obtain ⟨i, rfl, hi, bp⟩ := hI
 simp only [ab,ag,List.length_map,sl,aE,go_sem,reduceIte,zA,zB,zC,zD,zE,zF,reduceCtorEq]
 refine aT (fun rb => ?_) (fun rb => ?_)
 ·have bD : i < l.length := by simpa using rb
  have aP := aq i (by omega)
  obtain ⟨a, hx⟩ : ∃ a, l[i]? = some a := ⟨_, List.getElem?_eq_getElem bD⟩
  obtain ⟨T6, xO, T7⟩ := jA a (List.mem_of_getElem? hx)
  simp only [ab,ag,aP,hx,List.getElem?_map,ay,aj,List.length_map,sl,aE,go_sem,reduceIte,zA,zB,zC,zD,zE,zF,reduceCtorEq]
  refine cF (by have h := Lo hG a (jA a (List.mem_of_getElem? hx)); simp only [ay,aj] at h; exact h) ?_
  rintro _ rfl
  simp only [ab,ag,aP,hx,List.getElem?_map,ay,aj,List.length_map,sl,aE,go_sem,reduceIte,zA,zB,zC,zD,zE,zF,reduceCtorEq]
  refine aT (fun nU => ?_) (fun nU => ?_)
  ·have he : ir a ≠ 0 := by simpa using nU
   have ZB : iX l = ir a := by rw [bp, mX hx, if_neg he]
   have ax : (fun (r : V) (m : List aC) => m = [] ∧ ∃ (F : V) (e : Int), r = V.ch [F, num e] ∧ e = mu (ae p) s l (mo, nm) ∧ ((e ≠ 0 ∧ F = V.sc (.slice none 0 0)) ∨ (e = 0 ∧ ∃ v fl, leads (ae p) (mo, nm) = some v ∧ lG (ae p) v s l fl ∧ F = V.slice (fl.map bT)))) (.ch [.sc (.slice none 0 0), num (ir a)]) [] := ⟨rfl, _, _, rfl, by rw [MS (by rw [ZB]; exact he), ZB], .inl ⟨he, rfl⟩⟩
   simp only [ab,ag,aP,hx,List.getElem?_map,ay,aj,List.length_map,sl,aE,go_sem,reduceIte,zA,zB,zC,zD,zE,zF,reduceCtorEq]
   exact hK _ _ ax
  ·simp only [ab,ag,aP,hx,List.getElem?_map,ay,aj,List.length_map,sl,aE,go_sem,reduceIte,zA,zB,zC,zD,zE,zF,reduceCtorEq]
   refine bX _ (b5 (by omega) (by simp only [ab,ag,aP,hx,List.getElem?_map,ay,aj,List.length_map,sl,aE,go_sem,reduceIte,zA,zB,zC,zD,zE,zF,reduceCtorEq]) ?_ ?_) <;> simp only [dY,lk,reduceIte,zE]
   ·exact ⟨i + 1, rfl, bD, by rw [bp, mX hx, if_pos (by simpa using nU)]⟩
   ·simp only [Go.Eng.intOf,List.headD_cons]; omega
 ·have PR : l.length ≤ i := by have := of_decide_eq_false rb; omega
  have hA : iX l = 0 := by rw [bp, zP PR]
  simp only [ab,ag,List.length_map,sl,aE,go_sem,reduceIte,zA,zB,zC,zD,zE,zF,reduceCtorEq]
  refine bk tt_ok [33] [15] 0 [0,1,2,3,4,30,36] (fun vs => ((s.length : Int) - Go.Eng.intOf (vs.headD .undef)).toNat) (fun vs => ∃ i : Nat, vs = [num i] ∧ 1 ≤ i ∧ ∀ (j : Nat) x y, j + 1 < i → s[j]? = some x → s[j + 1]? = some y → qb x.path y.path = true) (by omega) (by simp only [ab,ag,List.length_map,sl,aE,go_sem,reduceIte,zA,zB,zC,zD,zE,zF,reduceCtorEq]) (⟨1, rfl, Nat.le_refl _, fun j x y h => absurd h (by omega)⟩) fun vs hI Z2 jD => ?_
  obtain ⟨i, rfl, hi, IG⟩ := hI
  simp only [ab,ag,List.length_map,sl,aE,go_sem,reduceIte,zA,zB,zC,zD,zE,zF,reduceCtorEq]
  refine aT (fun Cb => ?_) (fun Cb => ?_)
  ·have bD : i < s.length := by have := of_decide_eq_true Cb; omega
   have aP := aq i (by omega)
   obtain ⟨x, hx⟩ : ∃ x, s[i]? = some x := ⟨_, List.getElem?_eq_getElem bD⟩
   obtain ⟨q, hq⟩ : ∃ q, s[i - 1]? = some q := ⟨_, List.getElem?_eq_getElem (by omega)⟩
   have eV : IntKind.i64.wrap ((i : Int) - 1) = ((i - 1 : Nat) : Int) := jo _ _ (by omega) (by omega)
   have pE : ((i - 1 : Nat) : Int) < (s.length : Int) := by omega
   simp only [ab,ag,aP,hx,hq,eV,pE,List.getElem?_map,a6,List.length_map,sl,aE,go_sem,reduceIte,zA,zB,zC,zD,zE,zF,reduceCtorEq]
   refine bR tt_ok aN [⟨.n, 0, [], [], []⟩, ⟨.n, 0, [], [], []⟩, ⟨.n, 0, [], [], []⟩, ⟨.r, 0, [], [], []⟩, ⟨.n, 0, [], [], []⟩, ⟨.r, 0, [], [], []⟩, ⟨.n, 0, [], [], []⟩, ⟨.n, 0, [], [], []⟩, ⟨.r, 0, [], [], []⟩, ⟨.n, 0, [], [], []⟩, ⟨.r, 0, [], [], []⟩, ⟨.n, 0, [], [], []⟩] 0 (by kernel_rfl) ?_
   simp only [ab,ag,aP,hx,hq,eV,pE,List.getElem?_map,a6,List.length_map,sl,aE,go_sem,reduceIte,zA,zB,zC,zD,zE,zF,reduceCtorEq]
   refine aT (fun PS => ?_) (fun PS => ?_)
   ·have xq : nY s = false := DB hq (by rw [show i - 1 + 1 = i by omega]; exact hx) (by simpa using PS)
    have ax : (fun (r : V) (m : List aC) => m = [] ∧ ∃ (F : V) (e : Int), r = V.ch [F, num e] ∧ e = mu (ae p) s l (mo, nm) ∧ ((e ≠ 0 ∧ F = V.sc (.slice none 0 0)) ∨ (e = 0 ∧ ∃ v fl, leads (ae p) (mo, nm) = some v ∧ lG (ae p) v s l fl ∧ F = V.slice (fl.map bT)))) (.ch [.sc (.slice none 0 0), num 1]) [] := ⟨rfl, _, 1, rfl, (MT hA xq).symm, .inl ⟨by decide, rfl⟩⟩
    simp only [ab,ag,aP,hx,hq,eV,pE,List.getElem?_map,a6,List.length_map,sl,aE,go_sem,reduceIte,zA,zB,zC,zD,zE,zF,reduceCtorEq]
    exact hK _ _ ax
   ·simp only [ab,ag,aP,hx,hq,eV,pE,List.getElem?_map,a6,List.length_map,sl,aE,go_sem,reduceIte,zA,zB,zC,zD,zE,zF,reduceCtorEq]
    refine jD _ (b5 (by omega) (by simp only [ab,ag,aP,hx,hq,eV,pE,List.getElem?_map,a6,List.length_map,sl,aE,go_sem,reduceIte,zA,zB,zC,zD,zE,zF,reduceCtorEq]) ?_ ?_) <;> simp only [dY,lk,reduceIte,zE]
    ·refine ⟨i + 1, rfl, by omega, fun j x2 y2 hj h1 h2 => ?_⟩
     rcases Nat.lt_or_ge (j + 1) i with h | h
     ·exact IG j x2 y2 h h1 h2
     ·have CY : j = i - 1 := by omega
      subst CY
      rw [hq] at h1; rw [show i - 1 + 1 = i by omega, hx] at h2; cases h1; cases h2; simpa using PS
    ·simp only [Go.Eng.intOf,List.headD_cons]; omega
  ·have PT : s.length ≤ i := by have := of_decide_eq_false Cb; omega
   have xq : nY s = true := (tD s).2 fun j x y h1 h2 => IG j x y (by have := (List.getElem?_eq_some_iff.1 h2).1; omega) h1 h2
   simp only [ab,ag,List.length_map,sl,aE,go_sem,reduceIte,zA,zB,zC,zD,zE,zF,reduceCtorEq]
   refine cW (zv p hl hw) ?_
   rintro _ _ ⟨rfl, rfl⟩
   rcases (by cases h : leads (ae p) (mo, nm) with | none => exact .inr rfl | some v => exact .inl ⟨v, rfl⟩ : (∃ v, leads (ae p) (mo, nm) = some v) ∨ leads (ae p) (mo, nm) = none) with ⟨v, gW⟩ | gW
   ·simp only [ab,ag,List.length_map,sl,aE,go_sem,reduceIte,zA,zB,zC,zD,zE,zF,reduceCtorEq]
    refine cS (by have h := BV (gf p) (mo, nm) [.map (b8 cI 0 (bn (gf p))) (bn (gf p)).length] 0 rfl; rw [look_eq, gh gW] at h; exact ⟨_, rfl, h⟩) ?_
    rintro _ rfl
    simp only [ab,ag,List.length_map,sl,aE,go_sem,reduceIte,zA,zB,zC,zD,zE,zF,reduceCtorEq]
    refine OI 19 0 2 (by decide) rfl ?_
    refine dk tt_ok [33] (fun a : Nat × List Ix => [(1, .slice (s.map a6)), (16, .mp 0), (17, .ptr 1 0), (19, .ms 2 a.2.length 0 a.2.length), (69, .slice (l.map ay)), (70, num l.length), (71, num a.1)]) (fun a : Nat × List Ix => [.map (b8 cI 0 (bn (gf p))) (bn (gf p)).length, .box [str v.1, str v.2], .rows a.2.length 2 (a.2.map bT)]) (fun a => l.length - a.1) (fun a => a.1 ≤ l.length ∧ lG (ae p) v s (l.take a.1) a.2) ((0, [])) 3 (bz (by omega) (by simp only [ab,ag,List.length_map,sl,aE,List.map_nil,List.length_nil,Int.cast_ofNat_Int,go_sem,reduceIte,zA,zB,zC,zD,zE,zF,reduceCtorEq] <;> rfl)) (⟨Nat.zero_le _, .nil⟩) ?_
    intro ⟨i, fl⟩ ⟨hi, hS⟩
    try dsimp only at hi hS
    try dsimp only
    have Ma := hS.len
    rw [List.length_take] at Ma
    intro Z3 Ca
    simp only [ab,ag,List.length_map,sl,aE,go_sem,reduceIte,zA,zB,zC,zD,zE,zF,reduceCtorEq]
    refine aT (fun Cc => ?_) (fun Cc => ?_)
    ·have bD : i < l.length := by simpa using Cc
     have aP := aq i (by omega)
     obtain ⟨a, hx⟩ : ∃ a, l[i]? = some a := ⟨_, List.getElem?_eq_getElem bD⟩
     obtain ⟨T6, xO, T7⟩ := jA a (List.mem_of_getElem? hx)
     have qd : l.take (i + 1) = l.take i ++ [a] := by rw [List.take_add_one, hx]; rfl
     simp only [ab,ag,aP,hx,List.getElem?_map,ay,aj,List.length_map,sl,aE,go_sem,reduceIte,zA,zB,zC,zD,zE,zF,reduceCtorEq]
     refine cF (by have h := H5 a (jA a (List.mem_of_getElem? hx)).2.1 s hs; simp only [ay,aj] at h; exact h) ?_
     rintro _ rfl
     simp only [ab,ag,aP,hx,List.getElem?_map,ay,aj,List.length_map,sl,aE,go_sem,reduceIte,zA,zB,zC,zD,zE,zF,reduceCtorEq]
     refine aT (fun PU => ?_) (fun PU => ?_)
     ·have XF : MR (ae p) v s a := .inl (by simpa using PU)
      simp only [ab,ag,aP,hx,List.getElem?_map,ay,aj,List.length_map,sl,aE,go_sem,reduceIte,zA,zB,zC,zD,zE,zF,reduceCtorEq]
      refine Ca _ ⟨(i + 1, fl), ?_, ?_, bz (by omega) (by (simp only [aP,ab,ag,go_sem,reduceIte,zA,zB,zC,zD,zE,zF,reduceCtorEq]))⟩
      ·exact ⟨bD, by rw [qd]; exact hS.mr XF⟩
      ·dsimp only; omega
     ·simp only [ab,ag,aP,hx,List.getElem?_map,ay,aj,List.length_map,sl,aE,go_sem,reduceIte,zA,zB,zC,zD,zE,zF,reduceCtorEq]
      refine dk tt_ok [33] (fun b : Nat × xl => [(1, .slice (s.map a6)), (16, .mp 0), (17, .ptr 1 0), (19, .ms 2 fl.length 0 fl.length), (21, .ptr 3 0), (22, .mp 4), (69, .slice (l.map ay)), (70, num l.length), (71, num i), (81, .slice (a.syms.map str)), (82, num a.syms.length), (83, num b.1)]) (fun b : Nat × xl => [.map (b8 cI 0 (bn (gf p))) (bn (gf p)).length, .box [str v.1, str v.2], .rows fl.length 2 (fl.map bT), .box [str a.id, str a.path, .slice (a.set.map au), .slice (a.syms.map str), str a.note], .map (b8 cI 0 (ca b.2)) (ca b.2).length]) (fun b => a.syms.length - b.1) (fun b => b.1 ≤ a.syms.length ∧ ∀ z, oi b.2 z = (decide (z.1 = a.path) && ju (a.syms.take b.1) z.2 && kB (ae p) z)) ((0, [])) 5 (bz (by omega) (by simp only [ab,ag,aP,hx,List.getElem?_map,ay,aj,List.length_map,sl,aE,ca,List.map_nil,b8,List.length_nil,Int.cast_ofNat_Int,go_sem,reduceIte,zA,zB,zC,zD,zE,zF,reduceCtorEq] <;> rfl)) (⟨Nat.zero_le _, fun z => by simp [oi, jF, ju]⟩) ?_
      intro ⟨j, T⟩ ⟨hj, hT⟩
      try dsimp only at hj hT
      try dsimp only
      intro Z4 QY
      simp only [ab,ag,aP,hx,List.getElem?_map,ay,aj,List.length_map,sl,aE,go_sem,reduceIte,zA,zB,zC,zD,zE,zF,reduceCtorEq]
      refine aT (fun IH => ?_) (fun IH => ?_)
      ·have iM : j < a.syms.length := by simpa using IH
       have ml := aq j (by omega)
       obtain ⟨n, hn⟩ : ∃ n, a.syms[j]? = some n := ⟨_, List.getElem?_eq_getElem iM⟩
       have ZC : a.syms.take (j + 1) = a.syms.take j ++ [n] := by rw [List.take_add_one, hn]; rfl
       rcases lz : aY (a.path, n) (gf p) with _ | d
       ·have BU := fun B1 B2 B3 B4 B5 B6 => zu (a.path, n) (gf p) (mem := [.map (b8 cI 0 (bn (gf p))) (bn (gf p)).length, B1, B2, B3, B4, B5, B6]) (b := 0) rfl false
        have PV := fun B0 B1 B2 B3 B5 B6 b => Iy (a.path, n) b T (mem := [B0, B1, B2, B3, .map (b8 cI 0 (ca T)) (ca T).length, B5, B6]) (k := 4) rfl
        have XG : decide ((0 : Int) = 1) = kB (ae p) (a.path, n) := by rw [← look_eq]; unfold kB; dsimp only; rw [lz]; rfl
        simp only [ab,ag,aP,hx,List.getElem?_map,ay,aj,ml,hn,List.getElem?_map,Ll,BU,PV,lz,Option.isSome_none,Option.map_none,Option.getD_none,rL,List.length_map,sl,aE,go_sem,reduceIte,zA,zB,zC,zD,zE,zF,reduceCtorEq]
        refine bR tt_ok aN [⟨.n, 0, [], [], []⟩, ⟨.r, 0, [], [], []⟩, ⟨.n, 0, [], [], []⟩, ⟨.r, 0, [], [], []⟩, ⟨.r, 0, [], [], []⟩, ⟨.n, 0, [], [], []⟩, ⟨.n, 0, [], [], []⟩, ⟨.w, 0, [], [], []⟩] 1 (by kernel_rfl) ?_
        simp only [ab,ag,aP,hx,List.getElem?_map,ay,aj,ml,hn,List.getElem?_map,Ll,BU,PV,lz,Option.isSome_none,Option.map_none,Option.getD_none,rL,List.length_map,sl,aE,go_sem,reduceIte,zA,zB,zC,zD,zE,zF,reduceCtorEq]
        refine QY _ ⟨(j + 1, rf (a.path, n) (decide ((0 : Int) = 1)) T), ?_, ?_, bz (by omega) (by (simp only [ml,ab,ag,go_sem,reduceIte,zA,zB,zC,zD,zE,zF,reduceCtorEq]))⟩
        ·exact ⟨iM, by rw [ZC]; exact fun z => DE XG hT z⟩
        ·dsimp only; omega
       ·have BU := fun B1 B2 B3 B4 B5 B6 => zu (a.path, n) (gf p) (mem := [.map (b8 cI 0 (bn (gf p))) (bn (gf p)).length, B1, B2, B3, B4, B5, B6]) (b := 0) rfl false
        have PV := fun B0 B1 B2 B3 B5 B6 b => Iy (a.path, n) b T (mem := [B0, B1, B2, B3, .map (b8 cI 0 (ca T)) (ca T).length, B5, B6]) (k := 4) rfl
        have XG : decide (d.kind = 1) = kB (ae p) (a.path, n) := by rw [← look_eq]; unfold kB; dsimp only; rw [lz]
        simp only [ab,ag,aP,hx,List.getElem?_map,ay,aj,ml,hn,List.getElem?_map,Ll,BU,PV,lz,Option.isSome_some,Option.map_some,Option.getD_some,rL,aD,aG,ai,al,List.cons_append,List.nil_append,List.length_map,sl,aE,go_sem,reduceIte,zA,zB,zC,zD,zE,zF,reduceCtorEq]
        refine bR tt_ok aN [⟨.n, 0, [], [], []⟩, ⟨.r, 0, [], [], []⟩, ⟨.n, 0, [], [], []⟩, ⟨.r, 0, [], [], []⟩, ⟨.r, 0, [], [], []⟩, ⟨.n, 0, [], [], []⟩, ⟨.n, 0, [], [], []⟩, ⟨.w, 0, [], [], []⟩] 1 (by kernel_rfl) ?_
        simp only [ab,ag,aP,hx,List.getElem?_map,ay,aj,ml,hn,List.getElem?_map,Ll,BU,PV,lz,Option.isSome_some,Option.map_some,Option.getD_some,rL,aD,aG,ai,al,List.cons_append,List.nil_append,List.length_map,sl,aE,go_sem,reduceIte,zA,zB,zC,zD,zE,zF,reduceCtorEq]
        refine QY _ ⟨(j + 1, rf (a.path, n) (decide (d.kind = 1)) T), ?_, ?_, bz (by omega) (by (simp only [ml,ab,ag,go_sem,reduceIte,zA,zB,zC,zD,zE,zF,reduceCtorEq]))⟩
        ·exact ⟨iM, by rw [ZC]; exact fun z => DE XG hT z⟩
        ·dsimp only; omega
      ·have XH : s.any (fJ a) = true := by simpa using PU
       obtain ⟨rc, Vs, bO⟩ := Fm (gf p) T v hgl (fun u d h => tr hw ((congrFun (look_eq p) u).symm.trans h)) (by rw [look_eq]; exact gK gW) [.map (b8 cI 0 (bn (gf p))) (bn (gf p)).length, .box [str v.1, str v.2], .rows fl.length 2 (fl.map bT), .box [str a.id, str a.path, .slice (a.set.map au), .slice (a.syms.map str), str a.note], .map (b8 cI 0 (ca T)) (ca T).length] 0 4 rfl rfl (by decide)
       have th : j = a.syms.length := by have := of_decide_eq_false IH; omega
       have ZD : oi T = JK (ae p) a := by funext z; rw [hT z, th, List.take_length]; rfl
       rcases Vs with ⟨rfl, cT⟩ | ⟨c, yD, rfl, Xw, hle⟩
       ·rw [look_eq, ZD] at cT
        have XF : MR (ae p) v s a := .inr cT
        simp only [ab,ag,aP,hx,List.getElem?_map,ay,aj,Iw,List.length_map,sl,aE,go_sem,reduceIte,zA,zB,zC,zD,zE,zF,reduceCtorEq]
        refine cS (⟨_, rfl, bO⟩) ?_
        rintro _ rfl
        simp only [ab,ag,aP,hx,List.getElem?_map,ay,aj,Iw,List.length_map,sl,aE,go_sem,reduceIte,zA,zB,zC,zD,zE,zF,reduceCtorEq]
        refine Ca _ ⟨(i + 1, fl), ?_, ?_, bz (by omega) (by (simp only [aP,ab,ag,go_sem,reduceIte,zA,zB,zC,zD,zE,zF,reduceCtorEq]))⟩
        ·exact ⟨bD, by rw [qd]; exact hS.mr XF⟩
        ·dsimp only; omega
       ·rw [look_eq, ZD] at hle
        have gj : c.length ≠ 0 := fun e => yD (List.length_eq_zero_iff.1 e)
        have EV : (c.map az).length ≠ 0 := by rw [List.length_map]; exact gj
        have xT : Q1 (ae p) v s a c := ⟨⟨XH, Xw.len⟩, hle⟩
        have qE : fl.length + 1 ≤ 34359738368 := by omega
        simp only [ab,ag,aP,hx,List.getElem?_map,ay,aj,↓xm EV,↓xm gj,zN,qE,dy,List.length_map,sl,aE,go_sem,reduceIte,zA,zB,zC,zD,zE,zF,reduceCtorEq]
        refine cS (⟨_, rfl, bO⟩) ?_
        rintro _ rfl
        simp only [ab,ag,aP,hx,List.getElem?_map,ay,aj,↓xm EV,↓xm gj,zN,qE,dy,List.length_map,sl,aE,go_sem,reduceIte,zA,zB,zC,zD,zE,zF,reduceCtorEq]
        refine Ca _ ⟨(i + 1, fl ++ [⟨a.id, c⟩]), ?_, ?_, bz (by omega) (by (simp only [aP,List.length_map,PI,re,bT,ab,ag,go_sem,reduceIte,zA,zB,zC,zD,zE,zF,reduceCtorEq]))⟩
        ·exact ⟨bD, by rw [qd]; exact hS.pe xT⟩
        ·dsimp only; omega
    ·have gw : i = l.length := by have := of_decide_eq_false Cc; omega
     rw [gw, List.take_length] at hS
     have ax : (fun (r : V) (m : List aC) => m = [] ∧ ∃ (F : V) (e : Int), r = V.ch [F, num e] ∧ e = mu (ae p) s l (mo, nm) ∧ ((e ≠ 0 ∧ F = V.sc (.slice none 0 0)) ∨ (e = 0 ∧ ∃ v fl, leads (ae p) (mo, nm) = some v ∧ lG (ae p) v s l fl ∧ F = V.slice (fl.map bT)))) (.ch [.slice (fl.map bT), num 0]) [] := ⟨rfl, _, 0, rfl, (MV hA xq gW).symm, .inr ⟨rfl, v, fl, gW, hS, rfl⟩⟩
     simp only [ab,ag,List.length_map,sl,aE,go_sem,reduceIte,zA,zB,zC,zD,zE,zF,reduceCtorEq]
     refine o0 (v' := .slice (fl.map bT)) 19 (by decide) rfl (by first | (simp only [dR,br,List.getElem?_cons_succ,List.getElem?_cons_zero]; simp; exact List.take_of_length_le (by simp)) | (simp [lk, dR, br]; exact List.take_of_length_le (by simp)) | simp [lk, dR, br, List.take_of_length_le]) ?_
     refine Mw tt_ok [33] ?_
     simp only [ab,ag,List.length_map,sl,aE,go_sem,reduceIte,zA,zB,zC,zD,zE,zF,reduceCtorEq]
     exact hK _ _ ax
   ·have ax : (fun (r : V) (m : List aC) => m = [] ∧ ∃ (F : V) (e : Int), r = V.ch [F, num e] ∧ e = mu (ae p) s l (mo, nm) ∧ ((e ≠ 0 ∧ F = V.sc (.slice none 0 0)) ∨ (e = 0 ∧ ∃ v fl, leads (ae p) (mo, nm) = some v ∧ lG (ae p) v s l fl ∧ F = V.slice (fl.map bT)))) (.ch [.sc (.slice none 0 0), num 6]) [] := ⟨rfl, _, 6, rfl, (MU hA xq gW).symm, .inl ⟨by decide, rfl⟩⟩
    simp only [ab,ag,List.length_map,sl,aE,go_sem,reduceIte,zA,zB,zC,zD,zE,zF,reduceCtorEq]
    refine cS (by have h := BV (gf p) (mo, nm) [.map (b8 cI 0 (bn (gf p))) (bn (gf p)).length] 0 rfl; rw [look_eq, fw gW] at h; exact ⟨_, rfl, h⟩) ?_
    rintro _ rfl
    simp only [ab,ag,List.length_map,sl,aE,go_sem,reduceIte,zA,zB,zC,zD,zE,zF,reduceCtorEq]
    exact hK _ _ ax
end Go.Proofs.YtefbaladomfccaaGreatDoor
end

section
namespace Go.Proofs.YtefbaladomfccaaGreatDoor
open Go.Eng
def T8 : List (List UInt8) := [[97,110,100], [97,110,121], [97,115], [98,111,111,108], [100,101,112,114,101,99,97,116,101,100], [101,108,115,101], [101,120,112,111,114,116], [102,97,108,115,101], [102,110], [102,111,108,100], [102,114,111,109], [105,102], [105,109,112,111,114,116], [105,110], [105,110,116], [108,101,110,103,116,104], [108,101,116], [108,105,115,116], [109,97,116,99,104], [109,111,100,117,108,101], [110,111,110,101], [110,111,116], [111,114], [116,101,120,116], [116,104,101,110], [116,114,117,101], [116,121,112,101], [117,115,101]]
def PW : List ByteArray := T8.map fun l => ⟨l.toArray⟩
theorem Lr : T8.all (fun k => Lib.contains ny.data.toList (32 :: k ++ [32])) = true := by kernel_rfl
def tw (l : List UInt8) : List UInt8 := l.takeWhile (· != 32)
theorem T9 : (List.range 200).all (fun i => !((ny.data.toList.drop i).head? == some 32) || ((ny.data.toList.drop (i + 1)).isEmpty || T8.contains (tw (ny.data.toList.drop (i + 1))))) = true := by kernel_rfl
theorem PY {k r : List UInt8} (h : ∀ b ∈ k, b ≠ 32) : tw (k ++ 32 :: r) = k := by
 induction k with
 | nil => rfl
 | cons b k ih =>
  have hb : (b != 32) = true := by simpa using h b (List.mem_cons_self ..)
  show List.takeWhile _ (b :: (k ++ 32 :: r)) = _
  rw [List.takeWhile_cons, hb]
  simp only [if_true]
  exact congrArg (b :: ·) (ih fun c hc => h c (List.mem_cons_of_mem _ hc))
theorem Ls : Nat.ble ny.data.toList.length 200 = true := by kernel_rfl
theorem Lt (s : ByteArray) (h : gH k7 s = true) : U2 s = PW.any fun k => decide (k = s) := by
 have cT : ∀ b ∈ cw s, b ≠ 32 := fun b hb e => by
  have h1 := List.all_eq_true.1 h b hb
  rw [e] at h1; revert h1; decide
 have hd : (⟨#[32]⟩ ++ s ++ ⟨#[32]⟩ : ByteArray).data.toList = 32 :: cw s ++ [32] := by
  rw [ByteArray.data_append, ByteArray.data_append]
  simp [cw]
 have hm : s ∈ PW ↔ cw s ∈ T8 := by
  unfold PW
  rw [List.mem_map]
  refine ⟨fun ⟨l, hl, e⟩ => by rw [← e]; simpa [cw] using hl, fun h => ⟨_, h, ?_⟩⟩
  obtain ⟨⟨l⟩⟩ := s; rfl
 have Kc : (PW.any fun k => decide (k = s)) = true ↔ cw s ∈ T8 := by
  rw [List.any_eq_true, ← hm]
  exact ⟨fun ⟨k, hk, e⟩ => by rw [← of_decide_eq_true e]; exact hk, fun h => ⟨s, h, by simp⟩⟩
 rw [Bool.eq_iff_iff, Kc]
 unfold U2
 rw [hd]
 constructor
 ·intro hc
  unfold Lib.contains at hc
  rw [decide_eq_true_eq] at hc
  rcases Lib.index_spec ny.data.toList (32 :: cw s ++ [32]) with ⟨h1, _⟩ | ⟨i, h1, h2, h3, _⟩
  ·omega
  unfold Lib.occAt at h3
  rw [List.isPrefixOf_iff_prefix] at h3
  obtain ⟨r, hr⟩ := h3
  have hi : i < 200 := by
   have hl := congrArg List.length hr
   have := Nat.le_of_ble_eq_true Ls
   simp only [List.length_append,List.length_cons,List.length_drop] at hl; omega
  have h4 := List.all_eq_true.1 T9 i (List.mem_range.2 hi)
  have e1 : ny.data.toList.drop (i + 1) = cw s ++ 32 :: r := by
   have : ny.data.toList.drop (i + 1) = (ny.data.toList.drop i).drop 1 := by rw [List.drop_drop]
   rw [this, ← hr]; simp
  rw [← hr, e1, PY cT] at h4
  simpa using h4
 ·intro hc
  exact List.all_eq_true.1 Lr _ hc
theorem mv (s : ByteArray) : kx s = (decide (1 ≤ s.size) && decide (s.size ≤ 32) && uu (c8 s 0) && gH k7 s && !(PW.any fun k => decide (k = s))) := by
 unfold kx
 cases h : gH k7 s with
 | false => simp
 | true => rw [Lt s h]
def fA (o : List ByteArray) (c : UInt8) : List ByteArray := if c = 47 then o ++ [⟨#[]⟩] else o.set (o.length - 1) ((o[o.length - 1]?).getD ⟨#[]⟩ ++ ⟨#[c]⟩)
def fC (l : List UInt8) : List ByteArray := l.foldl fA [⟨#[]⟩]
def pj (cur : List UInt8) : List (List UInt8) → List (List UInt8)
 | [] => [cur]
 | h :: t => (cur ++ h) :: t
def Fo (l : List UInt8) : ByteArray := ⟨l.toArray⟩
theorem uB (r : List UInt8) : Lib.split (47 :: r) [47] = [] :: Lib.split r [47] := by
 have fP : Lib.index (47 :: r) [47] = 0 := by rw [Lib.index]; simp [List.isPrefixOf]
 unfold Lib.split
 rw [Lib.count_cons_eq, Nat.add_comm, Lib.splitK, fP]
 simp
theorem uC (b : UInt8) (r : List UInt8) (h : b ≠ 47) : Lib.split (b :: r) [47] = pj [b] (Lib.split r [47]) := by
 have hp : ([47] : List UInt8).isPrefixOf (b :: r) = false := by simp [List.isPrefixOf, Ne.symm h]
 have fP : Lib.index (b :: r) [47] = if Lib.index r [47] == -1 then -1 else Lib.index r [47] + 1 := by rw [Lib.index, hp]; simp
 unfold Lib.split
 rw [Lib.count_cons_ne b 47 r h]
 cases hk : Lib.count r [47] with
 | zero => rfl
 | succ k =>
  rw [Lib.splitK, Lib.splitK, fP]
  by_cases hm : Lib.index r [47] = -1
  ·rw [hm]; rfl
  ·have cP := Lib.index_ge r [47]
   obtain ⟨j, hj⟩ : ∃ j : Nat, Lib.index r [47] = j := ⟨(Lib.index r [47]).toNat, by omega⟩
   have h1 : ((j : Int) == -1) = false := by rw [beq_eq_false_iff_ne]; omega
   have h2 : ((j : Int) + 1 == -1) = false := by rw [beq_eq_false_iff_ne]; omega
   have h3 : ((j : Int) + 1).toNat = j + 1 := by omega
   rw [hj, h1]
   simp only [Bool.false_eq_true,if_false,h2,h3,Int.toNat_natCast,pj,List.length_cons,List.length_nil,Nat.add_zero]
   rw [show j + 1 + (0 + 1) = (j + (0 + 1)) + 1 by omega, List.drop_succ_cons]
   rfl
theorem Lu (a b : List UInt8) : Fo a ++ Fo b = Fo (a ++ b) := by
 apply ByteArray.ext
 rw [ByteArray.data_append]
 simp [Fo]
theorem xr : ∀ (l : List UInt8) (pre : List ByteArray) (cur : List UInt8), l.foldl fA (pre ++ [Fo cur]) = pre ++ (pj cur (Lib.split l [47])).map Fo
 | [], pre, cur => by
  have : Lib.split [] [47] = [[]] := rfl
  rw [this]; simp [pj]
 | b :: r, pre, cur => by
  rw [List.foldl_cons]
  by_cases h : b = 47
  ·subst h
   have hs : fA (pre ++ [Fo cur]) 47 = (pre ++ [Fo cur]) ++ [Fo []] := by simp [fA, Fo]
   rw [hs, xr r, uB]
   have : pj [] (Lib.split r [47]) = Lib.split r [47] := by
    cases hq : Lib.split r [47] with
    | nil => exfalso; unfold Lib.split at hq; cases hk : Lib.count r [47] <;> rw [hk] at hq <;> rw [Lib.splitK] at hq <;> first | cases hq | (split at hq <;> cases hq)
    | cons a t => rfl
   rw [this]
   simp [pj]
  ·have hs : fA (pre ++ [Fo cur]) b = pre ++ [Fo (cur ++ [b])] := by
    unfold fA
    rw [if_neg h, List.length_append, List.length_singleton, Nat.add_sub_cancel]
    rw [List.getElem?_append_right (Nat.le_refl _), Nat.sub_self]
    simp only [List.getElem?_cons_zero,Option.getD_some]
    rw [List.set_append_right _ _ (Nat.le_refl _), Nat.sub_self, List.set_cons_zero]
    exact congrArg (fun z => pre ++ [z]) (Lu cur [b])
   rw [hs, xr r, uC b r h]
   cases hq : Lib.split r [47] with
   | nil => simp [pj]
   | cons a t => simp [pj]
theorem Fp (s : ByteArray) : Fo s.data.toList = s := by obtain ⟨⟨l⟩⟩ := s; rfl
theorem mw (s : ByteArray) : fC (cw s) = pieces s := by
 have h := xr (cw s) [] []
 have h2 : pj [] (Lib.split (cw s) [47]) = Lib.split (cw s) [47] := by
  cases hq : Lib.split (cw s) [47] with
  | nil => exfalso; unfold Lib.split at hq; cases hk : Lib.count (cw s) [47] <;> rw [hk] at hq <;> rw [Lib.splitK] at hq <;> first | cases hq | (split at hq <;> cases hq)
  | cons a t => rfl
 rw [h2, List.nil_append] at h
 have h3 := Lib.splitB_data ⟨#[47]⟩ 0 (Lib.countB s ⟨#[47]⟩) s
 have h4 : (pieces s).map (fun x => x.data.toList) = Lib.split (cw s) [47] := h3
 rw [show fC (cw s) = _ from h, ← h4, List.map_map]
 conv => rhs; rw [← List.map_id (pieces s)]
 exact List.map_congr_left fun x _ => Fp x
theorem pn (l : List UInt8) (c : UInt8) : fC (l ++ [c]) = fA (fC l) c := by unfold fC; rw [List.foldl_append]; rfl
theorem qh (s : ByteArray) : mg s = (decide (1 ≤ s.size) && decide (c8 s 0 = 118)) := by
 obtain ⟨⟨l⟩⟩ := s
 cases l with
 | nil => rfl
 | cons b l =>
  have hb : c8 ⟨⟨b :: l⟩⟩ 0 = (b.toNat : Int) := rfl
  have hs : (⟨⟨b :: l⟩⟩ : ByteArray).size = l.length + 1 := rfl
  rw [hb, hs]
  show ((118 : UInt8) == b && ([] : List UInt8).isPrefixOf l) = _
  simp only [List.isPrefixOf_nil_left,Bool.and_true]
  rw [Bool.eq_iff_iff]
  simp only [beq_iff_eq,Bool.and_eq_true,decide_eq_true_eq]
  constructor
  ·rintro rfl; exact ⟨by omega, rfl⟩
  ·rintro ⟨-, h⟩
   apply UInt8.toNat_inj.1
   have : b.toNat = 118 := by omega
   rw [this]; rfl
theorem nZ {s : ByteArray} (h : mg s = true) (k : Nat) : (gI s)[k]? = s[k + 1]? := by
 have hd : (gI s).data.toList = s.data.toList.drop 1 := by
  show Lib.trimPrefix s.data.toList [118] = _
  unfold Lib.trimPrefix
  rw [if_pos (show Lib.hasPrefix s.data.toList [118] = true from h)]; rfl
 have g : ∀ (t : ByteArray) (j : Nat), t[j]? = t.data.toList[j]? := fun t j => by
  obtain ⟨⟨l⟩⟩ := t
  by_cases hj : j < l.length
  ·rw [getElem?_pos (⟨⟨l⟩⟩ : ByteArray) j (by exact hj)]
   show some _ = l[j]?
   rw [List.getElem?_eq_getElem hj]; rfl
  ·rw [getElem?_neg (⟨⟨l⟩⟩ : ByteArray) j (by exact hj)]
   show none = l[j]?
   rw [List.getElem?_eq_none (by omega)]
 rw [g, g, hd, List.getElem?_drop, Nat.add_comm]
theorem my {s : ByteArray} (h : mg s = true) : (gI s).size = s.size - 1 := by
 have hd : (gI s).data.toList = s.data.toList.drop 1 := by
  show Lib.trimPrefix s.data.toList [118] = _
  unfold Lib.trimPrefix
  rw [if_pos (show Lib.hasPrefix s.data.toList [118] = true from h)]; rfl
 rw [Lib.size_eq, hd, List.length_drop, ← Lib.size_eq]
theorem Fq {s : ByteArray} (h : mg s = true) (k : Nat) : c8 (gI s) k = c8 s (k + 1) := by unfold c8; rw [nZ h]
def rh (s : ByteArray) : Bool := !(decide (s.size < 2) || decide (4 < s.size) || !decide (c8 s 0 = 118) || (decide (c8 s 1 = 48) && decide (2 < s.size)))
theorem jw (s : ByteArray) : cx s = (rh s && gH eZ (gI s)) := by
 unfold cx rh
 cases hv : mg s with
 | false =>
  rw [qh] at hv
  by_cases h1 : s.size < 2 <;> simp_all <;> (intros; omega)
 | true =>
  have h1 := my hv
  have h2 := Fq hv 0
  rw [qh] at hv
  simp only [Bool.and_eq_true,decide_eq_true_eq] at hv
  unfold mh
  rw [h1, h2]
  cases gH eZ (gI s)
  ·simp
  ·rw [Bool.eq_iff_iff]
   simp [hv.2]
   omega
end Go.Proofs.YtefbaladomfccaaGreatDoor
end

section
namespace Go.Proofs.YtefbaladomfccaaGreatDoor
open Go.Eng
open Nat renaming reduceAdd → zA, reduceLT → zB, reduceLeDiff → zC, reduceMul → zD, reduceEqDiff → zE, reduceSub → zF
variable [aK]
set_option maxHeartbeats 4000000
set_option maxRecDepth 100000
theorem xt  : ∃ r_, (fun w => w = .slice (PW.map str)) r_ ∧ aR Tryz.prog 281 [] r_ := by
 refine eu tt_ok [] 2 [.tmp 0] (fn := Tryz.f281) Tryz.func281 rfl Tryz.call281 ⟨rfl, rfl, by simp⟩ fun K hK => ?_
 simp only [go_sem,reduceIte,zA,zB,zC,zD,zE,zF,reduceCtorEq]
 exact hK _ rfl
theorem Cd (l : List ByteArray) (s : ByteArray) (hl : l.length ≤ 1048576) : ∃ r_, (fun w => w = bl (l.any fun k => decide (k = s))) r_ ∧ aR Tryz.prog 280 [.slice (l.map str), str s] r_ := by
 refine eu tt_ok [] 18 [.tmp 4] (fn := Tryz.f280) Tryz.func280 rfl Tryz.call280 ⟨rfl, rfl, by simp⟩ fun K hK => ?_
 simp only [List.length_map,go_sem,reduceIte,zA,zB,zC,zD,zE,zF,reduceCtorEq]
 refine bk tt_ok [] [5] 0 [0,1] (fun vs => ((l.length : Int) - Go.Eng.intOf (vs.headD .undef)).toNat) (fun vs => ∃ i : Nat, vs = [num i] ∧ i ≤ l.length ∧ ∀ j < i, ∀ x, l[j]? = some x → decide (x = s) = false) (by omega) (by simp only [List.length_map,go_sem,reduceIte,zA,zB,zC,zD,zE,zF,reduceCtorEq]) (⟨0, rfl, Nat.zero_le _, fun j hj => absurd hj (Nat.not_lt_zero j)⟩) fun vs hI Z1 bX => ?_
 obtain ⟨i, rfl, hi, bp⟩ := hI
 simp only [List.length_map,go_sem,reduceIte,zA,zB,zC,zD,zE,zF,reduceCtorEq]
 refine aT (fun jC => ?_) (fun jC => ?_)
 ·have aL : i < l.length := by simpa using jC
  have hw := aq i (by omega)
  obtain ⟨x, hx⟩ : ∃ x, l[i]? = some x := ⟨_, List.getElem?_eq_getElem aL⟩
  simp only [hw,List.getElem?_map,hx,List.length_map,go_sem,reduceIte,zA,zB,zC,zD,zE,zF,reduceCtorEq]
  refine aT (fun jv => ?_) (fun jv => ?_)
  ·have ax : true = l.any fun k => decide (k = s) := (nR hx (by simpa [aJ] using jv)).symm
   simp only [hw,List.getElem?_map,hx,List.length_map,go_sem,reduceIte,zA,zB,zC,zD,zE,zF,reduceCtorEq]
   exact hK _ (congrArg bl ax)
  ·simp only [hw,List.getElem?_map,hx,List.length_map,go_sem,reduceIte,zA,zB,zC,zD,zE,zF,reduceCtorEq]
   refine bX _ (b5 (by omega) (by simp only [hw,List.getElem?_map,hx,List.length_map,go_sem,reduceIte,zA,zB,zC,zD,zE,zF,reduceCtorEq]) ?_ ?_) <;> simp only [dY,lk,reduceIte,zE]
   ·refine ⟨i + 1, rfl, aL, fun j hj => ?_⟩
    rcases Nat.lt_or_ge j i with h | h
    ·exact bp j h
    ·obtain rfl : j = i := by omega
     intro y hy
     rw [hx] at hy; cases hy; simpa [aJ] using jv
   ·simp only [Go.Eng.intOf,List.headD_cons]; omega
 ·have cP : ¬ i < l.length := by simpa using jC
  have ax : false = l.any fun k => decide (k = s) := (any_none fun j hj => bp j (by omega)).symm
  simp only [List.length_map,go_sem,reduceIte,zA,zB,zC,zD,zE,zF,reduceCtorEq]
  exact hK _ (congrArg bl ax)
theorem Ce (s : ByteArray) : ∃ r_, (fun w => w = bl (kx s)) r_ ∧ aR Tryz.prog 247 [str s] r_ := by
 refine eu tt_ok [] 26 [.tmp 2] (fn := Tryz.f247) Tryz.func247 rfl Tryz.call247 ⟨rfl, rfl, by simp⟩ fun K hK => ?_
 have gv : Tryz.prog.underlying 9 = some .string := by kernel_rfl
 have sl : ∀ (a : ByteArray) (ty : TypeId), dh Tryz.prog (Builtin.len_ #[9] ty) [.sc (.string a)] = some (num a.size) := fun a ty => cH (P := Tryz.prog) (tt := tt) (T := 9) a gv ty
 simp only [sl,go_sem,reduceIte,zA,zB,zC,zD,zE,zF,reduceCtorEq]
 refine aT (fun nz => ?_) (fun nz => ?_)
 ·simp only [sl,go_sem,reduceIte,zA,zB,zC,zD,zE,zF,reduceCtorEq]
  refine aT (fun vr => ?_) (fun vr => ?_)
  ·obtain ⟨v0, mi⟩ := cr (s := s) (i := 0) (by have := of_decide_eq_true nz; omega)
   have bf := dI (P := Tryz.prog) s gv .i64 (0 : Int) (by omega) (c := v0) (show s[((0 : Nat) : Int).toNat]? = some v0 from mi)
   have Tc : c8 s 0 = v0.toNat := dD mi
   simp only [bf,sl,go_sem,reduceIte,zA,zB,zC,zD,zE,zF,reduceCtorEq]
   refine cF (qa _) ?_
   rintro _ rfl
   simp only [bf,sl,go_sem,reduceIte,zA,zB,zC,zD,zE,zF,reduceCtorEq]
   refine aT (fun Cf => ?_) (fun Cf => ?_)
   ·simp only [bf,sl,go_sem,reduceIte,zA,zB,zC,zD,zE,zF,reduceCtorEq]
    refine cF (HE s (by have := of_decide_eq_true vr; omega)) ?_
    rintro _ rfl
    simp only [bf,sl,go_sem,reduceIte,zA,zB,zC,zD,zE,zF,reduceCtorEq]
    refine aT (fun Cg => ?_) (fun Cg => ?_)
    ·simp only [bf,sl,go_sem,reduceIte,zA,zB,zC,zD,zE,zF,reduceCtorEq]
     refine cF (xt) ?_
     rintro _ rfl
     simp only [bf,sl,go_sem,reduceIte,zA,zB,zC,zD,zE,zF,reduceCtorEq]
     refine cF (Cd PW s (by decide)) ?_
     rintro _ rfl
     simp only [bf,sl,go_sem,reduceIte,zA,zB,zC,zD,zE,zF,reduceCtorEq]
     exact hK _ (congrArg bl (by rw [mv]; simp_all <;> (intros; omega)))
    ·simp only [bf,sl,go_sem,reduceIte,zA,zB,zC,zD,zE,zF,reduceCtorEq]
     exact hK _ (congrArg bl (by rw [mv]; simp_all <;> (intros; omega)))
   ·simp only [bf,sl,go_sem,reduceIte,zA,zB,zC,zD,zE,zF,reduceCtorEq]
    exact hK _ (congrArg bl (by rw [mv]; simp_all <;> (intros; omega)))
  ·simp only [sl,go_sem,reduceIte,zA,zB,zC,zD,zE,zF,reduceCtorEq]
   exact hK _ (congrArg bl (by rw [mv]; simp_all <;> (intros; omega)))
 ·simp only [sl,go_sem,reduceIte,zA,zB,zC,zD,zE,zF,reduceCtorEq]
  exact hK _ (congrArg bl (by rw [mv]; simp_all <;> (intros; omega)))
theorem zT (s : ByteArray) (hs : s.size ≤ 1048576) : ∃ r_, (fun w => w = bl (nb s)) r_ ∧ aR Tryz.prog 193 [str s] r_ := by
 refine eu tt_ok [] 24 [.tmp 2] (fn := Tryz.f193) Tryz.func193 rfl Tryz.call193 ⟨rfl, rfl, by simp⟩ fun K hK => ?_
 have gv : Tryz.prog.underlying 9 = some .string := by kernel_rfl
 have sl : ∀ (a : ByteArray) (ty : TypeId), dh Tryz.prog (Builtin.len_ #[9] ty) [.sc (.string a)] = some (num a.size) := fun a ty => cH (P := Tryz.prog) (tt := tt) (T := 9) a gv ty
 simp only [sl,go_sem,reduceIte,zA,zB,zC,zD,zE,zF,reduceCtorEq]
 refine bk tt_ok [] [3] 0 [0] (fun vs => ((s.size : Int) - Go.Eng.intOf (vs.headD .undef)).toNat) (fun vs => ∃ i : Nat, vs = [num i] ∧ i ≤ s.size ∧ ∀ j < i, ∀ b, s[j]? = some b → sP b.toNat = true) (by omega) (by simp only [sl,go_sem,reduceIte,zA,zB,zC,zD,zE,zF,reduceCtorEq]) (⟨0, rfl, Nat.zero_le _, fun j hj => absurd hj (Nat.not_lt_zero j)⟩) fun vs hI Z1 bX => ?_
 obtain ⟨i, rfl, hi, cT⟩ := hI
 simp only [sl,go_sem,reduceIte,zA,zB,zC,zD,zE,zF,reduceCtorEq]
 refine aT (fun HF => ?_) (fun HF => ?_)
 ·have aL : i < s.size := by simpa using HF
  have hw := aq i (by omega)
  obtain ⟨c, lH⟩ := cr (s := s) (i := i) aL
  have fP := dI (P := Tryz.prog) s gv .i64 (i : Int) (by omega) (c := c) (show s[((i : Nat) : Int).toNat]? = some c from lH)
  simp only [hw,fP,sl,go_sem,reduceIte,zA,zB,zC,zD,zE,zF,reduceCtorEq]
  refine cF (qa _) ?_
  rintro _ rfl
  simp only [hw,fP,sl,go_sem,reduceIte,zA,zB,zC,zD,zE,zF,reduceCtorEq]
  refine aT (fun zU => ?_) (fun zU => ?_)
  ·simp only [hw,fP,sl,go_sem,reduceIte,zA,zB,zC,zD,zE,zF,reduceCtorEq]
   refine cF (mU _) ?_
   rintro _ rfl
   simp only [hw,fP,sl,go_sem,reduceIte,zA,zB,zC,zD,zE,zF,reduceCtorEq]
   refine aT (fun ra => ?_) (fun ra => ?_)
   ·have ax : false = nb s := by unfold nb; rw [jq (p := sP) lH (by unfold sP; simp_all), Bool.and_false]
    simp only [hw,fP,sl,go_sem,reduceIte,zA,zB,zC,zD,zE,zF,reduceCtorEq]
    exact hK _ (congrArg bl ax)
   ·simp only [hw,fP,sl,go_sem,reduceIte,zA,zB,zC,zD,zE,zF,reduceCtorEq]
    refine bX _ (b5 (by omega) (by simp only [hw,fP,sl,go_sem,reduceIte,zA,zB,zC,zD,zE,zF,reduceCtorEq]) ?_ ?_) <;> simp only [dY,lk,reduceIte,zE]
    ·refine ⟨i + 1, rfl, aL, fun j hj b hb => ?_⟩
     rcases Nat.lt_or_ge j i with h | h
     ·exact cT j h b hb
     ·obtain rfl : j = i := by omega
      rw [lH] at hb; cases hb; unfold sP; simp_all
    ·simp only [Go.Eng.intOf,List.headD_cons]; omega
  ·simp only [hw,fP,sl,go_sem,reduceIte,zA,zB,zC,zD,zE,zF,reduceCtorEq]
   refine bX _ (b5 (by omega) (by simp only [hw,fP,sl,go_sem,reduceIte,zA,zB,zC,zD,zE,zF,reduceCtorEq]) ?_ ?_) <;> simp only [dY,lk,reduceIte,zE]
   ·refine ⟨i + 1, rfl, aL, fun j hj b hb => ?_⟩
    rcases Nat.lt_or_ge j i with h | h
    ·exact cT j h b hb
    ·obtain rfl : j = i := by omega
     rw [lH] at hb; cases hb; unfold sP; simp_all
   ·simp only [Go.Eng.intOf,List.headD_cons]; omega
 ·have cP : ¬ i < s.size := by simpa using HF
  have bp : gH sP s = true := ku fun j hj b hb => cT j (by omega) b hb
  have ax : kx s = nb s := by unfold nb; rw [bp, Bool.and_true]
  simp only [sl,go_sem,reduceIte,zA,zB,zC,zD,zE,zF,reduceCtorEq]
  refine cF (Ce s) ?_
  rintro _ rfl
  simp only [sl,go_sem,reduceIte,zA,zB,zC,zD,zE,zF,reduceCtorEq]
  exact hK _ (congrArg bl ax)
end Go.Proofs.YtefbaladomfccaaGreatDoor
end

section
namespace Go.Proofs.YtefbaladomfccaaGreatDoor
open Go.Eng
open Nat renaming reduceAdd → zA, reduceLT → zB, reduceLeDiff → zC, reduceMul → zD, reduceEqDiff → zE, reduceSub → zF
variable [aK]
set_option maxHeartbeats 4000000
set_option maxRecDepth 100000
theorem zV (t : ByteArray) : ∀ k, (∀ j < k, eZ (c8 t j) = true) → 0 ≤ dZ t k ∧ dZ t k < 10 ^ k
 | 0, _ => ⟨Int.le_refl _, by simp [dZ]⟩
 | k + 1, h => by
  obtain ⟨h1, h2⟩ := zV t k fun j hj => h j (by omega)
  have h3 := h k (by omega)
  unfold eZ at h3
  simp only [Bool.and_eq_true,decide_eq_true_eq] at h3
  rw [dZ, Int.pow_succ]
  omega
theorem vt {t : ByteArray} {k : Nat} (hk : k ≤ 3) (h : ∀ j < k, eZ (c8 t j) = true) : 0 ≤ dZ t k ∧ dZ t k < 1000 := by
 obtain ⟨h1, h2⟩ := zV t k h
 refine ⟨h1, Int.lt_of_lt_of_le h2 ?_⟩
 have : k = 0 ∨ k = 1 ∨ k = 2 ∨ k = 3 := by omega
 rcases this with rfl | rfl | rfl | rfl <;> decide
theorem Ch {s : ByteArray} (h : rh s = true) : mg s = true ∧ 2 ≤ s.size ∧ s.size ≤ 4 := by
 unfold rh at h
 rw [qh]
 by_cases h1 : s.size < 2 <;> by_cases h2 : 4 < s.size <;> simp_all <;> omega
theorem II {o : List ByteArray} {z : ByteArray} {c : UInt8} (h : o[o.length - 1]? = some z) (hc : c ≠ 47) : fA o c = o.set (o.length - 1) (z ++ ⟨#[c]⟩) := by
 unfold fA; rw [if_neg hc, h]; rfl
theorem vu {s : ByteArray} {i : Nat} {c : UInt8} (h : s[i]? = some c) : (cw s).take (i + 1) = (cw s).take i ++ [c] := by
 unfold cw; rw [List.take_add_one, mc h]; rfl
theorem zW (s : ByteArray) : ∃ r_, (fun w => w = num (if cx s = true then jE s else -1)) r_ ∧ aR Tryz.prog 194 [str s] r_ := by
 refine eu tt_ok [] 48 [.tmp 2] (fn := Tryz.f194) Tryz.func194 rfl Tryz.call194 ⟨rfl, rfl, by simp⟩ fun K hK => ?_
 have gv : Tryz.prog.underlying 9 = some .string := by kernel_rfl
 have sl : ∀ (a : ByteArray) (ty : TypeId), dh Tryz.prog (Builtin.len_ #[9] ty) [.sc (.string a)] = some (num a.size) := fun a ty => cH (P := Tryz.prog) (tt := tt) (T := 9) a gv ty
 have W3 : Tryz.prog.underlying 5 = some (.int .u8) := by kernel_rfl
 have W4 : Tryz.prog.underlying 3 = some (.int .i64) := by kernel_rfl
 have cv := fun (k : IntKind) (n : Int) => CS (P := Tryz.prog) (src := 5) (dst := 3) W3 W4 k n
 simp only [sl,cv,go_sem,reduceIte,zA,zB,zC,zD,zE,zF,reduceCtorEq]
 refine aT (fun nz => ?_) (fun nz => ?_)
 ·have cT : cx s = false := by rw [jw]; unfold rh; simp_all <;> (intros; omega)
  have ax : -1 = if cx s = true then jE s else -1 := by rw [cT]; rfl
  simp only [sl,cv,go_sem,reduceIte,zA,zB,zC,zD,zE,zF,reduceCtorEq]
  exact hK _ (congrArg num ax)
 ·simp only [sl,cv,go_sem,reduceIte,zA,zB,zC,zD,zE,zF,reduceCtorEq]
  refine aT (fun vr => ?_) (fun vr => ?_)
  ·have cT : cx s = false := by rw [jw]; unfold rh; simp_all <;> (intros; omega)
   have ax : -1 = if cx s = true then jE s else -1 := by rw [cT]; rfl
   simp only [sl,cv,go_sem,reduceIte,zA,zB,zC,zD,zE,zF,reduceCtorEq]
   exact hK _ (congrArg num ax)
  ·have Aw : 2 ≤ s.size := by simp_all <;> omega
   obtain ⟨v0, mi⟩ := cr (s := s) (i := 0) (by omega)
   have bf := dI (P := Tryz.prog) s gv .i64 (0 : Int) (by omega) (c := v0) (show s[((0 : Nat) : Int).toNat]? = some v0 from mi)
   have Tc : c8 s 0 = v0.toNat := dD mi
   simp only [bf,sl,cv,go_sem,reduceIte,zA,zB,zC,zD,zE,zF,reduceCtorEq]
   refine aT (fun Cf => ?_) (fun Cf => ?_)
   ·have cT : cx s = false := by rw [jw]; unfold rh; simp_all <;> (intros; omega)
    have ax : -1 = if cx s = true then jE s else -1 := by rw [cT]; rfl
    simp only [bf,sl,cv,go_sem,reduceIte,zA,zB,zC,zD,zE,zF,reduceCtorEq]
    exact hK _ (congrArg num ax)
   ·obtain ⟨v1, MW⟩ := cr (s := s) (i := 1) (by omega)
    have fq := dI (P := Tryz.prog) s gv .i64 (1 : Int) (by omega) (c := v1) (show s[((1 : Nat) : Int).toNat]? = some v1 from MW)
    have oA : c8 s 1 = v1.toNat := dD MW
    simp only [bf,fq,sl,cv,go_sem,reduceIte,zA,zB,zC,zD,zE,zF,reduceCtorEq]
    refine aT (fun Cg => ?_) (fun Cg => ?_)
    ·simp only [bf,fq,sl,cv,go_sem,reduceIte,zA,zB,zC,zD,zE,zF,reduceCtorEq]
     refine aT (fun xp => ?_) (fun xp => ?_)
     ·have cT : cx s = false := by rw [jw]; unfold rh; simp_all <;> (intros; omega)
      have ax : -1 = if cx s = true then jE s else -1 := by rw [cT]; rfl
      simp only [bf,fq,sl,cv,go_sem,reduceIte,zA,zB,zC,zD,zE,zF,reduceCtorEq]
      exact hK _ (congrArg num ax)
     ·have Ua : rh s = true := by unfold rh; simp_all <;> (intros; omega)
      obtain ⟨hv, Aw, hs4⟩ := Ch Ua
      obtain ⟨t, ht⟩ : ∃ t, t = gI s := ⟨_, rfl⟩
      have XI : t.size = s.size - 1 := by rw [ht]; exact my hv
      have Aq : cx s = gH eZ t := by rw [jw, Ua, ht]; rfl
      simp only [bf,fq,sl,cv,go_sem,reduceIte,zA,zB,zC,zD,zE,zF,reduceCtorEq]
      refine bk tt_ok [] [4,3] 0 [0,27] (fun vs => ((s.size : Int) - Go.Eng.intOf (vs.headD .undef)).toNat) (fun vs => ∃ i : Nat, vs = [num i, num (dZ t (i - 1))] ∧ 1 ≤ i ∧ i ≤ s.size ∧ ∀ j < i - 1, eZ (c8 t j) = true) (by omega) (by simp only [bf,fq,sl,cv,go_sem,reduceIte,zA,zB,zC,zD,zE,zF,reduceCtorEq]) (⟨1, rfl, Nat.le_refl _, by omega, fun j hj => absurd hj (Nat.not_lt_zero j)⟩) fun vs hI Z1 bX => ?_
      obtain ⟨i, rfl, oe, hi, cT⟩ := hI
      simp only [bf,fq,sl,cv,go_sem,reduceIte,zA,zB,zC,zD,zE,zF,reduceCtorEq]
      refine aT (fun fp => ?_) (fun fp => ?_)
      ·have aL : i < s.size := by simpa using fp
       have hw := aq i (by omega)
       obtain ⟨c, lH⟩ := cr (s := s) (i := i) aL
       have fP := dI (P := Tryz.prog) s gv .i64 (i : Int) (by omega) (c := c) (show s[((i : Nat) : Int).toNat]? = some c from lH)
       have Ub : t[i - 1]? = some c := by rw [ht, nZ hv, Nat.sub_add_cancel oe]; exact lH
       have Uc : c8 t (i - 1) = c.toNat := dD Ub
       simp only [bf,fq,hw,fP,sl,cv,go_sem,reduceIte,zA,zB,zC,zD,zE,zF,reduceCtorEq]
       refine cF (mU _) ?_
       rintro _ rfl
       simp only [bf,fq,hw,fP,sl,cv,go_sem,reduceIte,zA,zB,zC,zD,zE,zF,reduceCtorEq]
       refine aT (fun qi => ?_) (fun qi => ?_)
       ·have RI : eZ (c.toNat : Int) = false := by simpa using qi
        have Bn : cx s = false := by rw [Aq]; exact jq Ub RI
        have ax : -1 = if cx s = true then jE s else -1 := by rw [Bn]; rfl
        simp only [bf,fq,hw,fP,sl,cv,go_sem,reduceIte,zA,zB,zC,zD,zE,zF,reduceCtorEq]
        exact hK _ (congrArg num ax)
       ·have K2 : eZ (c.toNat : Int) = true := by simpa using qi
        have IJ := K2
        unfold eZ at IJ
        simp only [Bool.and_eq_true,decide_eq_true_eq] at IJ
        obtain ⟨Qz, Mc⟩ := vt (t := t) (k := i - 1) (by omega) cT
        have hu : IntKind.u8.wrap ((c.toNat : Int) - 48) = (c.toNat : Int) - 48 := by have h := c.toNat_lt; simp only [IntKind.wrap,IntKind.bits,IntKind.signed]; simp; omega
        have s5 : IntKind.i64.wrap ((c.toNat : Int) - 48) = (c.toNat : Int) - 48 := IntWalk.i64_in _ (by omega)
        have s6 : IntKind.i64.wrap (10 * dZ t (i - 1)) = 10 * dZ t (i - 1) := IntWalk.i64_in _ (by omega)
        have H0 : IntKind.i64.wrap (10 * dZ t (i - 1) + ((c.toNat : Int) - 48)) = dZ t i := by
         conv => rhs; rw [show i = i - 1 + 1 by omega, dZ, Uc]
         exact IntWalk.i64_in _ (by omega)
        simp only [bf,fq,hw,fP,hu,s5,s6,H0,sl,cv,go_sem,reduceIte,zA,zB,zC,zD,zE,zF,reduceCtorEq]
        refine bX _ (b5 (by omega) (by simp only [bf,fq,hw,fP,hu,s5,s6,H0,sl,cv,go_sem,reduceIte,zA,zB,zC,zD,zE,zF,reduceCtorEq]) ?_ ?_) <;> simp only [dY,lk,reduceIte,zE]
        ·refine ⟨i + 1, by rw [Nat.add_sub_cancel], by omega, aL, fun j hj => ?_⟩
         rw [Nat.add_sub_cancel] at hj
         rcases Nat.lt_or_ge j (i - 1) with h | h
         ·exact cT j h
         ·obtain rfl : j = i - 1 := by omega
          rw [Uc]; simpa using qi
        ·simp only [Go.Eng.intOf,List.headD_cons]; omega
      ·have cP : i = s.size := Nat.le_antisymm hi (Nat.le_of_not_lt (by simpa using fp))
       have K1 : gH eZ t = true := ku fun j hj b hb => by have h := cT j (by omega); rwa [dD hb] at h
       have ax : dZ t (i - 1) = if cx s = true then jE s else -1 := by
        rw [Aq, K1, if_pos rfl]
        unfold jE
        rw [← ht, XI, cP]
       simp only [bf,fq,sl,cv,go_sem,reduceIte,zA,zB,zC,zD,zE,zF,reduceCtorEq]
       exact hK _ (congrArg num ax)
    ·have Ua : rh s = true := by unfold rh; simp_all <;> (intros; omega)
     obtain ⟨hv, Aw, hs4⟩ := Ch Ua
     obtain ⟨t, ht⟩ : ∃ t, t = gI s := ⟨_, rfl⟩
     have XI : t.size = s.size - 1 := by rw [ht]; exact my hv
     have Aq : cx s = gH eZ t := by rw [jw, Ua, ht]; rfl
     simp only [bf,fq,sl,cv,go_sem,reduceIte,zA,zB,zC,zD,zE,zF,reduceCtorEq]
     refine bk tt_ok [] [4,3] 0 [0,27] (fun vs => ((s.size : Int) - Go.Eng.intOf (vs.headD .undef)).toNat) (fun vs => ∃ i : Nat, vs = [num i, num (dZ t (i - 1))] ∧ 1 ≤ i ∧ i ≤ s.size ∧ ∀ j < i - 1, eZ (c8 t j) = true) (by omega) (by simp only [bf,fq,sl,cv,go_sem,reduceIte,zA,zB,zC,zD,zE,zF,reduceCtorEq]) (⟨1, rfl, Nat.le_refl _, by omega, fun j hj => absurd hj (Nat.not_lt_zero j)⟩) fun vs hI Z2 jD => ?_
     obtain ⟨i, rfl, oe, hi, cT⟩ := hI
     simp only [bf,fq,sl,cv,go_sem,reduceIte,zA,zB,zC,zD,zE,zF,reduceCtorEq]
     refine aT (fun fp => ?_) (fun fp => ?_)
     ·have aL : i < s.size := by simpa using fp
      have hw := aq i (by omega)
      obtain ⟨c, lH⟩ := cr (s := s) (i := i) aL
      have fP := dI (P := Tryz.prog) s gv .i64 (i : Int) (by omega) (c := c) (show s[((i : Nat) : Int).toNat]? = some c from lH)
      have Ub : t[i - 1]? = some c := by rw [ht, nZ hv, Nat.sub_add_cancel oe]; exact lH
      have Uc : c8 t (i - 1) = c.toNat := dD Ub
      simp only [bf,fq,hw,fP,sl,cv,go_sem,reduceIte,zA,zB,zC,zD,zE,zF,reduceCtorEq]
      refine cF (mU _) ?_
      rintro _ rfl
      simp only [bf,fq,hw,fP,sl,cv,go_sem,reduceIte,zA,zB,zC,zD,zE,zF,reduceCtorEq]
      refine aT (fun qi => ?_) (fun qi => ?_)
      ·have RI : eZ (c.toNat : Int) = false := by simpa using qi
       have Bn : cx s = false := by rw [Aq]; exact jq Ub RI
       have ax : -1 = if cx s = true then jE s else -1 := by rw [Bn]; rfl
       simp only [bf,fq,hw,fP,sl,cv,go_sem,reduceIte,zA,zB,zC,zD,zE,zF,reduceCtorEq]
       exact hK _ (congrArg num ax)
      ·have K2 : eZ (c.toNat : Int) = true := by simpa using qi
       have IJ := K2
       unfold eZ at IJ
       simp only [Bool.and_eq_true,decide_eq_true_eq] at IJ
       obtain ⟨Qz, Mc⟩ := vt (t := t) (k := i - 1) (by omega) cT
       have hu : IntKind.u8.wrap ((c.toNat : Int) - 48) = (c.toNat : Int) - 48 := by have h := c.toNat_lt; simp only [IntKind.wrap,IntKind.bits,IntKind.signed]; simp; omega
       have s5 : IntKind.i64.wrap ((c.toNat : Int) - 48) = (c.toNat : Int) - 48 := IntWalk.i64_in _ (by omega)
       have s6 : IntKind.i64.wrap (10 * dZ t (i - 1)) = 10 * dZ t (i - 1) := IntWalk.i64_in _ (by omega)
       have H0 : IntKind.i64.wrap (10 * dZ t (i - 1) + ((c.toNat : Int) - 48)) = dZ t i := by
        conv => rhs; rw [show i = i - 1 + 1 by omega, dZ, Uc]
        exact IntWalk.i64_in _ (by omega)
       simp only [bf,fq,hw,fP,hu,s5,s6,H0,sl,cv,go_sem,reduceIte,zA,zB,zC,zD,zE,zF,reduceCtorEq]
       refine jD _ (b5 (by omega) (by simp only [bf,fq,hw,fP,hu,s5,s6,H0,sl,cv,go_sem,reduceIte,zA,zB,zC,zD,zE,zF,reduceCtorEq]) ?_ ?_) <;> simp only [dY,lk,reduceIte,zE]
       ·refine ⟨i + 1, by rw [Nat.add_sub_cancel], by omega, aL, fun j hj => ?_⟩
        rw [Nat.add_sub_cancel] at hj
        rcases Nat.lt_or_ge j (i - 1) with h | h
        ·exact cT j h
        ·obtain rfl : j = i - 1 := by omega
         rw [Uc]; simpa using qi
       ·simp only [Go.Eng.intOf,List.headD_cons]; omega
     ·have cP : i = s.size := Nat.le_antisymm hi (Nat.le_of_not_lt (by simpa using fp))
      have K1 : gH eZ t = true := ku fun j hj b hb => by have h := cT j (by omega); rwa [dD hb] at h
      have ax : dZ t (i - 1) = if cx s = true then jE s else -1 := by
       rw [Aq, K1, if_pos rfl]
       unfold jE
       rw [← ht, XI, cP]
      simp only [bf,fq,sl,cv,go_sem,reduceIte,zA,zB,zC,zD,zE,zF,reduceCtorEq]
      exact hK _ (congrArg num ax)
end Go.Proofs.YtefbaladomfccaaGreatDoor
end

section
namespace Go.Proofs.YtefbaladomfccaaGreatDoor
open Go.Eng
open Nat renaming reduceAdd → zA, reduceLT → zB, reduceLeDiff → zC, reduceMul → zD, reduceEqDiff → zE, reduceSub → zF
variable [aK]
set_option maxHeartbeats 4000000
set_option maxRecDepth 100000
theorem Lv (c : UInt8) : strOfNums [(c.toNat : Int)] = ⟨#[c]⟩ := by
 unfold strOfNums; simp
theorem Fs {s : ByteArray} {i : Nat} {c : UInt8} {xs : List ByteArray} {y : ByteArray} (hc : s[i]? = some c) (hx : fC ((cw s).take i) = xs ++ [y]) (h : (c.toNat : Int) = 47) : fC ((cw s).take (i + 1)) = (xs ++ [y]) ++ [⟨#[]⟩] := by
 have e : c = 47 := UInt8.toNat_inj.1 (by rw [show (47 : UInt8).toNat = 47 from rfl]; omega)
 rw [vu hc, pn, hx, e]; rfl
theorem IK {s : ByteArray} {i : Nat} {c : UInt8} {xs : List ByteArray} {y : ByteArray} (hc : s[i]? = some c) (hx : fC ((cw s).take i) = xs ++ [y]) (h : ¬ (c.toNat : Int) = 47) : fC ((cw s).take (i + 1)) = xs ++ [y ++ ⟨#[c]⟩] := by
 have e : c ≠ 47 := fun e => h (by rw [e]; rfl)
 rw [vu hc, pn, hx, II (z := y) (by simp) e]
 simp
theorem IL {s : ByteArray} (h : bZ s = true) : ∃ j : Nat, j < s.size ∧ s[j]? = some 47 := by
 unfold bZ at h
 simp only [Bool.and_eq_true,decide_eq_true_eq] at h
 obtain ⟨⟨-, h2⟩, -⟩ := h
 rw [eP] at h2
 have hc : Lib.countB s ⟨#[47]⟩ = s.data.toList.count 47 := by
  unfold Lib.countB
  exact Lib.count_one 47 s.data.toList
 have hm : (47 : UInt8) ∈ s.data.toList := List.count_pos_iff.1 (by omega)
 obtain ⟨j, hj⟩ := List.mem_iff_getElem?.1 hm
 have rk : j < s.size := by have := (List.getElem?_eq_some_iff.1 hj).1; simpa using this
 obtain ⟨c, lH⟩ := cr rk
 have := mc lH
 rw [hj] at this; cases this
 exact ⟨j, rk, lH⟩
theorem Ci (s : ByteArray) : 0 < (pieces s).length := by rw [eP]; omega
theorem Cj {s z : ByteArray} (h : z ∈ pieces s) : z.size ≤ s.size := by
 have key : ∀ (l : List UInt8) (o : List ByteArray) (n : Nat), (∀ x ∈ o, x.size ≤ n) → ∀ x ∈ l.foldl fA o, x.size ≤ n + l.length := by
  intro l
  induction l with
  | nil => intro o n h x hx; simpa using h x hx
  | cons b l ih =>
   intro o n h x hx
   rw [List.foldl_cons] at hx
   have := ih (fA o b) (n + 1) (fun y hy => by
    unfold fA at hy
    split at hy
    ·rcases List.mem_append.1 hy with hy | hy
     ·exact Nat.le_succ_of_le (h y hy)
     ·rw [List.mem_singleton.1 hy]; exact Nat.zero_le _
    ·rcases List.mem_or_eq_of_mem_set hy with hy | hy
     ·exact Nat.le_succ_of_le (h y hy)
     ·rw [hy, ByteArray.size_append]
      have hs : (⟨#[b]⟩ : ByteArray).size = 1 := rfl
      have : ((o[o.length - 1]?).getD ⟨#[]⟩).size ≤ n := by
       cases hq : o[o.length - 1]? with
       | none => exact Nat.zero_le _
       | some q => exact h q (List.mem_of_getElem? hq)
      omega) x hx
   rw [List.length_cons]; omega
 rw [← mw] at h
 have := key (cw s) [⟨#[]⟩] 0 (fun x hx => by rw [List.mem_singleton.1 hx]; exact Nat.zero_le _) z h
 rw [Nat.zero_add] at this
 exact this
theorem DF {z : ByteArray} (h : cx z = true) : 0 ≤ jE z := by
 rw [jw] at h
 simp only [Bool.and_eq_true] at h
 obtain ⟨-, -, h4⟩ := Ch h.1
 exact (nT h.2 _ (Nat.le_refl _)).1
theorem IN (s : ByteArray) (hs : s.size ≤ 1048576) : ∃ r_, (fun w => w = .slice ((pieces s).map str)) r_ ∧ aR Tryz.prog 192 [str s] r_ := by
 refine eu tt_ok [] 37 [.tmp 2] (fn := Tryz.f192) Tryz.func192 rfl Tryz.call192 ⟨rfl, rfl, by simp⟩ fun K hK => ?_
 have gv : Tryz.prog.underlying 9 = some .string := by kernel_rfl
 have sl : ∀ (a : ByteArray) (ty : TypeId), dh Tryz.prog (Builtin.len_ #[9] ty) [.sc (.string a)] = some (num a.size) := fun a ty => cH (P := Tryz.prog) (tt := tt) (T := 9) a gv ty
 have MX := fun (n : Int) => xK (P := Tryz.prog) (mem := []) (s := 338) (d := 9) (e := 5) (rows := [.sc (.int .u8 n)]) (ns := [n]) (by kernel_rfl) (by kernel_rfl) gv rfl
 have tI : ∀ c : Int, (strOfNums [c]).size = 1 := fun c => rfl
 simp only [sl,MX,go_sem,reduceIte,zA,zB,zC,zD,zE,zF,reduceCtorEq]
 refine dk tt_ok [] (fun a : Nat × Nat × List ByteArray × ByteArray => [(0, str s), (3, .ms 0 a.2.1 0 (a.2.1 + 1)), (4, num a.1)]) (fun a : Nat × Nat × List ByteArray × ByteArray => [.rows a.2.1 1 ((a.2.2.1 ++ [a.2.2.2]).map str)]) (fun a => s.size - a.1) (fun a => a.1 ≤ s.size ∧ a.2.2.1.length = a.2.1 ∧ a.2.1 ≤ a.1 ∧ a.2.2.2.size ≤ a.1 ∧ (∀ x ∈ a.2.2.1, x.size ≤ s.size) ∧ fC ((cw s).take a.1) = a.2.2.1 ++ [a.2.2.2]) ((0, 0, [], ⟨#[]⟩)) 1 (bz (by omega) (by simp only [sl,MX,List.map_cons,List.map_nil,List.nil_append,Int.cast_ofNat_Int,go_sem,reduceIte,zA,zB,zC,zD,zE,zF,reduceCtorEq] <;> rfl)) (⟨Nat.zero_le _, rfl, Nat.le_refl _, Nat.le_refl _, (fun x hx => by cases hx), rfl⟩) ?_
 rintro ⟨i, k, xs, y⟩ ⟨hi, xC, CX, hyi, bp, Lw⟩
 try dsimp only at hi xC CX hyi bp Lw
 try dsimp only
 intro Z1 bX
 simp only [sl,MX,go_sem,reduceIte,zA,zB,zC,zD,zE,zF,reduceCtorEq]
 refine aT (fun jC => ?_) (fun jC => ?_)
 ·have aL : i < s.size := by simpa using jC
  have hw := aq i (by omega)
  obtain ⟨c, lH⟩ := cr (s := s) (i := i) aL
  have fP := dI (P := Tryz.prog) s gv .i64 (i : Int) (by omega) (c := c) (show s[((i : Nat) : Int).toNat]? = some c from lH)
  have eV : IntKind.i64.wrap (((k + 1 : Nat) : Int) - 1) = ((k : Nat) : Int) := jo _ k (by omega) (by omega)
  have dP : ((k : Nat) : Int) < ((k + 1 : Nat) : Int) := by omega
  have Vi : (xs ++ [y])[k]? = some y := by rw [List.getElem?_append_right (by omega), xC, Nat.sub_self]; rfl
  have nu : k + 1 + 1 ≤ 34359738368 := by omega
  have QM := fun a b => wE Tryz.prog 9 a b y (strOfNums [(c.toNat : Int)]) (by rw [tI, show IntKind.i64.max = 9223372036854775807 from rfl]; omega)
  simp only [hw,fP,eV,dP,nu,xC,List.getElem?_map,Vi,QM,List.length_map,List.length_append,List.length_cons,List.length_nil,Nat.zero_add,sl,MX,go_sem,reduceIte,zA,zB,zC,zD,zE,zF,reduceCtorEq]
  refine aT (fun me => ?_) (fun me => ?_)
  ·let nv : Nat × Nat × List ByteArray × ByteArray := (i + 1, k + 1, xs ++ [y], ⟨#[]⟩)
   have vw : ∀ x ∈ nv.2.2.1, x.size ≤ s.size := fun x hx => by
    rcases List.mem_append.1 hx with h | h
    ·exact bp x h
    ·rw [List.mem_singleton.1 h]; omega
   have IP : fC ((cw s).take nv.1) = nv.2.2.1 ++ [nv.2.2.2] := Fs lH Lw (by simpa using me)
   simp only [hw,fP,eV,dP,nu,xC,List.getElem?_map,Vi,QM,List.length_map,List.length_append,List.length_cons,List.length_nil,Nat.zero_add,sl,MX,go_sem,reduceIte,zA,zB,zC,zD,zE,zF,reduceCtorEq]
   refine bX _ ⟨nv, ?_, ?_, bz (by omega) (by (simp [nv, pD, lk, cA, dK, ah, aB, List.map_append]; first | done | (rw [List.set_append_right _ _ (by rw [List.length_map]; omega), List.length_map, xC, Nat.sub_self]; rfl)))⟩
   ·refine ⟨aL, ?_, ?_, ?_, ?_⟩
    ·dsimp only [nv]; first | exact xC | (rw [List.length_append, xC]; rfl)
    ·dsimp only [nv]; omega
    ·dsimp only [nv]; first | exact Nat.zero_le _ | (rw [ByteArray.size_append, tI]; omega)
    ·exact ⟨vw, IP⟩
   ·dsimp only [nv]; omega
  ·let nv : Nat × Nat × List ByteArray × ByteArray := (i + 1, k, xs, y ++ strOfNums [(c.toNat : Int)])
   have vw : ∀ x ∈ nv.2.2.1, x.size ≤ s.size := bp
   have IP : fC ((cw s).take nv.1) = nv.2.2.1 ++ [nv.2.2.2] := by show _ = xs ++ [y ++ strOfNums [(c.toNat : Int)]]; rw [Lv]; exact IK lH Lw (by simpa using me)
   simp only [hw,fP,eV,dP,nu,xC,List.getElem?_map,Vi,QM,List.length_map,List.length_append,List.length_cons,List.length_nil,Nat.zero_add,sl,MX,go_sem,reduceIte,zA,zB,zC,zD,zE,zF,reduceCtorEq]
   refine bR tt_ok aN [⟨.n, 0, [], [], []⟩, ⟨.n, 0, [], [], []⟩, ⟨.n, 0, [], [], []⟩, ⟨.n, 0, [], [], []⟩, ⟨.n, 0, [], [], []⟩, ⟨.n, 0, [], [], []⟩, ⟨.n, 0, [], [], []⟩, ⟨.n, 0, [], [], []⟩, ⟨.r, 0, [], [], []⟩, ⟨.r, 0, [], [], []⟩, ⟨.n, 0, [], [], []⟩, ⟨.n, 0, [], [], []⟩, ⟨.n, 0, [], [], []⟩, ⟨.n, 0, [], [], []⟩, ⟨.n, 0, [], [], []⟩, ⟨.n, 0, [], [], []⟩, ⟨.r, 0, [], [], []⟩, ⟨.w, 0, [], [], []⟩] 1 (by kernel_rfl) ?_
   simp only [hw,fP,eV,dP,nu,xC,List.getElem?_map,Vi,QM,List.length_map,List.length_append,List.length_cons,List.length_nil,Nat.zero_add,sl,MX,go_sem,reduceIte,zA,zB,zC,zD,zE,zF,reduceCtorEq]
   refine bX _ ⟨nv, ?_, ?_, bz (by omega) (by (simp [nv, pD, lk, cA, dK, ah, aB, List.map_append]; first | done | (rw [List.set_append_right _ _ (by rw [List.length_map]; omega), List.length_map, xC, Nat.sub_self]; rfl)))⟩
   ·refine ⟨aL, ?_, ?_, ?_, ?_⟩
    ·dsimp only [nv]; first | exact xC | (rw [List.length_append, xC]; rfl)
    ·dsimp only [nv]; omega
    ·dsimp only [nv]; first | exact Nat.zero_le _ | (rw [ByteArray.size_append, tI]; omega)
    ·exact ⟨vw, IP⟩
   ·dsimp only [nv]; omega
 ·have cP : ¬ i < s.size := by simpa using jC
  have qc : pieces s = xs ++ [y] := by rw [← mw, ← Lw, List.take_of_length_le]; exact Nat.le_of_not_lt cP
  simp only [sl,MX,go_sem,reduceIte,zA,zB,zC,zD,zE,zF,reduceCtorEq]
  exact Hs (by simp [xC]) (hK _ (by rw [qc]))
theorem vz (s : ByteArray) (hs : s.size ≤ 1048576) : ∃ r_, (fun w => w = .ch [num (cC s), num (bM s)]) r_ ∧ aR Tryz.prog 152 [str s] r_ := by
 refine eu tt_ok [] 39 [.tmp 2, .tmp 3] (fn := Tryz.f152) Tryz.func152 rfl Tryz.call152 ⟨rfl, rfl, by simp⟩ fun K hK => ?_
 have gv : Tryz.prog.underlying 9 = some .string := by kernel_rfl
 have sl : ∀ (a : ByteArray) (ty : TypeId), dh Tryz.prog (Builtin.len_ #[9] ty) [.sc (.string a)] = some (num a.size) := fun a ty => cH (P := Tryz.prog) (tt := tt) (T := 9) a gv ty
 simp only [sl,List.length_map,go_sem,reduceIte,zA,zB,zC,zD,zE,zF,reduceCtorEq]
 refine aT (fun jC => ?_) (fun jC => ?_)
 ·have cT : bZ s = false := by unfold bZ; simp_all <;> (intros; omega)
  simp only [sl,List.length_map,go_sem,reduceIte,zA,zB,zC,zD,zE,zF,reduceCtorEq]
  refine hK _ ?_
  first
   | (unfold cC bM; rw [cT]; rfl)
   | (unfold cC bM; rw [dc, oh]; simp_all; done)
   | (unfold cC bM; rw [dc, oh]; simp_all; rfl)
 ·simp only [sl,List.length_map,go_sem,reduceIte,zA,zB,zC,zD,zE,zF,reduceCtorEq]
  refine cF (IN s (by omega)) ?_
  rintro _ rfl
  obtain ⟨P, hP⟩ : ∃ P, P = pieces s := ⟨_, rfl⟩
  have QO := vh s
  have W5 := Ci s
  have hPz : ∀ x ∈ P, x.size ≤ s.size := fun x hx => Cj (hP ▸ hx)
  rw [← hP]
  rw [← hP] at QO W5
  obtain ⟨z, hz⟩ : ∃ z, P[P.length - 1]? = some z := ⟨_, List.getElem?_eq_getElem (by omega)⟩
  have oh : vg s = z := zm (by rw [← hP]; exact hz)
  have eV : IntKind.i64.wrap ((P.length : Int) - 1) = ((P.length - 1 : Nat) : Int) := jo _ _ (by omega) (by omega)
  simp only [List.getElem?_map,hz,eV,sl,List.length_map,go_sem,reduceIte,zA,zB,zC,zD,zE,zF,reduceCtorEq]
  refine bk tt_ok [] [5] 0 [4,9] (fun vs => ((P.length : Int) - Go.Eng.intOf (vs.headD .undef)).toNat) (fun vs => ∃ i : Nat, vs = [num i] ∧ i ≤ P.length ∧ ∀ j < i, ∀ x, P[j]? = some x → nb x = true) (by omega) (by simp only [List.getElem?_map,hz,eV,sl,List.length_map,go_sem,reduceIte,zA,zB,zC,zD,zE,zF,reduceCtorEq]) (⟨0, rfl, Nat.zero_le _, fun j hj => absurd hj (Nat.not_lt_zero j)⟩) fun vs hI Z1 bX => ?_
  obtain ⟨i, rfl, hi, bp⟩ := hI
  simp only [List.getElem?_map,hz,eV,sl,List.length_map,go_sem,reduceIte,zA,zB,zC,zD,zE,zF,reduceCtorEq]
  refine aT (fun me => ?_) (fun me => ?_)
  ·have aL : i < P.length := by simpa using me
   have hw := aq i (by omega)
   obtain ⟨x, hx⟩ : ∃ x, P[i]? = some x := ⟨_, List.getElem?_eq_getElem aL⟩
   simp only [List.getElem?_map,hz,eV,hw,hx,sl,List.length_map,go_sem,reduceIte,zA,zB,zC,zD,zE,zF,reduceCtorEq]
   refine cF (zT x (by have := hPz x (List.mem_of_getElem? hx); omega)) ?_
   rintro _ rfl
   simp only [List.getElem?_map,hz,eV,hw,hx,sl,List.length_map,go_sem,reduceIte,zA,zB,zC,zD,zE,zF,reduceCtorEq]
   refine aT (fun tg => ?_) (fun tg => ?_)
   ·have cT : bZ s = false := by
     have ha : P.all nb = false := BM hx (by simpa using tg)
     unfold bZ; rw [← hP, ha]; simp
    simp only [List.getElem?_map,hz,eV,hw,hx,sl,List.length_map,go_sem,reduceIte,zA,zB,zC,zD,zE,zF,reduceCtorEq]
    refine hK _ ?_
    first
     | (unfold cC bM; rw [cT]; rfl)
     | (unfold cC bM; rw [dc, oh]; simp_all; done)
     | (unfold cC bM; rw [dc, oh]; simp_all; rfl)
   ·simp only [List.getElem?_map,hz,eV,hw,hx,sl,List.length_map,go_sem,reduceIte,zA,zB,zC,zD,zE,zF,reduceCtorEq]
    refine bX _ (b5 (by omega) (by simp only [List.getElem?_map,hz,eV,hw,hx,sl,List.length_map,go_sem,reduceIte,zA,zB,zC,zD,zE,zF,reduceCtorEq]) ?_ ?_) <;> simp only [dY,lk,reduceIte,zE]
    ·refine ⟨i + 1, rfl, aL, fun j hj => ?_⟩
     rcases Nat.lt_or_ge j i with h | h
     ·exact bp j h
     ·obtain rfl : j = i := by omega
      intro y hy
      rw [hx] at hy; cases hy; simpa using tg
    ·simp only [Go.Eng.intOf,List.headD_cons]; omega
  ·have cP : ¬ i < P.length := by simpa using me
   have ha : P.all nb = true := H2 fun j hj => bp j (by omega)
   simp only [List.getElem?_map,hz,eV,sl,List.length_map,go_sem,reduceIte,zA,zB,zC,zD,zE,zF,reduceCtorEq]
   refine cF (zW z) ?_
   rintro _ rfl
   simp only [List.getElem?_map,hz,eV,sl,List.length_map,go_sem,reduceIte,zA,zB,zC,zD,zE,zF,reduceCtorEq]
   refine aT (fun PZ => ?_) (fun PZ => ?_)
   ·have cT : bZ s = false := by
     unfold bZ; rw [oh, ← hP]
     by_cases hv : cx z = true
     ·have := DF hv; simp_all; omega
     ·simp [hv]
    simp only [List.getElem?_map,hz,eV,sl,List.length_map,go_sem,reduceIte,zA,zB,zC,zD,zE,zF,reduceCtorEq]
    refine hK _ ?_
    first
     | (unfold cC bM; rw [cT]; rfl)
     | (unfold cC bM; rw [dc, oh]; simp_all; done)
     | (unfold cC bM; rw [dc, oh]; simp_all; rfl)
   ·simp only [List.getElem?_map,hz,eV,sl,List.length_map,go_sem,reduceIte,zA,zB,zC,zD,zE,zF,reduceCtorEq]
    refine aT (fun lD => ?_) (fun lD => ?_)
    ·have cT : bZ s = false := by
      unfold bZ; rw [oh, ← hP]
      by_cases hv : cx z = true
      ·have := DF hv; simp_all; omega
      ·simp [hv]
     simp only [List.getElem?_map,hz,eV,sl,List.length_map,go_sem,reduceIte,zA,zB,zC,zD,zE,zF,reduceCtorEq]
     refine hK _ ?_
     first
      | (unfold cC bM; rw [cT]; rfl)
      | (unfold cC bM; rw [dc, oh]; simp_all; done)
      | (unfold cC bM; rw [dc, oh]; simp_all; rfl)
    ·have hvz : cx z = true := by
      by_cases hv : cx z = true
      ·exact hv
      ·exfalso; simp_all
     have dc : bZ s = true := by unfold bZ; rw [oh, ← hP, ha, hvz]; simp_all; omega
     simp only [List.getElem?_map,hz,eV,sl,List.length_map,go_sem,reduceIte,zA,zB,zC,zD,zE,zF,reduceCtorEq]
     refine hK _ ?_
     first
      | (unfold cC bM; rw [cT]; rfl)
      | (unfold cC bM; rw [dc, oh]; simp_all; done)
      | (unfold cC bM; rw [dc, oh]; simp_all; rfl)
theorem Ck (s : ByteArray) (hs : s.size ≤ 1048576) : ∃ r_, (fun w => w = bl (bZ s)) r_ ∧ aR Tryz.prog 151 [str s] r_ := by
 refine eu tt_ok [] 12 [.tmp 2] (fn := Tryz.f151) Tryz.func151 rfl Tryz.call151 ⟨rfl, rfl, by simp⟩ fun K hK => ?_
 simp only [go_sem,reduceIte,zA,zB,zC,zD,zE,zF,reduceCtorEq]
 refine cF (vz s hs) ?_
 rintro _ rfl
 simp only [go_sem,reduceIte,zA,zB,zC,zD,zE,zF,reduceCtorEq]
 exact hK _ (congrArg bl (by unfold bM; by_cases h : bZ s = true <;> simp [h]))
end Go.Proofs.YtefbaladomfccaaGreatDoor
end

section
namespace Go.Proofs.YtefbaladomfccaaGreatDoor
open Go.Eng
open Nat renaming reduceAdd → zA, reduceLT → zB, reduceLeDiff → zC, reduceMul → zD, reduceEqDiff → zE, reduceSub → zF
variable [aK]
set_option maxHeartbeats 4000000
set_option maxRecDepth 100000
theorem IQ (s : ByteArray) (hs : s.size ≤ 1048576) : ∃ r_, (fun w => ∃ nm : ByteArray, w = .ch [str nm, num (cC s), num (bM s)]) r_ ∧ aR Tryz.prog 105 [str s] r_ := by
 refine eu tt_ok [] 31 [.tmp 2, .tmp 3, .tmp 4] (fn := Tryz.f105) Tryz.func105 rfl Tryz.call105 ⟨rfl, rfl, by simp⟩ fun K hK => ?_
 have gv : Tryz.prog.underlying 9 = some .string := by kernel_rfl
 have sl : ∀ (a : ByteArray) (ty : TypeId), dh Tryz.prog (Builtin.len_ #[9] ty) [.sc (.string a)] = some (num a.size) := fun a ty => cH (P := Tryz.prog) (tt := tt) (T := 9) a gv ty
 simp only [sl,go_sem,reduceIte,zA,zB,zC,zD,zE,zF,reduceCtorEq]
 refine cF (Ck s hs) ?_
 rintro _ rfl
 simp only [sl,go_sem,reduceIte,zA,zB,zC,zD,zE,zF,reduceCtorEq]
 refine aT (fun fI => ?_) (fun fI => ?_)
 ·have cT : bZ s = false := by simp_all
  have e1 : cC s = 0 := by unfold cC; rw [cT]; rfl
  have e2 : bM s = 4 := by unfold bM; rw [cT]; rfl
  simp only [sl,go_sem,reduceIte,zA,zB,zC,zD,zE,zF,reduceCtorEq]
  first
   | exact hK _ ⟨⟨#[]⟩, by rw [e1, e2] <;> rfl⟩
   | exact hK _ ⟨_, by rw [e2] <;> rfl⟩
 ·have dc : bZ s = true := by simpa using fI
  have e2 : bM s = 0 := by unfold bM; rw [dc]; rfl
  obtain ⟨j0, abH, XJ⟩ := IL dc
  have MY : IntKind.i64.wrap ((s.size : Int) - 1) = (s.size : Int) - 1 := IntWalk.i64_in _ (by omega)
  simp only [MY,sl,go_sem,reduceIte,zA,zB,zC,zD,zE,zF,reduceCtorEq]
  refine cF (vz s hs) ?_
  rintro _ rfl
  simp only [MY,sl,go_sem,reduceIte,zA,zB,zC,zD,zE,zF,reduceCtorEq]
  refine aT (fun jv => ?_) (fun jv => ?_)
  ·(rw [e2] at jv; simp at jv)
  ·simp only [MY,sl,go_sem,reduceIte,zA,zB,zC,zD,zE,zF,reduceCtorEq]
   refine bk tt_ok [] [7] 0 [0,2,3,4,5,10,17] (fun vs => (Go.Eng.intOf (vs.headD .undef)).toNat) (fun vs => ∃ i : Nat, vs = [num i] ∧ i < s.size ∧ ∃ j : Nat, j ≤ i ∧ s[j]? = some 47) (by omega) (by simp only [MY,sl,go_sem,reduceIte,zA,zB,zC,zD,zE,zF,reduceCtorEq]) (⟨s.size - 1, by rw [Int.ofNat_sub (by omega)]; rfl, by omega, j0, by omega, XJ⟩) fun vs hI Z1 bX => ?_
   obtain ⟨i, rfl, hi, j, hj, P0⟩ := hI
   obtain ⟨c, lH⟩ := cr (s := s) (i := i) hi
   have fP := dI (P := Tryz.prog) s gv .i64 (i : Int) (by omega) (c := c) (show s[((i : Nat) : Int).toNat]? = some c from lH)
   simp only [MY,fP,sl,go_sem,reduceIte,zA,zB,zC,zD,zE,zF,reduceCtorEq]
   refine aT (fun ER => ?_) (fun ER => ?_)
   ·have bL : ¬ (c.toNat : Int) = 47 := by simpa using ER
    have qW : j ≠ i := fun e => by subst e; rw [lH] at P0; cases P0; exact bL rfl
    have hw : IntKind.i64.wrap ((i : Int) - 1) = ((i - 1 : Nat) : Int) := jo _ _ (by omega) (by omega)
    simp only [MY,fP,hw,sl,go_sem,reduceIte,zA,zB,zC,zD,zE,zF,reduceCtorEq]
    refine bX _ (b5 (by omega) (by simp only [MY,fP,hw,sl,go_sem,reduceIte,zA,zB,zC,zD,zE,zF,reduceCtorEq]) ?_ ?_) <;> simp only [dY,lk,reduceIte,zE]
    ·exact ⟨i - 1, rfl, by omega, j, by omega, P0⟩
    ·simp only [Go.Eng.intOf,List.headD_cons]; omega
   ·have Pc : bE Tryz.prog (fun a h => Instr.sliceAt 9 a none (some h) none) (.sc (.string s)) (.sc (.int .i64 (i : Int))) = some (.sc (.string (s.extract 0 (i : Int).toNat))) := sh (P := Tryz.prog) (tt := tt) (mem := []) (T := 9) s gv .i64 (i : Int) (by omega) (by omega)
    simp only [MY,fP,Pc,sl,go_sem,reduceIte,zA,zB,zC,zD,zE,zF,reduceCtorEq]
    first
     | exact hK _ ⟨⟨#[]⟩, by rw [e1, e2] <;> rfl⟩
     | exact hK _ ⟨_, by rw [e2] <;> rfl⟩
end Go.Proofs.YtefbaladomfccaaGreatDoor
end

section
namespace Go.Proofs.YtefbaladomfccaaGreatDoor
open Go.Eng
open Nat renaming reduceAdd → zA, reduceLT → zB, reduceLeDiff → zC, reduceMul → zD, reduceEqDiff → zE, reduceSub → zF
variable [aK]
set_option maxHeartbeats 4000000
set_option maxRecDepth 100000
theorem DG {L : List cj} {x : cj} {k : Nat} (ha : gB L) (hd : ∀ y ∈ L.drop k, x.lo ≤ y.lo) (ht : ∀ y ∈ L.take k, y.lo ≤ x.lo) : gB (L.take k ++ x :: L.drop k) := by
  have h := ha
  rw [← List.take_append_drop k L] at h
  obtain ⟨h1, h2, h3⟩ := List.pairwise_append.1 h
  refine List.pairwise_append.2 ⟨h1, List.pairwise_cons.2 ⟨hd, h2⟩, fun a ha b hb => ?_⟩
  rcases List.mem_cons.1 hb with rfl | hb
  · exact ht a ha
  · exact h3 a ha b hb
theorem zX {L : List cj} {k : Nat} {z : cj} {c : Int} (ha : gB L) (hk : 0 < k) (hz : L[k - 1]? = some z) (hc : z.lo ≤ c) : ∀ y ∈ L.take k, y.lo ≤ c := by
  intro y hy
  have e : L.take k = L.take (k - 1) ++ [z] := by
    have := List.take_add_one (l := L) (i := k - 1)
    rw [Nat.sub_add_cancel hk, hz] at this
    exact this
  rw [e] at hy
  have h : gB (L.take k) := List.Pairwise.sublist (List.take_sublist _ _) ha
  rw [e] at h
  obtain ⟨-, -, h3⟩ := List.pairwise_append.1 h
  rcases List.mem_append.1 hy with hy | hy
  · have := h3 y hy z (List.mem_singleton.2 rfl); omega
  · rw [List.mem_singleton.1 hy]; exact hc
theorem Ft {L : List cj} {k : Nat} {z : cj} (hk : 0 < k) (hz : L[k - 1]? = some z) : L.drop (k - 1) = z :: L.drop k := by
  have aL := (List.getElem?_eq_some_iff.1 hz).1
  rw [List.drop_eq_getElem_cons aL, (List.getElem?_eq_some_iff.1 hz).2, Nat.sub_add_cancel hk]
theorem jb (L : List cj) (k : Nat) : cd (L.map au) k 2 = true := by
  unfold cd
  rw [List.getElem?_map]
  cases L[k]? <;> rfl
theorem zY {L m : List cj} {x : cj} (k : Nat) (h : L.Perm m) : (L.take k ++ x :: L.drop k).Perm (m ++ [x]) := by
  refine List.perm_middle.trans ?_
  rw [List.take_append_drop]
  exact ((List.Perm.cons x h).trans (List.perm_append_comm (l₁ := [x]) (l₂ := m)))
theorem Fu (o : List cj) (x : cj) : (ef o x).length ≤ o.length + 1 := by
  unfold ef
  split
  · split
    · simp only [List.length_append,List.length_dropLast,List.length_singleton]; omega
    · simp only [List.length_append,List.length_singleton]; omega
  · simp only [List.length_singleton]; omega
theorem Fv (l : List cj) : (merge l).length ≤ l.length := by
  have key : ∀ (l o : List cj), (l.foldl ef o).length ≤ o.length + l.length := by
    intro l
    induction l with
    | nil => intro o; exact Nat.le_refl _
    | cons x l ih =>
      intro o
      rw [List.foldl_cons, List.length_cons]
      have := ih (ef o x); have := Fu o x; omega
  have := key l []
  simpa [merge] using this
theorem IS {R : List cj} {y : cj} (h : R.getLast? = some y) (z : cj) : R.set (R.length - 1) z = R.dropLast ++ [z] := by
  obtain ⟨D, rfl⟩ := List.getLast?_eq_some_iff.1 h
  rw [List.length_append, List.length_singleton, Nat.add_sub_cancel, List.set_append_right _ _ (Nat.le_refl _), Nat.sub_self, List.set_cons_zero, List.dropLast_concat]
theorem Cl {mem : List aC} {b v e l : Nat} {rs ZE : List V} (h : mem[b]? = some (.rows v e rs)) (hl : l = rs.length) (hr : rs = ZE) : dR mem (.ms b v 0 l) = some (.slice ZE) := by
  subst hl; subst hr
  simp [dR, br, h]
theorem Fw (s : List cj) (hl : s.length ≤ 1048576) : ∃ r_, (fun w => w = bY (canon s)) r_ ∧ aR Tryz.prog 108 [bY s] r_ := by
  refine eu tt_ok [4] 113 [.tmp 2] (fn := Tryz.f108) Tryz.func108 rfl Tryz.call108 ⟨rfl, rfl, by simp⟩ fun K hK => ?_
  simp only [bY]
  simp only [List.length_map,go_sem,reduceIte,zA,zB,zC,zD,zE,zF,reduceCtorEq]
  refine o0 (v' := .slice []) 3 (by decide) rfl rfl ?_
  refine dk tt_ok [4] (fun a : Nat × List cj => [(0, .slice (s.map au)), (3, .slice (a.2.map au)), (4, num a.1)]) (fun a : Nat × List cj => []) (fun a => s.length - a.1) (fun a => a.1 ≤ s.length ∧ a.2.Perm (clip (s.take a.1)) ∧ gB a.2) ((0, [])) 0 (bz (by omega) (by simp only [List.length_map,List.map_nil,Int.cast_ofNat_Int,go_sem,reduceIte,zA,zB,zC,zD,zE,zF,reduceCtorEq] <;> rfl)) (⟨Nat.zero_le _, List.Perm.refl _, List.Pairwise.nil⟩) ?_
  rintro ⟨i, L⟩ ⟨hi, hp, hA⟩
  try dsimp only at hi hp hA
  try dsimp only
  intro Z1 bX
  simp only [List.length_map,go_sem,reduceIte,zA,zB,zC,zD,zE,zF,reduceCtorEq]
  refine aT (fun il => ?_) (fun il => ?_)
  · skip
    have aL : i < s.length := by simpa using il
    have hw := aq i (by omega)
    obtain ⟨x, hx⟩ : ∃ x, s[i]? = some x := ⟨_, List.getElem?_eq_getElem aL⟩
    have rE : (if (0 : Int) < x.lo then x.lo else 0) = max x.lo 0 := by split <;> omega
    have qX : (if x.hi < (1000000 : Int) then x.hi else 1000000) = min x.hi 1000000 := by split <;> omega
    have Ta : L.length ≤ 1048576 := by rw [hp.length_eq]; have := jT (s.take i); rw [List.length_take] at this; omega
    simp only [hw,List.getElem?_map,hx,au,rE,qX,List.length_map,go_sem,reduceIte,zA,zB,zC,zD,zE,zF,reduceCtorEq]
    refine bR tt_ok aN [⟨.n, 0, [], [], []⟩, ⟨.n, 0, [], [], []⟩, ⟨.r, 0, [0], [], []⟩, ⟨.n, 0, [], [], []⟩, ⟨.r, 0, [0], [], []⟩, ⟨.n, 0, [], [], []⟩, ⟨.n, 0, [], [], []⟩, ⟨.n, 0, [], [], []⟩, ⟨.r, 0, [0], [], []⟩, ⟨.n, 0, [], [], []⟩, ⟨.r, 0, [0], [], []⟩, ⟨.n, 0, [], [], []⟩, ⟨.n, 0, [], [], []⟩, ⟨.a, 0, [], [], []⟩, ⟨.s, 0, [], [], []⟩] 1 (by kernel_rfl) ?_
    simp only [hw,List.getElem?_map,hx,au,rE,qX,List.length_map,go_sem,reduceIte,zA,zB,zC,zD,zE,zF,reduceCtorEq]
    refine aT (fun nX => ?_) (fun nX => ?_)
    · skip
      let nv : Nat × List cj := (i + 1, L)
      have AP : L.Perm (clip (s.take (i + 1))) := by rw [mV hx, Dw (by have := of_decide_eq_true nX; omega)]; simpa using hp
      have CM : gB nv.2 := hA
      simp only [hw,List.getElem?_map,hx,au,rE,qX,List.length_map,go_sem,reduceIte,zA,zB,zC,zD,zE,zF,reduceCtorEq]
      refine o0 (v' := .slice (nv.2.map au)) 3 (by decide) rfl (by first | rfl | exact Cl rfl (by simp [kC]) (by simp [nv, au])) ?_
      refine EG tt_ok ?_
      simp only [hw,List.getElem?_map,hx,au,rE,qX,List.length_map,go_sem,reduceIte,zA,zB,zC,zD,zE,zF,reduceCtorEq]
      refine bX _ ⟨nv, ?_, ?_, bz (by omega) (by (simp [nv, pD, lk, cA, dK, ah, aB]))⟩
      · exact ⟨aL, AP, CM⟩
      · dsimp only [nv]; omega
    · skip
      have gj : clip (s.take (i + 1)) = clip (s.take i) ++ [⟨max x.lo 0, min x.hi 1000000⟩] := by rw [mV hx, Dv (by have := of_decide_eq_false nX; omega)]; rfl
      simp only [hw,List.getElem?_map,hx,au,rE,qX,List.length_map,go_sem,reduceIte,zA,zB,zC,zD,zE,zF,reduceCtorEq]
      refine bk tt_ok [4] [6] 1 [0,2,3,4,5,11,12,13,14,17,18,19,20,21,22,23,24,25,26,27,28,29,30,31,32,33,34,35,36] (fun vs => (Go.Eng.intOf (vs.headD .undef)).toNat) (fun vs => ∃ k : Nat, vs = [num k] ∧ k ≤ L.length ∧ ∀ y ∈ L.drop k, max x.lo 0 ≤ y.lo) (by omega) (by simp only [hw,List.getElem?_map,hx,au,rE,qX,List.length_map,go_sem,reduceIte,zA,zB,zC,zD,zE,zF,reduceCtorEq]) (⟨L.length, rfl, Nat.le_refl _, fun y hy => by rw [List.drop_length] at hy; cases hy⟩) fun vs hI Z2 jD => ?_
      obtain ⟨k, rfl, hk, hd⟩ := hI
      simp only [hw,List.getElem?_map,hx,au,rE,qX,List.length_map,go_sem,reduceIte,zA,zB,zC,zD,zE,zF,reduceCtorEq]
      refine bR tt_ok aN [⟨.n, 0, [], [], []⟩, ⟨.n, 0, [], [], []⟩, ⟨.n, 0, [], [], []⟩, ⟨.n, 0, [], [], []⟩, ⟨.n, 0, [], [], []⟩, ⟨.n, 0, [], [], []⟩, ⟨.r, 0, [], [], []⟩, ⟨.n, 0, [], [], []⟩, ⟨.r, 0, [], [], []⟩, ⟨.n, 0, [], [], []⟩, ⟨.r, 0, [], [], []⟩, ⟨.n, 0, [], [], []⟩, ⟨.n, 0, [], [], []⟩] 0 (by kernel_rfl) ?_
      simp only [hw,List.getElem?_map,hx,au,rE,qX,List.length_map,go_sem,reduceIte,zA,zB,zC,zD,zE,zF,reduceCtorEq]
      refine aT (fun DH => ?_) (fun DH => ?_)
      · skip
        have XK : 0 < k := by have := of_decide_eq_true DH; omega
        obtain ⟨z, hz⟩ : ∃ z, L[k - 1]? = some z := ⟨_, List.getElem?_eq_getElem (by omega)⟩
        have fK : IntKind.i64.wrap ((k : Int) - 1) = ((k - 1 : Nat) : Int) := jo _ _ (by omega) (by omega)
        simp only [hw,List.getElem?_map,hx,au,rE,qX,fK,hz,List.length_map,go_sem,reduceIte,zA,zB,zC,zD,zE,zF,reduceCtorEq]
        refine aT (fun Lx => ?_) (fun Lx => ?_)
        · skip
          simp only [hw,List.getElem?_map,hx,au,rE,qX,fK,hz,List.length_map,go_sem,reduceIte,zA,zB,zC,zD,zE,zF,reduceCtorEq]
          refine jD _ (b5 (by omega) (by simp only [hw,List.getElem?_map,hx,au,rE,qX,fK,hz,List.length_map,go_sem,reduceIte,zA,zB,zC,zD,zE,zF,reduceCtorEq]) ?_ ?_) <;> simp only [dY,lk,reduceIte,zE]
          · refine ⟨k - 1, rfl, by omega, fun y hy => ?_⟩
            rw [Ft XK hz] at hy
            rcases List.mem_cons.1 hy with rfl | hy
            · have := of_decide_eq_true Lx; omega
            · exact hd y hy
          · simp only [Go.Eng.intOf,List.headD_cons]; omega
        · skip
          have ht : ∀ y ∈ L.take k, y.lo ≤ max x.lo 0 := by
            by_cases Kb : k = 0
            · subst Kb; simp
            · first
              | exact zX hA XK hz (by have := of_decide_eq_false Lx; omega)
              | (exfalso; have := of_decide_eq_false DH; omega)
          have Ly : (k : Int) ≤ (L.length : Int) := by omega
          have Re := jb L k
          have TP : (List.drop k (List.map au L)).take ((L.length : Int) - (k : Int)).toNat = (L.drop k).map au := by rw [← List.map_drop, List.take_of_length_le]; rw [List.length_map, List.length_drop]; omega
          have hcut : ∀ mem : List aC, cutAt mem 2 (k : Int) none (.slice (L.map au)) = some (.slice ((L.drop k).map au)) := fun mem => by
            unfold cutAt
            simp only [Option.getD_none,List.length_map,Int.natCast_nonneg,Ly,Int.le_refl,Int.toNat_natCast,Re,and_self,if_true,TP]
          have Cm := jb (L.drop k) 0
          have qd : List.take k (List.map au L) = (L.take k).map au := (List.map_take ..).symm
          have Cn := jb (L.take k) 0
          have oA : 1 + (L.length - k) ≤ 34359738368 := by omega
          have F4 : List.take (L.length - k) (List.map au (L.drop k)) = (L.drop k).map au := List.take_of_length_le (by rw [List.length_map, List.length_drop]; exact Nat.le_refl _)
          let nv : Nat × List cj := (i + 1, L.take k ++ ⟨max x.lo 0, min x.hi 1000000⟩ :: L.drop k)
          have AP : nv.2.Perm (clip (s.take (i + 1))) := by rw [gj]; exact zY k hp
          have CM : gB nv.2 := DG hA hd ht
          have kC : min k L.length = k := Nat.min_eq_left hk
          have wq : k + (L.length - k + 1) ≤ 34359738368 := by omega
          simp only [hw,List.getElem?_map,hx,au,rE,qX,fK,hz,Ly,hcut,F4,Nat.min_self,Cm,qd,Cn,oA,kC,wq,List.length_drop,List.length_take,List.length_append,List.length_cons,List.length_nil,Nat.zero_add,Int.le_refl,Int.natCast_nonneg,Int.toNat_natCast,List.length_map,go_sem,reduceIte,zA,zB,zC,zD,zE,zF,reduceCtorEq]
          refine bR tt_ok aN [⟨.n, 0, [], [], []⟩, ⟨.n, 0, [], [], []⟩, ⟨.n, 0, [], [], []⟩, ⟨.n, 0, [], [0,1,2], []⟩, ⟨.r, 0, [], [], []⟩, ⟨.a, 0, [], [4], []⟩, ⟨.n, 0, [], [], []⟩, ⟨.n, 0, [], [], []⟩, ⟨.r, 0, [0], [6,7], []⟩, ⟨.w, 1, [], [4,5,6,7,8], []⟩, ⟨.w, 2, [], [0,1,2,3,4,5,6,7,8,9], []⟩, ⟨.n, 0, [], [0,1,2,3,4,5,6,7,8,9,10], []⟩] 3 (by kernel_rfl) ?_
          simp only [hw,List.getElem?_map,hx,au,rE,qX,fK,hz,Ly,hcut,F4,Nat.min_self,Cm,qd,Cn,oA,kC,wq,List.length_drop,List.length_take,List.length_append,List.length_cons,List.length_nil,Nat.zero_add,Int.le_refl,Int.natCast_nonneg,Int.toNat_natCast,List.length_map,go_sem,reduceIte,zA,zB,zC,zD,zE,zF,reduceCtorEq]
          refine o0 (v' := .slice (nv.2.map au)) 3 (by decide) rfl (by first | rfl | exact Cl rfl (by simp [kC]) (by simp [nv, au])) ?_
          refine EG tt_ok ?_
          simp only [hw,List.getElem?_map,hx,au,rE,qX,fK,hz,Ly,hcut,F4,Nat.min_self,Cm,qd,Cn,oA,kC,wq,List.length_drop,List.length_take,List.length_append,List.length_cons,List.length_nil,Nat.zero_add,Int.le_refl,Int.natCast_nonneg,Int.toNat_natCast,List.length_map,go_sem,reduceIte,zA,zB,zC,zD,zE,zF,reduceCtorEq]
          refine bX _ ⟨nv, ?_, ?_, bz (by omega) (by (simp [nv, pD, lk, cA, dK, ah, aB]))⟩
          · exact ⟨aL, AP, CM⟩
          · dsimp only [nv]; omega
      · skip
        have ht : ∀ y ∈ L.take k, y.lo ≤ max x.lo 0 := by
          by_cases Kb : k = 0
          · subst Kb; simp
          · first
            | exact zX hA XK hz (by have := of_decide_eq_false Lx; omega)
            | (exfalso; have := of_decide_eq_false DH; omega)
        have Ly : (k : Int) ≤ (L.length : Int) := by omega
        have Re := jb L k
        have TP : (List.drop k (List.map au L)).take ((L.length : Int) - (k : Int)).toNat = (L.drop k).map au := by rw [← List.map_drop, List.take_of_length_le]; rw [List.length_map, List.length_drop]; omega
        have hcut : ∀ mem : List aC, cutAt mem 2 (k : Int) none (.slice (L.map au)) = some (.slice ((L.drop k).map au)) := fun mem => by
          unfold cutAt
          simp only [Option.getD_none,List.length_map,Int.natCast_nonneg,Ly,Int.le_refl,Int.toNat_natCast,Re,and_self,if_true,TP]
        have Cm := jb (L.drop k) 0
        have qd : List.take k (List.map au L) = (L.take k).map au := (List.map_take ..).symm
        have Cn := jb (L.take k) 0
        have oA : 1 + (L.length - k) ≤ 34359738368 := by omega
        have F4 : List.take (L.length - k) (List.map au (L.drop k)) = (L.drop k).map au := List.take_of_length_le (by rw [List.length_map, List.length_drop]; exact Nat.le_refl _)
        let nv : Nat × List cj := (i + 1, L.take k ++ ⟨max x.lo 0, min x.hi 1000000⟩ :: L.drop k)
        have AP : nv.2.Perm (clip (s.take (i + 1))) := by rw [gj]; exact zY k hp
        have CM : gB nv.2 := DG hA hd ht
        have kC : min k L.length = k := Nat.min_eq_left hk
        have wq : k + (L.length - k + 1) ≤ 34359738368 := by omega
        simp only [hw,List.getElem?_map,hx,au,rE,qX,Ly,hcut,F4,Nat.min_self,Cm,qd,Cn,oA,kC,wq,List.length_drop,List.length_take,List.length_append,List.length_cons,List.length_nil,Nat.zero_add,Int.le_refl,Int.natCast_nonneg,Int.toNat_natCast,List.length_map,go_sem,reduceIte,zA,zB,zC,zD,zE,zF,reduceCtorEq]
        refine bR tt_ok aN [⟨.n, 0, [], [], []⟩, ⟨.n, 0, [], [], []⟩, ⟨.n, 0, [], [], []⟩, ⟨.n, 0, [], [0,1,2], []⟩, ⟨.r, 0, [], [], []⟩, ⟨.a, 0, [], [4], []⟩, ⟨.n, 0, [], [], []⟩, ⟨.n, 0, [], [], []⟩, ⟨.r, 0, [0], [6,7], []⟩, ⟨.w, 1, [], [4,5,6,7,8], []⟩, ⟨.w, 2, [], [0,1,2,3,4,5,6,7,8,9], []⟩, ⟨.n, 0, [], [0,1,2,3,4,5,6,7,8,9,10], []⟩] 3 (by kernel_rfl) ?_
        simp only [hw,List.getElem?_map,hx,au,rE,qX,Ly,hcut,F4,Nat.min_self,Cm,qd,Cn,oA,kC,wq,List.length_drop,List.length_take,List.length_append,List.length_cons,List.length_nil,Nat.zero_add,Int.le_refl,Int.natCast_nonneg,Int.toNat_natCast,List.length_map,go_sem,reduceIte,zA,zB,zC,zD,zE,zF,reduceCtorEq]
        refine o0 (v' := .slice (nv.2.map au)) 3 (by decide) rfl (by first | rfl | exact Cl rfl (by simp [kC]) (by simp [nv, au])) ?_
        refine EG tt_ok ?_
        simp only [hw,List.getElem?_map,hx,au,rE,qX,Ly,hcut,F4,Nat.min_self,Cm,qd,Cn,oA,kC,wq,List.length_drop,List.length_take,List.length_append,List.length_cons,List.length_nil,Nat.zero_add,Int.le_refl,Int.natCast_nonneg,Int.toNat_natCast,List.length_map,go_sem,reduceIte,zA,zB,zC,zD,zE,zF,reduceCtorEq]
        refine bX _ ⟨nv, ?_, ?_, bz (by omega) (by (simp [nv, pD, lk, cA, dK, ah, aB]))⟩
        · exact ⟨aL, AP, CM⟩
        · dsimp only [nv]; omega
  · skip
    have cP : ¬ i < s.length := by simpa using il
    have Vj : L.Perm (clip s) := by rw [show i = s.length by omega, List.take_length] at hp; exact hp
    have Ta : L.length ≤ 1048576 := by rw [Vj.length_eq]; have := jT s; omega
    simp only [List.length_map,go_sem,reduceIte,zA,zB,zC,zD,zE,zF,reduceCtorEq]
    refine dk tt_ok [4] (fun a : Nat × List cj => [(3, .slice (L.map au)), (7, .ms 0 a.2.length 0 a.2.length), (8, num a.1)]) (fun a : Nat × List cj => [.rows (a.2.length) 2 (a.2.map au)]) (fun a => L.length - a.1) (fun a => a.1 ≤ L.length ∧ a.2 = merge (L.take a.1)) ((0, [])) 1 (bz (by omega) (by simp only [List.length_map,List.map_nil,List.length_nil,Int.cast_ofNat_Int,go_sem,reduceIte,zA,zB,zC,zD,zE,zF,reduceCtorEq] <;> rfl)) (⟨Nat.zero_le _, rfl⟩) ?_
    rintro ⟨i, R⟩ ⟨hi, hR⟩
    try dsimp only at hi hR
    try dsimp only
    intro Z3 Ca
    simp only [List.length_map,go_sem,reduceIte,zA,zB,zC,zD,zE,zF,reduceCtorEq]
    refine aT (fun tJ => ?_) (fun tJ => ?_)
    · skip
      have aL : i < L.length := by simpa using tJ
      have hw := aq i (by omega)
      obtain ⟨x, hx⟩ : ∃ x, L[i]? = some x := ⟨_, List.getElem?_eq_getElem aL⟩
      have Xc : R.length ≤ i := by rw [hR]; have := Fv (L.take i); rw [List.length_take] at this; omega
      have nu : R.length + 1 ≤ 34359738368 := by omega
      simp only [hw,List.getElem?_map,hx,au,nu,List.length_append,List.length_cons,List.length_nil,Nat.zero_add,List.length_map,go_sem,reduceIte,zA,zB,zC,zD,zE,zF,reduceCtorEq]
      refine bR tt_ok aN [⟨.n, 0, [], [], []⟩, ⟨.n, 0, [], [], []⟩, ⟨.n, 0, [], [], []⟩, ⟨.n, 0, [], [], []⟩, ⟨.n, 0, [], [], []⟩, ⟨.r, 0, [], [], []⟩, ⟨.n, 0, [], [], []⟩, ⟨.r, 0, [], [], []⟩, ⟨.n, 0, [], [], []⟩, ⟨.n, 0, [], [], []⟩, ⟨.n, 0, [], [], []⟩, ⟨.r, 0, [], [], []⟩, ⟨.n, 0, [], [], []⟩, ⟨.r, 0, [], [], []⟩, ⟨.n, 0, [], [], []⟩, ⟨.n, 0, [], [], []⟩] 0 (by kernel_rfl) ?_
      simp only [hw,List.getElem?_map,hx,au,nu,List.length_append,List.length_cons,List.length_nil,Nat.zero_add,List.length_map,go_sem,reduceIte,zA,zB,zC,zD,zE,zF,reduceCtorEq]
      refine aT (fun xu => ?_) (fun xu => ?_)
      · skip
        have gC : 0 < R.length := by have := of_decide_eq_true xu; omega
        obtain ⟨y, hy⟩ : ∃ y, R[R.length - 1]? = some y := ⟨_, List.getElem?_eq_getElem (by omega)⟩
        have qS : R.getLast? = some y := by rw [List.getLast?_eq_getElem?]; exact hy
        have rF : IntKind.i64.wrap ((R.length : Int) - 1) = ((R.length - 1 : Nat) : Int) := jo _ _ (by omega) (by omega)
        have F8 : ((R.length - 1 : Nat) : Int) < (R.length : Int) := by omega
        simp only [hw,List.getElem?_map,hx,au,nu,List.length_append,List.length_cons,List.length_nil,Nat.zero_add,rF,hy,F8,List.length_map,go_sem,reduceIte,zA,zB,zC,zD,zE,zF,reduceCtorEq]
        refine aT (fun Lz => ?_) (fun Lz => ?_)
        · skip
          have hle : x.lo ≤ y.hi := by simpa using Lz
          have Ud : (if y.hi < x.hi then x.hi else y.hi) = max y.hi x.hi := by split <;> omega
          let nv : Nat × List cj := (i + 1, R.set (R.length - 1) ⟨y.lo, max y.hi x.hi⟩)
          have zZ : R.set (R.length - 1) ⟨y.lo, max y.hi x.hi⟩ = merge (L.take (i + 1)) := by
            rw [js hx, ← hR]; unfold ef; rw [qS]; dsimp only; rw [if_pos hle]; exact IS qS _
          simp only [hw,List.getElem?_map,hx,au,nu,List.length_append,List.length_cons,List.length_nil,Nat.zero_add,rF,hy,F8,Ud,List.length_map,go_sem,reduceIte,zA,zB,zC,zD,zE,zF,reduceCtorEq]
          refine bR tt_ok aN [⟨.n, 0, [], [], []⟩, ⟨.n, 0, [], [], []⟩, ⟨.n, 0, [], [1], []⟩, ⟨.n, 0, [], [], []⟩, ⟨.n, 0, [], [], []⟩, ⟨.n, 0, [], [4], []⟩, ⟨.r, 0, [], [3,4,5], []⟩, ⟨.n, 0, [], [3,4,5,6], []⟩, ⟨.r, 0, [], [3,4,5,6,7], []⟩, ⟨.n, 0, [], [], []⟩, ⟨.n, 0, [], [], []⟩, ⟨.r, 0, [], [9,10], []⟩, ⟨.n, 0, [], [9,10,11], []⟩, ⟨.r, 0, [], [9,10,11,12], []⟩, ⟨.n, 0, [], [3,4,5,6,7,8,9,10,11,12,13], []⟩, ⟨.r, 0, [], [0,1,2,3,4,5,6,7,8,9,10,11,12,13,14], []⟩, ⟨.n, 0, [], [0,1,2,3,4,5,6,7,8,9,10,11,12,13,14,15], []⟩, ⟨.w, 0, [], [0,1,2,3,4,5,6,7,8,9,10,11,12,13,14,15,16], []⟩] 1 (by kernel_rfl) ?_
          simp only [hw,List.getElem?_map,hx,au,nu,List.length_append,List.length_cons,List.length_nil,Nat.zero_add,rF,hy,F8,Ud,List.length_map,go_sem,reduceIte,zA,zB,zC,zD,zE,zF,reduceCtorEq]
          refine Ca _ ⟨nv, ?_, ?_, bz (by omega) (by (simp [nv, pD, lk, cA, dK, ah, aB, List.map_set, List.map_append, au, setRow, cg, V.cells]))⟩
          · exact ⟨aL, zZ⟩
          · dsimp only [nv]; omega
        · skip
          have D4 : ef R x = R ++ [x] := mW fun z JL => by
            first
              | (rw [qS] at JL; cases JL; have := of_decide_eq_false Lz; omega)
              | (have h0 : R = [] := List.length_eq_zero_iff.1 (by have := of_decide_eq_false xu; omega)
                 rw [h0] at JL; cases JL)
          let nv : Nat × List cj := (i + 1, R ++ [x])
          have zZ : nv.2 = merge (L.take (i + 1)) := by rw [js hx, ← hR, D4]
          simp only [hw,List.getElem?_map,hx,au,nu,List.length_append,List.length_cons,List.length_nil,Nat.zero_add,rF,hy,F8,List.length_map,go_sem,reduceIte,zA,zB,zC,zD,zE,zF,reduceCtorEq]
          refine Ca _ ⟨nv, ?_, ?_, bz (by omega) (by (simp [nv, pD, lk, cA, dK, ah, aB, List.map_set, List.map_append, au, setRow, cg, V.cells]))⟩
          · exact ⟨aL, zZ⟩
          · dsimp only [nv]; omega
      · skip
        have D4 : ef R x = R ++ [x] := mW fun z JL => by
          first
            | (rw [qS] at JL; cases JL; have := of_decide_eq_false Lz; omega)
            | (have h0 : R = [] := List.length_eq_zero_iff.1 (by have := of_decide_eq_false xu; omega)
               rw [h0] at JL; cases JL)
        let nv : Nat × List cj := (i + 1, R ++ [x])
        have zZ : nv.2 = merge (L.take (i + 1)) := by rw [js hx, ← hR, D4]
        simp only [hw,List.getElem?_map,hx,au,nu,List.length_append,List.length_cons,List.length_nil,Nat.zero_add,List.length_map,go_sem,reduceIte,zA,zB,zC,zD,zE,zF,reduceCtorEq]
        refine Ca _ ⟨nv, ?_, ?_, bz (by omega) (by (simp [nv, pD, lk, cA, dK, ah, aB, List.map_set, List.map_append, au, setRow, cg, V.cells]))⟩
        · exact ⟨aL, zZ⟩
        · dsimp only [nv]; omega
    · skip
      have PT : ¬ i < L.length := by simpa using tJ
      have qc : R = canon s := by rw [hR, show i = L.length by omega, List.take_length]; exact yY Vj hA
      simp only [List.length_map,go_sem,reduceIte,zA,zB,zC,zD,zE,zF,reduceCtorEq]
      refine hK _ ?_
      simp [wB, wA, Ei, Nu, dR, br, bY, ← qc, List.take_of_length_le]
end Go.Proofs.YtefbaladomfccaaGreatDoor
end

section
namespace Go.Proofs.YtefbaladomfccaaGreatDoor
open Go.Eng
open Nat renaming reduceAdd → zA, reduceLT → zB, reduceLeDiff → zC, reduceMul → zD, reduceEqDiff → zE, reduceSub → zF
variable [aK]
set_option maxHeartbeats 4000000
set_option maxRecDepth 100000
theorem tK (n : Int) : ∃ r_, (fun w => w = bl (iJ n)) r_ ∧ aR Tryz.prog 182 [num n] r_ := by
 refine eu tt_ok [] 9 [.tmp 2] (fn := Tryz.f182) Tryz.func182 rfl Tryz.call182 ⟨rfl, rfl, by simp⟩ fun K hK => ?_
 simp only [go_sem,reduceIte,zA,zB,zC,zD,zE,zF,reduceCtorEq]
 refine aT (fun eI => ?_) (fun eI => ?_)
 ·simp only [go_sem,reduceIte,zA,zB,zC,zD,zE,zF,reduceCtorEq]
  exact hK _ (congrArg bl (by unfold iJ; simp_all <;> (intros; omega)))
 ·simp only [go_sem,reduceIte,zA,zB,zC,zD,zE,zF,reduceCtorEq]
  exact hK _ (congrArg bl (by unfold iJ; simp_all <;> (intros; omega)))
theorem Fx (v : mT) : ∃ r_, (fun w => w = bl (v.ok)) r_ ∧ aR Tryz.prog 133 [b7 v] r_ := by
 refine eu tt_ok [] 16 [.tmp 2] (fn := Tryz.f133) Tryz.func133 rfl Tryz.call133 ⟨rfl, rfl, by simp⟩ fun K hK => ?_
 simp only [b7]
 simp only [go_sem,reduceIte,zA,zB,zC,zD,zE,zF,reduceCtorEq]
 refine cF (tK _) ?_
 rintro _ rfl
 simp only [go_sem,reduceIte,zA,zB,zC,zD,zE,zF,reduceCtorEq]
 refine aT (fun nz => ?_) (fun nz => ?_)
 ·simp only [go_sem,reduceIte,zA,zB,zC,zD,zE,zF,reduceCtorEq]
  refine cF (tK _) ?_
  rintro _ rfl
  simp only [go_sem,reduceIte,zA,zB,zC,zD,zE,zF,reduceCtorEq]
  refine aT (fun vr => ?_) (fun vr => ?_)
  ·simp only [go_sem,reduceIte,zA,zB,zC,zD,zE,zF,reduceCtorEq]
   refine cF (tK _) ?_
   rintro _ rfl
   simp only [go_sem,reduceIte,zA,zB,zC,zD,zE,zF,reduceCtorEq]
   exact hK _ (congrArg bl (by unfold mT.ok; simp_all))
  ·simp only [go_sem,reduceIte,zA,zB,zC,zD,zE,zF,reduceCtorEq]
   exact hK _ (congrArg bl (by unfold mT.ok; simp_all))
 ·simp only [go_sem,reduceIte,zA,zB,zC,zD,zE,zF,reduceCtorEq]
  exact hK _ (congrArg bl (by unfold mT.ok; simp_all))
theorem LA (s : List cj) (p : Int) (hl : s.length ≤ 1048576) : ∃ r_, (fun w => w = bl (has s p)) r_ ∧ aR Tryz.prog 91 [bY s, num p] r_ := by
 refine eu tt_ok [] 30 [.tmp 4] (fn := Tryz.f91) Tryz.func91 rfl Tryz.call91 ⟨rfl, rfl, by simp⟩ fun K hK => ?_
 simp only [bY]
 simp only [List.length_map,go_sem,reduceIte,zA,zB,zC,zD,zE,zF,reduceCtorEq]
 refine bk tt_ok [] [5] 0 [0,1] (fun vs => ((s.length : Int) - Go.Eng.intOf (vs.headD .undef)).toNat) (fun vs => ∃ i : Nat, vs = [num i] ∧ i ≤ s.length ∧ ∀ j < i, ∀ x, s[j]? = some x → (decide (max 0 x.lo ≤ p) && decide (p < min 1000000 x.hi)) = false) (by omega) (by simp only [List.length_map,go_sem,reduceIte,zA,zB,zC,zD,zE,zF,reduceCtorEq]) (⟨0, rfl, Nat.zero_le _, fun j hj => absurd hj (Nat.not_lt_zero j)⟩) fun vs hI Z1 bX => ?_
 obtain ⟨i, rfl, hi, bp⟩ := hI
 simp only [List.length_map,go_sem,reduceIte,zA,zB,zC,zD,zE,zF,reduceCtorEq]
 refine aT (fun jC => ?_) (fun jC => ?_)
 ·have aL : i < s.length := by simpa using jC
  have hw := aq i (by omega)
  obtain ⟨x, hx⟩ : ∃ x, s[i]? = some x := ⟨_, List.getElem?_eq_getElem aL⟩
  simp only [hw,List.getElem?_map,hx,au,List.length_map,go_sem,reduceIte,zA,zB,zC,zD,zE,zF,reduceCtorEq]
  refine aT (fun z6 => ?_) (fun z6 => ?_)
  ·simp only [hw,List.getElem?_map,hx,au,List.length_map,go_sem,reduceIte,zA,zB,zC,zD,zE,zF,reduceCtorEq]
   refine aT (fun Io => ?_) (fun Io => ?_)
   ·have ax : true = has s p := by rw [← Dm]; exact (nR hx (by simp_all <;> omega)).symm
    simp only [hw,List.getElem?_map,hx,au,List.length_map,go_sem,reduceIte,zA,zB,zC,zD,zE,zF,reduceCtorEq]
    exact hK _ (congrArg bl ax)
   ·simp only [hw,List.getElem?_map,hx,au,List.length_map,go_sem,reduceIte,zA,zB,zC,zD,zE,zF,reduceCtorEq]
    refine bX _ (b5 (by omega) (by simp only [hw,List.getElem?_map,hx,au,List.length_map,go_sem,reduceIte,zA,zB,zC,zD,zE,zF,reduceCtorEq]) ?_ ?_) <;> simp only [dY,lk,reduceIte,zE]
    ·refine ⟨i + 1, rfl, aL, fun j hj => ?_⟩
     rcases Nat.lt_or_ge j i with h | h
     ·exact bp j h
     ·obtain rfl : j = i := by omega
      intro y hy
      rw [hx] at hy; cases hy; simp_all <;> omega
    ·simp only [Go.Eng.intOf,List.headD_cons]; omega
  ·simp only [hw,List.getElem?_map,hx,au,List.length_map,go_sem,reduceIte,zA,zB,zC,zD,zE,zF,reduceCtorEq]
   refine bX _ (b5 (by omega) (by simp only [hw,List.getElem?_map,hx,au,List.length_map,go_sem,reduceIte,zA,zB,zC,zD,zE,zF,reduceCtorEq]) ?_ ?_) <;> simp only [dY,lk,reduceIte,zE]
   ·refine ⟨i + 1, rfl, aL, fun j hj => ?_⟩
    rcases Nat.lt_or_ge j i with h | h
    ·exact bp j h
    ·obtain rfl : j = i := by omega
     intro y hy
     rw [hx] at hy; cases hy; simp_all <;> omega
   ·simp only [Go.Eng.intOf,List.headD_cons]; omega
 ·have cP : ¬ i < s.length := by simpa using jC
  have ax : false = has s p := by rw [← Dm]; exact (any_none fun j hj => bp j (by omega)).symm
  simp only [List.length_map,go_sem,reduceIte,zA,zB,zC,zD,zE,zF,reduceCtorEq]
  exact hK _ (congrArg bl ax)
theorem LC (s t : List cj) (hl : s.length ≤ 1048576) : ∃ r_, (fun w => w = bl (decide (s = t))) r_ ∧ aR Tryz.prog 107 [bY s, bY t] r_ := by
 refine eu tt_ok [] 26 [.tmp 4] (fn := Tryz.f107) Tryz.func107 rfl Tryz.call107 ⟨rfl, rfl, by simp⟩ fun K hK => ?_
 simp only [bY]
 simp only [List.length_map,bU,go_sem,reduceIte,zA,zB,zC,zD,zE,zF,reduceCtorEq]
 refine aT (fun fI => ?_) (fun fI => ?_)
 ·have ax : false = decide (s = t) := by
   refine (decide_eq_false fun e => ?_).symm
   subst e; simp at fI
  simp only [List.length_map,bU,go_sem,reduceIte,zA,zB,zC,zD,zE,zF,reduceCtorEq]
  exact hK _ (congrArg bl ax)
 ·have ob : s.length = t.length := by have := fI; simp at this; omega
  simp only [List.length_map,bU,go_sem,reduceIte,zA,zB,zC,zD,zE,zF,reduceCtorEq]
  refine bk tt_ok [] [5] 0 [0,1,10] (fun vs => ((s.length : Int) - Go.Eng.intOf (vs.headD .undef)).toNat) (fun vs => ∃ i : Nat, vs = [num i] ∧ i ≤ s.length ∧ ∀ j < i, s[j]? = t[j]?) (by omega) (by simp only [List.length_map,bU,go_sem,reduceIte,zA,zB,zC,zD,zE,zF,reduceCtorEq]) (⟨0, rfl, Nat.zero_le _, fun j hj => absurd hj (Nat.not_lt_zero j)⟩) fun vs hI Z1 bX => ?_
  obtain ⟨i, rfl, hi, bp⟩ := hI
  simp only [List.length_map,bU,go_sem,reduceIte,zA,zB,zC,zD,zE,zF,reduceCtorEq]
  refine aT (fun il => ?_) (fun il => ?_)
  ·have aL : i < s.length := by simpa using il
   have hw := aq i (by omega)
   obtain ⟨x, hx⟩ : ∃ x, s[i]? = some x := ⟨_, List.getElem?_eq_getElem aL⟩
   obtain ⟨y, hy⟩ : ∃ y, t[i]? = some y := ⟨_, List.getElem?_eq_getElem (by omega)⟩
   simp only [hw,List.getElem?_map,hx,hy,au,List.length_map,bU,go_sem,reduceIte,zA,zB,zC,zD,zE,zF,reduceCtorEq]
   refine bR tt_ok aN [⟨.n, 0, [], [], []⟩, ⟨.n, 0, [], [], []⟩, ⟨.r, 0, [], [], []⟩, ⟨.r, 0, [], [], []⟩, ⟨.n, 0, [], [], []⟩, ⟨.n, 0, [], [], []⟩, ⟨.r, 0, [], [], []⟩, ⟨.r, 0, [], [], []⟩, ⟨.n, 0, [], [], []⟩] 0 (by kernel_rfl) ?_
   simp only [hw,List.getElem?_map,hx,hy,au,List.length_map,bU,go_sem,reduceIte,zA,zB,zC,zD,zE,zF,reduceCtorEq]
   refine aT (fun nV => ?_) (fun nV => ?_)
   ·have ax : false = decide (s = t) := by
     refine (decide_eq_false fun e => ?_).symm
     subst e; rw [hx] at hy; cases hy; simp at nV
    simp only [hw,List.getElem?_map,hx,hy,au,List.length_map,bU,go_sem,reduceIte,zA,zB,zC,zD,zE,zF,reduceCtorEq]
    exact hK _ (congrArg bl ax)
   ·simp only [hw,List.getElem?_map,hx,hy,au,List.length_map,bU,go_sem,reduceIte,zA,zB,zC,zD,zE,zF,reduceCtorEq]
    refine bX _ (b5 (by omega) (by simp only [hw,List.getElem?_map,hx,hy,au,List.length_map,bU,go_sem,reduceIte,zA,zB,zC,zD,zE,zF,reduceCtorEq]) ?_ ?_) <;> simp only [dY,lk,reduceIte,zE]
    ·refine ⟨i + 1, rfl, aL, fun j hj => ?_⟩
     rcases Nat.lt_or_ge j i with h | h
     ·exact bp j h
     ·obtain rfl : j = i := by omega
      rw [hx, hy]
      have := nV
      simp_all
    ·simp only [Go.Eng.intOf,List.headD_cons]; omega
  ·have cP : ¬ i < s.length := by simpa using il
   have ax : true = decide (s = t) := (decide_eq_true (sS ob fun j hj => bp j (by omega))).symm
   simp only [List.length_map,bU,go_sem,reduceIte,zA,zB,zC,zD,zE,zF,reduceCtorEq]
   exact hK _ (congrArg bl ax)
theorem LD (v : mT) : ∃ r_, (fun w => w = .ch [num v.pl, num (if v.ok = true then 0 else 2)]) r_ ∧ aR Tryz.prog 90 [b7 v] r_ := by
 refine eu tt_ok [] 13 [.tmp 2, .tmp 3] (fn := Tryz.f90) Tryz.func90 rfl Tryz.call90 ⟨rfl, rfl, by simp⟩ fun K hK => ?_
 simp only [b7]
 simp only [go_sem,reduceIte,zA,zB,zC,zD,zE,zF,reduceCtorEq]
 refine cF (by have h := Fx v; simp only [b7] at h; exact h) ?_
 rintro _ rfl
 simp only [go_sem,reduceIte,zA,zB,zC,zD,zE,zF,reduceCtorEq]
 refine aT (fun OV => ?_) (fun OV => ?_)
 ·have ho : v.ok = false := by simpa using OV
  have hp : v.pl = 0 := by unfold mT.pl; rw [ho]; rfl
  simp only [go_sem,reduceIte,zA,zB,zC,zD,zE,zF,reduceCtorEq]
  refine hK _ ?_
  rw [hp, ho]
  rfl
 ·have ho : v.ok = true := by simpa using OV
  have hp : v.pl = v.place := if_pos ho
  obtain ⟨w1, w2, -, -⟩ := sR ho
  simp only [w1,w2,go_sem,reduceIte,zA,zB,zC,zD,zE,zF,reduceCtorEq]
  refine hK _ ?_
  rw [hp, ho]
  rfl
theorem DI (s : ByteArray) : ∃ r_, (fun w => w = bl (lE s)) r_ ∧ aR Tryz.prog 106 [str s] r_ := by
 refine eu tt_ok [] 11 [.tmp 2] (fn := Tryz.f106) Tryz.func106 rfl Tryz.call106 ⟨rfl, rfl, by simp⟩ fun K hK => ?_
 have gv : Tryz.prog.underlying 9 = some .string := by kernel_rfl
 have sl : ∀ (a : ByteArray) (ty : TypeId), dh Tryz.prog (Builtin.len_ #[9] ty) [.sc (.string a)] = some (num a.size) := fun a ty => cH (P := Tryz.prog) (tt := tt) (T := 9) a gv ty
 simp only [sl,go_sem,reduceIte,zA,zB,zC,zD,zE,zF,reduceCtorEq]
 refine aT (fun nz => ?_) (fun nz => ?_)
 ·simp only [sl,go_sem,reduceIte,zA,zB,zC,zD,zE,zF,reduceCtorEq]
  refine hK _ (congrArg bl ?_)
  unfold lE
  simp_all
  try omega
 ·simp only [sl,go_sem,reduceIte,zA,zB,zC,zD,zE,zF,reduceCtorEq]
  refine hK _ (congrArg bl ?_)
  unfold lE
  simp_all
  try omega
theorem LF (a : fQ) (hb : MG a) : ∃ r_, (fun w => w = num (ir a)) r_ ∧ aR Tryz.prog 64 [ay a] r_ := by
 refine eu tt_ok [] 87 [.tmp 2] (fn := Tryz.f64) Tryz.func64 rfl Tryz.call64 ⟨rfl, rfl, by simp⟩ fun K hK => ?_
 simp only [ay,aj]
 obtain ⟨oA, wq, Rw⟩ := hb
 have gv : Tryz.prog.underlying 9 = some .string := by kernel_rfl
 have sl : ∀ (a : ByteArray) (ty : TypeId), dh Tryz.prog (Builtin.len_ #[9] ty) [.sc (.string a)] = some (num a.size) := fun a ty => cH (P := Tryz.prog) (tt := tt) (T := 9) a gv ty
 simp only [List.length_map,sl,aS,go_sem,reduceIte,zA,zB,zC,zD,zE,zF,reduceCtorEq]
 refine cF (IQ a.path oA) ?_
 rintro _ ⟨nm, rfl⟩
 simp only [List.length_map,sl,aS,go_sem,reduceIte,zA,zB,zC,zD,zE,zF,reduceCtorEq]
 refine aT (fun jU => ?_) (fun jU => ?_)
 ·have ax := TV (a := a) (by simpa using jU)
  simp only [List.length_map,sl,aS,go_sem,reduceIte,zA,zB,zC,zD,zE,zF,reduceCtorEq]
  exact hK _ (congrArg num ax.symm)
 ·have e1 : bM a.path = 0 := by simpa using jU
  simp only [List.length_map,sl,aS,go_sem,reduceIte,zA,zB,zC,zD,zE,zF,reduceCtorEq]
  refine cF (DI a.id) ?_
  rintro _ rfl
  simp only [List.length_map,sl,aS,go_sem,reduceIte,zA,zB,zC,zD,zE,zF,reduceCtorEq]
  refine aT (fun P1 => ?_) (fun P1 => ?_)
  ·have ax := TW e1 (by simpa using P1)
   simp only [List.length_map,sl,aS,go_sem,reduceIte,zA,zB,zC,zD,zE,zF,reduceCtorEq]
   exact hK _ (congrArg num ax.symm)
  ·have e2 : lE a.id = true := by simpa using P1
   simp only [List.length_map,sl,aS,go_sem,reduceIte,zA,zB,zC,zD,zE,zF,reduceCtorEq]
   refine bk tt_ok [] [6] 1 [1,22] (fun vs => ((a.syms.length : Int) - Go.Eng.intOf (vs.headD .undef)).toNat) (fun vs => ∃ i : Nat, vs = [num i] ∧ i ≤ a.syms.length ∧ ∀ j < i, ∀ x, a.syms[j]? = some x → (!lE x) = false) (by omega) (by simp only [List.length_map,sl,aS,go_sem,reduceIte,zA,zB,zC,zD,zE,zF,reduceCtorEq]) (⟨0, rfl, Nat.zero_le _, fun j hj => absurd hj (Nat.not_lt_zero j)⟩) fun vs hI Z1 bX => ?_
   obtain ⟨i, rfl, hi, bp⟩ := hI
   simp only [List.length_map,sl,aS,go_sem,reduceIte,zA,zB,zC,zD,zE,zF,reduceCtorEq]
   refine aT (fun xp => ?_) (fun xp => ?_)
   ·have aL : i < a.syms.length := by simpa using xp
    have hw := aq i (by omega)
    obtain ⟨x, hx⟩ : ∃ x, a.syms[i]? = some x := ⟨_, List.getElem?_eq_getElem aL⟩
    simp only [hw,List.getElem?_map,hx,List.length_map,sl,aS,go_sem,reduceIte,zA,zB,zC,zD,zE,zF,reduceCtorEq]
    refine cF (DI x) ?_
    rintro _ rfl
    simp only [hw,List.getElem?_map,hx,List.length_map,sl,aS,go_sem,reduceIte,zA,zB,zC,zD,zE,zF,reduceCtorEq]
    refine aT (fun nU => ?_) (fun nU => ?_)
    ·have ax := TX e1 e2 (nR hx nU)
     simp only [hw,List.getElem?_map,hx,List.length_map,sl,aS,go_sem,reduceIte,zA,zB,zC,zD,zE,zF,reduceCtorEq]
     exact hK _ (congrArg num ax.symm)
    ·simp only [hw,List.getElem?_map,hx,List.length_map,sl,aS,go_sem,reduceIte,zA,zB,zC,zD,zE,zF,reduceCtorEq]
     refine bX _ (b5 (by omega) (by simp only [hw,List.getElem?_map,hx,List.length_map,sl,aS,go_sem,reduceIte,zA,zB,zC,zD,zE,zF,reduceCtorEq]) ?_ ?_) <;> simp only [dY,lk,reduceIte,zE]
     ·refine ⟨i + 1, rfl, aL, fun j hj => ?_⟩
      rcases Nat.lt_or_ge j i with h | h
      ·exact bp j h
      ·obtain rfl : j = i := by omega
       intro z hz
       rw [hx] at hz; cases hz; exact nU
     ·simp only [Go.Eng.intOf,List.headD_cons]; omega
   ·have cP : ¬ i < a.syms.length := by simpa using xp
    have e3 : tC a.syms = false := any_none fun j hj => bp j (by omega)
    simp only [List.length_map,sl,aS,go_sem,reduceIte,zA,zB,zC,zD,zE,zF,reduceCtorEq]
    refine bR tt_ok aN [⟨.n, 0, [], [], []⟩, ⟨.r, 0, [], [], []⟩, ⟨.n, 0, [], [], []⟩, ⟨.n, 0, [], [], []⟩, ⟨.n, 0, [], [], []⟩, ⟨.n, 0, [], [], []⟩, ⟨.r, 0, [], [], []⟩, ⟨.n, 0, [], [], []⟩, ⟨.r, 0, [], [], []⟩, ⟨.n, 0, [], [], []⟩, ⟨.n, 0, [], [], []⟩, ⟨.n, 0, [], [], []⟩, ⟨.n, 0, [], [], []⟩, ⟨.n, 0, [], [], []⟩, ⟨.n, 0, [], [], []⟩, ⟨.r, 0, [], [], []⟩, ⟨.n, 0, [], [], []⟩, ⟨.n, 0, [], [], []⟩, ⟨.n, 0, [], [], []⟩, ⟨.n, 0, [], [], []⟩, ⟨.n, 0, [], [], []⟩, ⟨.r, 0, [], [], []⟩, ⟨.n, 0, [], [], []⟩, ⟨.n, 0, [], [], []⟩, ⟨.n, 0, [], [], []⟩, ⟨.n, 0, [], [], []⟩, ⟨.n, 0, [], [], []⟩, ⟨.r, 0, [], [], []⟩, ⟨.n, 0, [], [], []⟩, ⟨.n, 0, [], [], []⟩, ⟨.n, 0, [], [], []⟩] 0 (by kernel_rfl) ?_
    simp only [List.length_map,sl,aS,go_sem,reduceIte,zA,zB,zC,zD,zE,zF,reduceCtorEq]
    refine aT (fun IT => ?_) (fun IT => ?_)
    ·have ax := uz e1 e2 e3 (by unfold lF; rw [IT]; simp only [Bool.or_true,Bool.true_or])
     simp only [List.length_map,sl,aS,go_sem,reduceIte,zA,zB,zC,zD,zE,zF,reduceCtorEq]
     exact hK _ (congrArg num ax.symm)
    ·simp only [List.length_map,sl,aS,go_sem,reduceIte,zA,zB,zC,zD,zE,zF,reduceCtorEq]
     refine cG (by have h := Fw a.set wq; simp only [bY] at h; exact h) ?_
     rintro _ rfl
     simp only [List.length_map,sl,aS,go_sem,reduceIte,zA,zB,zC,zD,zE,zF,reduceCtorEq]
     refine cG (by have h := LC a.set (canon a.set) wq; simp only [bY] at h; exact h) ?_
     rintro _ rfl
     simp only [List.length_map,sl,aS,go_sem,reduceIte,zA,zB,zC,zD,zE,zF,reduceCtorEq]
     refine aT (fun Co => ?_) (fun Co => ?_)
     ·have ax := uz e1 e2 e3 (by unfold lF; rw [Co]; simp only [Bool.or_true,Bool.true_or])
      simp only [List.length_map,sl,aS,go_sem,reduceIte,zA,zB,zC,zD,zE,zF,reduceCtorEq]
      exact hK _ (congrArg num ax.symm)
     ·simp only [List.length_map,sl,aS,go_sem,reduceIte,zA,zB,zC,zD,zE,zF,reduceCtorEq]
      refine aT (fun Cp => ?_) (fun Cp => ?_)
      ·have ax := uz e1 e2 e3 (by unfold lF; rw [Cp]; simp only [Bool.or_true,Bool.true_or])
       simp only [List.length_map,sl,aS,go_sem,reduceIte,zA,zB,zC,zD,zE,zF,reduceCtorEq]
       exact hK _ (congrArg num ax.symm)
      ·simp only [List.length_map,sl,aS,go_sem,reduceIte,zA,zB,zC,zD,zE,zF,reduceCtorEq]
       refine aT (fun Cq => ?_) (fun Cq => ?_)
       ·have ax := uz e1 e2 e3 (by unfold lF; rw [Cq]; simp only [Bool.or_true,Bool.true_or])
        simp only [List.length_map,sl,aS,go_sem,reduceIte,zA,zB,zC,zD,zE,zF,reduceCtorEq]
        exact hK _ (congrArg num ax.symm)
       ·simp only [List.length_map,sl,aS,go_sem,reduceIte,zA,zB,zC,zD,zE,zF,reduceCtorEq]
        refine aT (fun tJ => ?_) (fun tJ => ?_)
        ·have ax := uz e1 e2 e3 (by unfold lF; rw [tJ]; simp only [Bool.or_true,Bool.true_or])
         simp only [List.length_map,sl,aS,go_sem,reduceIte,zA,zB,zC,zD,zE,zF,reduceCtorEq]
         exact hK _ (congrArg num ax.symm)
        ·have e4 : lF a = false := by unfold lF; rw [IT, Co, Cp, Cq, tJ]; rfl
         simp only [List.length_map,sl,aS,go_sem,reduceIte,zA,zB,zC,zD,zE,zF,reduceCtorEq]
         refine bk tt_ok [] [7] 1 [1,22,27,36,67] (fun vs => ((a.syms.length : Int) - Go.Eng.intOf (vs.headD .undef)).toNat) (fun vs => ∃ i : Nat, vs = [num i] ∧ 1 ≤ i ∧ ∀ (j : Nat) x y, j + 1 < i → a.syms[j]? = some x → a.syms[j + 1]? = some y → qb x y = true) (by omega) (by simp only [List.length_map,sl,aS,go_sem,reduceIte,zA,zB,zC,zD,zE,zF,reduceCtorEq]) (⟨1, rfl, Nat.le_refl _, fun j x y h => absurd h (by omega)⟩) fun vs hI Z2 jD => ?_
         obtain ⟨i, rfl, hi, vw⟩ := hI
         simp only [List.length_map,sl,aS,go_sem,reduceIte,zA,zB,zC,zD,zE,zF,reduceCtorEq]
         refine aT (fun Cc => ?_) (fun Cc => ?_)
         ·have bD : i < a.syms.length := by have := of_decide_eq_true Cc; omega
          have aP := aq i (by omega)
          obtain ⟨x, hx⟩ : ∃ x, a.syms[i]? = some x := ⟨_, List.getElem?_eq_getElem bD⟩
          obtain ⟨q, hq⟩ : ∃ q, a.syms[i - 1]? = some q := ⟨_, List.getElem?_eq_getElem (by omega)⟩
          have eV : IntKind.i64.wrap ((i : Int) - 1) = ((i - 1 : Nat) : Int) := jo _ _ (by omega) (by omega)
          have pE : ((i - 1 : Nat) : Int) < (a.syms.length : Int) := by omega
          simp only [aP,hx,hq,eV,pE,List.getElem?_map,List.length_map,sl,aS,go_sem,reduceIte,zA,zB,zC,zD,zE,zF,reduceCtorEq]
          refine bR tt_ok aN [⟨.n, 0, [], [], []⟩, ⟨.r, 0, [], [], []⟩, ⟨.n, 0, [], [], []⟩, ⟨.r, 0, [], [], []⟩, ⟨.r, 0, [], [], []⟩, ⟨.n, 0, [], [], []⟩, ⟨.r, 0, [], [], []⟩, ⟨.n, 0, [], [], []⟩, ⟨.n, 0, [], [], []⟩, ⟨.r, 0, [], [], []⟩, ⟨.r, 0, [], [], []⟩, ⟨.n, 0, [], [], []⟩] 0 (by kernel_rfl) ?_
          simp only [aP,hx,hq,eV,pE,List.getElem?_map,List.length_map,sl,aS,go_sem,reduceIte,zA,zB,zC,zD,zE,zF,reduceCtorEq]
          refine aT (fun P2 => ?_) (fun P2 => ?_)
          ·have ax : ir a = 1 := TZ e1 e2 e3 e4 (DA hq (by rw [show i - 1 + 1 = i by omega]; exact hx) (by simpa using P2))
           simp only [aP,hx,hq,eV,pE,List.getElem?_map,List.length_map,sl,aS,go_sem,reduceIte,zA,zB,zC,zD,zE,zF,reduceCtorEq]
           exact hK _ (congrArg num ax.symm)
          ·simp only [aP,hx,hq,eV,pE,List.getElem?_map,List.length_map,sl,aS,go_sem,reduceIte,zA,zB,zC,zD,zE,zF,reduceCtorEq]
           refine jD _ (b5 (by omega) (by simp only [aP,hx,hq,eV,pE,List.getElem?_map,List.length_map,sl,aS,go_sem,reduceIte,zA,zB,zC,zD,zE,zF,reduceCtorEq]) ?_ ?_) <;> simp only [dY,lk,reduceIte,zE]
           ·refine ⟨i + 1, rfl, by omega, fun j x2 y2 hj h1 h2 => ?_⟩
            rcases Nat.lt_or_ge (j + 1) i with h | h
            ·exact vw j x2 y2 h h1 h2
            ·have CY : j = i - 1 := by omega
             subst CY
             rw [hq] at h1; rw [show i - 1 + 1 = i by omega, hx] at h2; cases h1; cases h2; simpa using P2
           ·simp only [Go.Eng.intOf,List.headD_cons]; omega
         ·have cP : a.syms.length ≤ i := by have := of_decide_eq_false Cc; omega
          have ax : ir a = 0 := TY e1 e2 e3 e4 ((pf _).2 fun j x y h1 h2 => vw j x y (by have := (List.getElem?_eq_some_iff.1 h2).1; omega) h1 h2)
          simp only [List.length_map,sl,aS,go_sem,reduceIte,zA,zB,zC,zD,zE,zF,reduceCtorEq]
          exact hK _ (congrArg num ax.symm)
theorem LG (l : List fQ) (hl : l.length ≤ 1048576) (jA : ∀ a ∈ l, MG a) : ∃ r_, (fun w => w = num (iX l)) r_ ∧ aR Tryz.prog 41 [.slice (l.map ay)] r_ := by
 refine eu tt_ok [] 19 [.tmp 2] (fn := Tryz.f41) Tryz.func41 rfl Tryz.call41 ⟨rfl, rfl, by simp⟩ fun K hK => ?_
 simp only [List.length_map,go_sem,reduceIte,zA,zB,zC,zD,zE,zF,reduceCtorEq]
 refine bk tt_ok [] [3] 0 [0] (fun vs => ((l.length : Int) - Go.Eng.intOf (vs.headD .undef)).toNat) (fun vs => ∃ i : Nat, vs = [num i] ∧ i ≤ l.length ∧ iX l = iX (l.drop i)) (by omega) (by simp only [List.length_map,go_sem,reduceIte,zA,zB,zC,zD,zE,zF,reduceCtorEq]) (⟨0, rfl, Nat.zero_le _, rfl⟩) fun vs hI Z1 bX => ?_
 obtain ⟨i, rfl, hi, bp⟩ := hI
 simp only [List.length_map,go_sem,reduceIte,zA,zB,zC,zD,zE,zF,reduceCtorEq]
 refine aT (fun Bx => ?_) (fun Bx => ?_)
 ·have bD : i < l.length := by simpa using Bx
  have aP := aq i (by omega)
  obtain ⟨a, hx⟩ : ∃ a, l[i]? = some a := ⟨_, List.getElem?_eq_getElem bD⟩
  simp only [aP,hx,List.getElem?_map,ay,aj,List.length_map,go_sem,reduceIte,zA,zB,zC,zD,zE,zF,reduceCtorEq]
  refine cF (by have h := LF a (jA a (List.mem_of_getElem? hx)); simp only [ay,aj] at h; exact h) ?_
  rintro _ rfl
  simp only [aP,hx,List.getElem?_map,ay,aj,List.length_map,go_sem,reduceIte,zA,zB,zC,zD,zE,zF,reduceCtorEq]
  refine aT (fun jv => ?_) (fun jv => ?_)
  ·have ax : iX l = ir a := by rw [bp, mX hx, if_neg (by simpa using jv)]
   simp only [aP,hx,List.getElem?_map,ay,aj,List.length_map,go_sem,reduceIte,zA,zB,zC,zD,zE,zF,reduceCtorEq]
   exact hK _ (congrArg num ax.symm)
  ·simp only [aP,hx,List.getElem?_map,ay,aj,List.length_map,go_sem,reduceIte,zA,zB,zC,zD,zE,zF,reduceCtorEq]
   refine bX _ (b5 (by omega) (by simp only [aP,hx,List.getElem?_map,ay,aj,List.length_map,go_sem,reduceIte,zA,zB,zC,zD,zE,zF,reduceCtorEq]) ?_ ?_) <;> simp only [dY,lk,reduceIte,zE]
   ·exact ⟨i + 1, rfl, bD, by rw [bp, mX hx, if_pos (by simpa using jv)]⟩
   ·simp only [Go.Eng.intOf,List.headD_cons]; omega
 ·have PR : l.length ≤ i := by have := of_decide_eq_false Bx; omega
  have ax : iX l = 0 := by rw [bp, zP PR]
  simp only [List.length_map,go_sem,reduceIte,zA,zB,zC,zD,zE,zF,reduceCtorEq]
  exact hK _ (congrArg num ax.symm)
theorem IU (a : fQ) (ha : a.set.length ≤ 1048576) (l : List kr) (hl : l.length ≤ 1048576) : ∃ r_, (fun w => w = bl (l.any (fJ a))) r_ ∧ aR Tryz.prog 46 [ay a, .slice (l.map a6)] r_ := by
 refine eu tt_ok [] 41 [.tmp 4] (fn := Tryz.f46) Tryz.func46 rfl Tryz.call46 ⟨rfl, rfl, by simp⟩ fun K hK => ?_
 simp only [ay,aj]
 simp only [List.length_map,go_sem,reduceIte,zA,zB,zC,zD,zE,zF,reduceCtorEq]
 refine bk tt_ok [] [5] 1 [1,2] (fun vs => ((l.length : Int) - Go.Eng.intOf (vs.headD .undef)).toNat) (fun vs => ∃ i : Nat, vs = [num i] ∧ i ≤ l.length ∧ ∀ j < i, ∀ x, l[j]? = some x → fJ a x = false) (by omega) (by simp only [List.length_map,go_sem,reduceIte,zA,zB,zC,zD,zE,zF,reduceCtorEq]) (⟨0, rfl, Nat.zero_le _, fun j hj => absurd hj (Nat.not_lt_zero j)⟩) fun vs hI Z1 bX => ?_
 obtain ⟨i, rfl, hi, bp⟩ := hI
 simp only [List.length_map,go_sem,reduceIte,zA,zB,zC,zD,zE,zF,reduceCtorEq]
 refine aT (fun nW => ?_) (fun nW => ?_)
 ·have aL : i < l.length := by simpa using nW
  have hw := aq i (by omega)
  obtain ⟨x, hx⟩ : ∃ x, l[i]? = some x := ⟨_, List.getElem?_eq_getElem aL⟩
  simp only [hw,List.getElem?_map,hx,a6,b7,List.length_map,go_sem,reduceIte,zA,zB,zC,zD,zE,zF,reduceCtorEq]
  refine cF (by have h := LD x.bW; simp only [b7] at h; exact h) ?_
  rintro _ rfl
  simp only [hw,List.getElem?_map,hx,a6,b7,List.length_map,go_sem,reduceIte,zA,zB,zC,zD,zE,zF,reduceCtorEq]
  refine bR tt_ok aN [⟨.n, 0, [], [], []⟩, ⟨.n, 0, [], [], []⟩, ⟨.n, 0, [], [], []⟩, ⟨.n, 0, [], [], []⟩, ⟨.n, 0, [], [], []⟩, ⟨.r, 0, [], [], []⟩, ⟨.n, 0, [], [], []⟩, ⟨.r, 0, [], [], []⟩, ⟨.n, 0, [], [], []⟩, ⟨.r, 0, [], [], []⟩, ⟨.n, 0, [], [], []⟩, ⟨.n, 0, [], [], []⟩, ⟨.n, 0, [], [], []⟩, ⟨.n, 0, [], [], []⟩, ⟨.r, 0, [], [], []⟩, ⟨.n, 0, [], [], []⟩, ⟨.n, 0, [], [], []⟩, ⟨.n, 0, [], [], []⟩] 0 (by kernel_rfl) ?_
  simp only [hw,List.getElem?_map,hx,a6,b7,List.length_map,go_sem,reduceIte,zA,zB,zC,zD,zE,zF,reduceCtorEq]
  refine aT (fun Ue => ?_) (fun Ue => ?_)
  ·simp only [hw,List.getElem?_map,hx,a6,b7,List.length_map,go_sem,reduceIte,zA,zB,zC,zD,zE,zF,reduceCtorEq]
   refine aT (fun P3 => ?_) (fun P3 => ?_)
   ·simp only [hw,List.getElem?_map,hx,a6,b7,List.length_map,go_sem,reduceIte,zA,zB,zC,zD,zE,zF,reduceCtorEq]
    refine cG (by have h := LA a.set x.bW.pl ha; simp only [bY] at h; exact h) ?_
    rintro _ rfl
    simp only [hw,List.getElem?_map,hx,a6,b7,List.length_map,go_sem,reduceIte,zA,zB,zC,zD,zE,zF,reduceCtorEq]
    refine aT (fun XL => ?_) (fun XL => ?_)
    ·have ax : l.any (fJ a) = true := nR hx (by unfold fJ; simp_all [aJ])
     simp only [hw,List.getElem?_map,hx,a6,b7,List.length_map,go_sem,reduceIte,zA,zB,zC,zD,zE,zF,reduceCtorEq]
     exact hK _ (congrArg bl ax.symm)
    ·have Uf : fJ a x = false := by unfold fJ; simp_all [aJ]
     simp only [hw,List.getElem?_map,hx,a6,b7,List.length_map,go_sem,reduceIte,zA,zB,zC,zD,zE,zF,reduceCtorEq]
     refine bX _ (b5 (by omega) (by simp only [hw,List.getElem?_map,hx,a6,b7,List.length_map,go_sem,reduceIte,zA,zB,zC,zD,zE,zF,reduceCtorEq]) ?_ ?_) <;> simp only [dY,lk,reduceIte,zE]
     ·refine ⟨i + 1, rfl, aL, fun j hj => ?_⟩
      rcases Nat.lt_or_ge j i with h | h
      ·exact bp j h
      ·obtain rfl : j = i := by omega
       intro z hz
       rw [hx] at hz; cases hz; exact Uf
     ·simp only [Go.Eng.intOf,List.headD_cons]; omega
   ·have Uf : fJ a x = false := by unfold fJ; simp_all [aJ]
    simp only [hw,List.getElem?_map,hx,a6,b7,List.length_map,go_sem,reduceIte,zA,zB,zC,zD,zE,zF,reduceCtorEq]
    refine bX _ (b5 (by omega) (by simp only [hw,List.getElem?_map,hx,a6,b7,List.length_map,go_sem,reduceIte,zA,zB,zC,zD,zE,zF,reduceCtorEq]) ?_ ?_) <;> simp only [dY,lk,reduceIte,zE]
    ·refine ⟨i + 1, rfl, aL, fun j hj => ?_⟩
     rcases Nat.lt_or_ge j i with h | h
     ·exact bp j h
     ·obtain rfl : j = i := by omega
      intro z hz
      rw [hx] at hz; cases hz; exact Uf
    ·simp only [Go.Eng.intOf,List.headD_cons]; omega
  ·have Uf : fJ a x = false := by unfold fJ; simp_all [aJ]
   simp only [hw,List.getElem?_map,hx,a6,b7,List.length_map,go_sem,reduceIte,zA,zB,zC,zD,zE,zF,reduceCtorEq]
   refine bX _ (b5 (by omega) (by simp only [hw,List.getElem?_map,hx,a6,b7,List.length_map,go_sem,reduceIte,zA,zB,zC,zD,zE,zF,reduceCtorEq]) ?_ ?_) <;> simp only [dY,lk,reduceIte,zE]
   ·refine ⟨i + 1, rfl, aL, fun j hj => ?_⟩
    rcases Nat.lt_or_ge j i with h | h
    ·exact bp j h
    ·obtain rfl : j = i := by omega
     intro z hz
     rw [hx] at hz; cases hz; exact Uf
   ·simp only [Go.Eng.intOf,List.headD_cons]; omega
 ·have cP : ¬ i < l.length := by simpa using nW
  have ax : l.any (fJ a) = false := any_none fun j hj => bp j (by omega)
  simp only [List.length_map,go_sem,reduceIte,zA,zB,zC,zD,zE,zF,reduceCtorEq]
  exact hK _ (congrArg bl ax.symm)
theorem IV (s : List kr) (hl : s.length ≤ 1048576) : ∃ r_, (fun w => w = bl (nY s)) r_ ∧ aR Tryz.prog 42 [.slice (s.map a6)] r_ := by
 refine eu tt_ok [] 22 [.tmp 2] (fn := Tryz.f42) Tryz.func42 rfl Tryz.call42 ⟨rfl, rfl, by simp⟩ fun K hK => ?_
 simp only [List.length_map,aS,go_sem,reduceIte,zA,zB,zC,zD,zE,zF,reduceCtorEq]
 refine bk tt_ok [] [3] 0 [0] (fun vs => ((s.length : Int) - Go.Eng.intOf (vs.headD .undef)).toNat) (fun vs => ∃ i : Nat, vs = [num i] ∧ 1 ≤ i ∧ ∀ (j : Nat) x y, j + 1 < i → s[j]? = some x → s[j + 1]? = some y → qb x.path y.path = true) (by omega) (by simp only [List.length_map,aS,go_sem,reduceIte,zA,zB,zC,zD,zE,zF,reduceCtorEq]) (⟨1, rfl, Nat.le_refl _, fun j x y h => absurd h (by omega)⟩) fun vs hI Z1 bX => ?_
 obtain ⟨i, rfl, hi, IG⟩ := hI
 simp only [List.length_map,aS,go_sem,reduceIte,zA,zB,zC,zD,zE,zF,reduceCtorEq]
 refine aT (fun HF => ?_) (fun HF => ?_)
 ·have bD : i < s.length := by have := of_decide_eq_true HF; omega
  have aP := aq i (by omega)
  obtain ⟨x, hx⟩ : ∃ x, s[i]? = some x := ⟨_, List.getElem?_eq_getElem bD⟩
  obtain ⟨q, hq⟩ : ∃ q, s[i - 1]? = some q := ⟨_, List.getElem?_eq_getElem (by omega)⟩
  have eV : IntKind.i64.wrap ((i : Int) - 1) = ((i - 1 : Nat) : Int) := jo _ _ (by omega) (by omega)
  have pE : ((i - 1 : Nat) : Int) < (s.length : Int) := by omega
  simp only [aP,hx,hq,eV,pE,List.getElem?_map,a6,List.length_map,aS,go_sem,reduceIte,zA,zB,zC,zD,zE,zF,reduceCtorEq]
  refine bR tt_ok aN [⟨.n, 0, [], [], []⟩, ⟨.n, 0, [], [], []⟩, ⟨.r, 0, [], [], []⟩, ⟨.n, 0, [], [], []⟩, ⟨.r, 0, [], [], []⟩, ⟨.n, 0, [], [], []⟩, ⟨.n, 0, [], [], []⟩, ⟨.n, 0, [], [], []⟩, ⟨.r, 0, [], [], []⟩, ⟨.n, 0, [], [], []⟩, ⟨.r, 0, [], [], []⟩, ⟨.n, 0, [], [], []⟩] 0 (by kernel_rfl) ?_
  simp only [aP,hx,hq,eV,pE,List.getElem?_map,a6,List.length_map,aS,go_sem,reduceIte,zA,zB,zC,zD,zE,zF,reduceCtorEq]
  refine aT (fun ra => ?_) (fun ra => ?_)
  ·have ax : nY s = false := DB hq (by rw [show i - 1 + 1 = i by omega]; exact hx) (by simpa using ra)
   simp only [aP,hx,hq,eV,pE,List.getElem?_map,a6,List.length_map,aS,go_sem,reduceIte,zA,zB,zC,zD,zE,zF,reduceCtorEq]
   exact hK _ (congrArg bl ax.symm)
  ·simp only [aP,hx,hq,eV,pE,List.getElem?_map,a6,List.length_map,aS,go_sem,reduceIte,zA,zB,zC,zD,zE,zF,reduceCtorEq]
   refine bX _ (b5 (by omega) (by simp only [aP,hx,hq,eV,pE,List.getElem?_map,a6,List.length_map,aS,go_sem,reduceIte,zA,zB,zC,zD,zE,zF,reduceCtorEq]) ?_ ?_) <;> simp only [dY,lk,reduceIte,zE]
   ·refine ⟨i + 1, rfl, by omega, fun j x2 y2 hj h1 h2 => ?_⟩
    rcases Nat.lt_or_ge (j + 1) i with h | h
    ·exact IG j x2 y2 h h1 h2
    ·have CY : j = i - 1 := by omega
     subst CY
     rw [hq] at h1; rw [show i - 1 + 1 = i by omega, hx] at h2; cases h1; cases h2; simpa using ra
   ·simp only [Go.Eng.intOf,List.headD_cons]; omega
 ·have PT : s.length ≤ i := by have := of_decide_eq_false HF; omega
  have ax : nY s = true := (tD s).2 fun j x y h1 h2 => IG j x y (by have := (List.getElem?_eq_some_iff.1 h2).1; omega) h1 h2
  simp only [List.length_map,aS,go_sem,reduceIte,zA,zB,zC,zD,zE,zF,reduceCtorEq]
  exact hK _ (congrArg bl ax.symm)
end Go.Proofs.YtefbaladomfccaaGreatDoor
end

section
namespace Go.Proofs.YtefbaladomfccaaGreatDoor
def xE (a b : Nat) : Bool := decide (a < b)
theorem DJ : Ap xE := by
 refine ⟨fun x => decide_eq_false (Nat.lt_irrefl x), fun x y z h1 h2 => decide_eq_true (Nat.lt_trans (of_decide_eq_true h1) (of_decide_eq_true h2)), fun x y h1 h2 => ?_⟩
 have h1 := of_decide_eq_false h1
 have h2 := of_decide_eq_false h2
 omega
theorem vA {α : Type} [DecidableEq α] : ∀ (l m : List α), l.Nodup → (∀ x ∈ l, x ∈ m) → l.length ≤ m.length
 | [], _, _, _ => Nat.zero_le _
 | a :: r, m, hn, hs => by
  rw [List.nodup_cons] at hn
  have ha := hs a (List.mem_cons_self ..)
  have h1 := vA r (m.filter fun x => decide (¬ x = a)) hn.2 fun x hx => List.mem_filter.2 ⟨hs x (List.mem_cons_of_mem _ hx), decide_eq_true fun e => hn.1 (e ▸ hx)⟩
  have h2 : (m.filter fun x => decide (¬ x = a)).length < m.length := List.length_filter_lt_length_iff_exists.2 ⟨a, ha, by simp⟩
  rw [List.length_cons]; omega
abbrev kD := List (Nat × Nat)
inductive Wk (E : kD) (t : Nat) : Nat → List Nat → Prop
 | one : Wk E t t [t]
 | cons {i j P} : (i, j) ∈ E → Wk E t j P → Wk E t i (i :: P)
section
variable {E : kD} {t n : Nat}
theorem Wk.pos {i : Nat} {P : List Nat} (h : Wk E t i P) : 1 ≤ P.length := by cases h <;> simp
theorem Wk.head {i : Nat} {P : List Nat} (h : Wk E t i P) : P[0]? = some i := by cases h <;> rfl
theorem Wk.short {i : Nat} {P : List Nat} (h : Wk E t i P) (hP : P.length ≤ 1) : i = t ∧ P = [t] := by
 cases h with
 | one => exact ⟨rfl, rfl⟩
 | cons _ h => have := h.pos; simp at hP; rw [hP] at this; simp at this
theorem Wk.suffix {i j : Nat} {P : List Nat} (h : Wk E t j P) (hi : i ∈ P) : ∃ Q, Wk E t i Q ∧ Q.Sublist P := by
 induction h with
 | one => rw [List.mem_singleton] at hi; subst hi; exact ⟨_, .one, List.Sublist.refl _⟩
 | @cons a b P e h ih =>
  rcases List.mem_cons.1 hi with rfl | hi
  ·exact ⟨_, .cons e h, List.Sublist.refl _⟩
  ·obtain ⟨Q, h1, h2⟩ := ih hi
   exact ⟨Q, h1, h2.cons _⟩
theorem Wk.simple {i : Nat} {P : List Nat} (h : Wk E t i P) : ∃ Q, Wk E t i Q ∧ Q.Nodup := by
 induction h with
 | one => exact ⟨_, .one, by simp⟩
 | @cons a b P e h ih =>
  obtain ⟨Q, h1, h2⟩ := ih
  by_cases ha : a ∈ Q
  ·obtain ⟨R, h3, h4⟩ := h1.suffix ha
   exact ⟨R, h3, h4.nodup h2⟩
  ·exact ⟨a :: Q, .cons e h1, List.nodup_cons.2 ⟨ha, h2⟩⟩
def DK (E : kD) (n : Nat) : Prop := ∀ e ∈ E, e.1 < n ∧ e.2 < n
theorem Wk.lt (hE : DK E n) (ht : t < n) {i : Nat} {P : List Nat} (h : Wk E t i P) : ∀ x ∈ P, x < n := by
 induction h with
 | one => intro x hx; rw [List.mem_singleton] at hx; subst hx; exact ht
 | @cons a b P e _ ih =>
  intro x hx
  rcases List.mem_cons.1 hx with rfl | hx
  ·exact (hE _ e).1
  ·exact ih x hx
theorem Wk.bound (hE : DK E n) (ht : t < n) {i : Nat} {P : List Nat} (h : Wk E t i P) : ∃ Q, Wk E t i Q ∧ Q.length ≤ n := by
 obtain ⟨Q, h1, h2⟩ := h.simple
 refine ⟨Q, h1, ?_⟩
 have := vA Q (List.range n) h2 fun x hx => List.mem_range.2 (h1.lt hE ht x hx)
 simpa using this
def MZ (E : kD) (t i m : Nat) : Prop := (∃ P, Wk E t i P ∧ P.length = m + 1) ∧ ∀ P, Wk E t i P → m + 1 ≤ P.length
theorem MZ.unique {i m k : Nat} (h1 : MZ E t i m) (h2 : MZ E t i k) : m = k := by
 obtain ⟨⟨P, p1, p2⟩, p3⟩ := h1
 obtain ⟨⟨Q, q1, q2⟩, q3⟩ := h2
 have := p3 Q q1; have := q3 P p1; omega
structure LH (E : kD) (t n k : Nat) (d : List Int) : Prop where
 len : d.length = n
 at_ : ∀ (i : Nat) x, d[i]? = some x → (x = -1 ∧ ∀ P, Wk E t i P → k + 2 ≤ P.length) ∨ ∃ m : Nat, x = (m : Int) ∧ m ≤ k ∧ MZ E t i m
structure Fy (E : kD) (t n k j : Nat) (d : List Int) : Prop where
 len : d.length = n
 at_ : ∀ (i : Nat) x, d[i]? = some x → (x = -1 ∧ (∀ P, Wk E t i P → k + 2 ≤ P.length) ∧ ∀ (j' b : Nat), j' < j → E[j']? = some (i, b) → ∀ P, Wk E t b P → k + 2 ≤ P.length) ∨ ∃ m : Nat, x = (m : Int) ∧ m ≤ k + 1 ∧ MZ E t i m
theorem LH.init (ht : t < n) : LH E t n 0 ((List.replicate n (-1 : Int)).set t 0) := by
 refine ⟨by simp, fun i x h => ?_⟩
 rw [List.getElem?_set] at h
 by_cases XM : t = i
 ·subst XM
  rw [if_pos rfl, if_pos (by simpa using ht)] at h
  cases h
  exact .inr ⟨0, rfl, Nat.le_refl _, ⟨[t], .one, rfl⟩, fun P hP => hP.pos⟩
 ·rw [if_neg XM, List.getElem?_replicate] at h
  split at h
  ·cases h
   refine .inl ⟨rfl, fun P hP => ?_⟩
   rcases Nat.lt_or_ge P.length 2 with h1 | h1
   ·exact absurd (hP.short (by omega)).1.symm XM
   ·exact h1
  ·cases h
theorem LH.begin {k : Nat} {d : List Int} (h : LH E t n k d) : Fy E t n k 0 d :=
 ⟨h.len, fun i x hx => (h.at_ i x hx).imp (fun ⟨a, b⟩ => ⟨a, b, fun j' b hj => absurd hj (Nat.not_lt_zero _)⟩) fun ⟨m, a, b, c⟩ => ⟨m, a, by omega, c⟩⟩
theorem Fy.done {k j : Nat} {d : List Int} (h : Fy E t n k j d) (hj : E.length ≤ j) : LH E t n (k + 1) d := by
 refine ⟨h.len, fun i x hx => (h.at_ i x hx).imp (fun ⟨a, b, c⟩ => ⟨a, fun P hP => ?_⟩) id⟩
 cases hP with
 | one => have := b _ .one; simp at this
 | @cons _ b' Q e hQ =>
  obtain ⟨j', HL⟩ := List.mem_iff_getElem?.1 e
  have := c j' b' (Nat.lt_of_lt_of_le (List.getElem?_eq_some_iff.1 HL).1 hj) HL Q hQ
  rw [List.length_cons]; omega
theorem Fy.no {k j a b : Nat} {d : List Int} (h : Fy E t n k j d) (he : E[j]? = some (a, b)) {xa xb : Int} (ha : d[a]? = some xa) (hb : d[b]? = some xb) (hn : ¬ (xb = (k : Int) ∧ xa < 0)) : Fy E t n k (j + 1) d := by
 refine ⟨h.len, fun i x hx => ?_⟩
 rcases h.at_ i x hx with ⟨h1, h2, h3⟩ | h1
 ·by_cases hi : i = a
  ·subst hi
   rw [ha] at hx; cases hx
   refine .inl ⟨h1, h2, fun j' b' hj dt P hP => ?_⟩
   rcases Nat.lt_or_ge j' j with aL | cP
   ·exact h3 j' b' aL dt P hP
   ·obtain rfl : j' = j := by omega
    rw [he] at dt; cases dt
    rcases h.at_ b xb hb with ⟨-, h5, -⟩ | ⟨m, h5, h6, h7⟩
    ·exact h5 P hP
    ·have mI : m ≠ k := fun e => hn ⟨by rw [h5, e], by rw [h1]; decide⟩
     obtain ⟨⟨Q, q1, q2⟩, q3⟩ := h7
     have h8 := h2 _ (.cons (List.mem_of_getElem? he) q1)
     rw [List.length_cons] at h8
     have := q3 P hP
     omega
  ·refine .inl ⟨h1, h2, fun j' b' hj dt P hP => ?_⟩
   rcases Nat.lt_or_ge j' j with aL | cP
   ·exact h3 j' b' aL dt P hP
   ·obtain rfl : j' = j := by omega
    rw [he] at dt; cases dt; exact absurd rfl hi
 ·exact .inr h1
theorem Fy.yes {k j a b : Nat} {d : List Int} (h : Fy E t n k j d) (he : E[j]? = some (a, b)) {xa : Int} (ha : d[a]? = some xa) (hb : d[b]? = some (k : Int)) (hx : xa < 0) : Fy E t n k (j + 1) (d.set a ((k + 1 : Nat) : Int)) := by
 refine ⟨by simp [h.len], fun i x hi => ?_⟩
 rw [List.getElem?_set] at hi
 by_cases XN : a = i
 ·subst XN
  rw [if_pos rfl, if_pos (List.getElem?_eq_some_iff.1 ha).1] at hi
  cases hi
  rcases h.at_ b _ hb with ⟨h1, -⟩ | ⟨m, h1, -, ⟨Q, q1, q2⟩, -⟩
  ·omega
  ·rcases h.at_ a _ ha with ⟨-, h5, -⟩ | ⟨m, h5, -⟩
   ·refine .inr ⟨k + 1, rfl, Nat.le_refl _, ⟨_, .cons (List.mem_of_getElem? he) q1, by rw [List.length_cons]; omega⟩, fun P hP => ?_⟩
    have := h5 P hP; omega
   ·omega
 ·rw [if_neg XN] at hi
  refine (h.at_ i x hi).imp (fun ⟨h1, h2, h3⟩ => ⟨h1, h2, fun j' b' hj dt P hP => ?_⟩) id
  rcases Nat.lt_or_ge j' j with aL | cP
  ·exact h3 j' b' aL dt P hP
  ·obtain rfl : j' = j := by omega
   rw [he] at dt; cases dt; exact absurd rfl XN
structure M0 (E : kD) (t n : Nat) (d : List Int) : Prop where
 len : d.length = n
 at_ : ∀ (i : Nat) x, d[i]? = some x → (x = -1 ∧ ∀ P, ¬ Wk E t i P) ∨ ∃ m : Nat, x = (m : Int) ∧ MZ E t i m
theorem LH.end_ {d : List Int} (hE : DK E n) (ht : t < n) (h : LH E t n n d) : M0 E t n d := by
 refine ⟨h.len, fun i x hx => (h.at_ i x hx).imp (fun ⟨a, b⟩ => ⟨a, fun P hP => ?_⟩) fun ⟨m, a, _, c⟩ => ⟨m, a, c⟩⟩
 obtain ⟨Q, h1, h2⟩ := hP.bound hE ht
 have := b Q h1; omega
def LW (E : kD) (t i : Nat) (P : List Nat) : Prop := Wk E t i P ∧ ∀ Q, Wk E t i Q → P.length < Q.length ∨ P.length = Q.length ∧ uA xE P Q
theorem LW.one : LW E t t [t] := by
 refine ⟨.one, fun Q hQ => ?_⟩
 have := hQ.pos
 rcases Nat.lt_or_ge 1 Q.length with h | h
 ·exact .inl h
 ·exact .inr ⟨by simp; omega, .inl (hQ.short h).2.symm⟩
def DL (E : kD) (d : List Int) (a : Nat) (m : Int) (j : Nat) : Prop := d[j]? = some m ∧ (a, j) ∈ E
theorem M0.step {d : List Int} (h : M0 E t n d) (hE : DK E n) {a m : Nat} (ha : d[a]? = some (m : Int)) (tV : a ≠ t) : 0 < m ∧ ∃ j, DL E d a ((m : Int) - 1) j := by
 rcases h.at_ a _ ha with ⟨h1, -⟩ | ⟨m', h1, ⟨P, hP, hl⟩, kC⟩
 ·omega
 ·have : m' = m := by omega
  subst this
  cases hP with
  | one => exact absurd rfl tV
  | @cons _ j Q e hQ =>
   have hp := hQ.pos
   rw [List.length_cons] at hl
   refine ⟨by omega, j, ?_, e⟩
   obtain ⟨x, hx⟩ : ∃ x, d[j]? = some x := ⟨_, List.getElem?_eq_getElem (by rw [h.len]; exact (hE _ e).2)⟩
   rw [hx]
   rcases h.at_ j x hx with ⟨-, h2⟩ | ⟨k, rfl, ⟨R, hR, Xc⟩, hk⟩
   ·exact absurd hQ (h2 Q)
   ·have h3 := hk Q hQ
    have h4 := kC _ (.cons e hR)
    rw [List.length_cons] at h4
    congr 1; omega
theorem M0.least {d : List Int} (h : M0 E t n d) (hE : DK E n) {a m q : Nat} (ha : d[a]? = some (m : Int)) (tV : a ≠ t) (hq : DL E d a ((m : Int) - 1) q) (kC : ∀ j, DL E d a ((m : Int) - 1) j → q ≤ j) {P : List Nat} (hP : LW E t q P) : LW E t a (a :: P) := by
 obtain ⟨hm, -⟩ := h.step hE ha tV
 have hqd : MZ E t q (m - 1) := by
  rcases h.at_ q _ hq.1 with ⟨h1, -⟩ | ⟨k, h1, h2⟩
  ·omega
  ·have : k = m - 1 := by omega
   subst this; exact h2
 have QO : P.length = m := by
  obtain ⟨⟨R, r1, r2⟩, r3⟩ := hqd
  have := r3 P hP.1
  rcases hP.2 R r1 with h1 | ⟨h1, -⟩ <;> omega
 have UF : MZ E t a m := by
  rcases h.at_ a _ ha with ⟨h1, -⟩ | ⟨k, h1, h2⟩
  ·omega
  ·have : k = m := by omega
   subst this; exact h2
 refine ⟨.cons hq.2 hP.1, fun Q hQ => ?_⟩
 have hQl := UF.2 Q hQ
 cases hQ with
 | one => exact absurd rfl tV
 | @cons _ j R e hR =>
  rw [List.length_cons] at hQl ⊢
  rw [List.length_cons]
  rcases Nat.lt_or_ge m R.length with aL | cP
  ·exact .inl (by omega)
  ·have Xc : R.length = m := by omega
   refine .inr ⟨by omega, ?_⟩
   have hj : DL E d a ((m : Int) - 1) j := by
    refine ⟨?_, e⟩
    obtain ⟨x, hx⟩ : ∃ x, d[j]? = some x := ⟨_, List.getElem?_eq_getElem (by rw [h.len]; exact (hE _ e).2)⟩
    rw [hx]
    rcases h.at_ j x hx with ⟨-, h2⟩ | ⟨k, rfl, ⟨S, hS, hSl⟩, hk⟩
    ·exact absurd hR (h2 R)
    ·have h3 := hk R hR
     have h4 := UF.2 _ (.cons e hS)
     rw [List.length_cons] at h4
     congr 1; omega
   have hle := kC j hj
   rcases Nat.lt_or_ge q j with aL | PT
   ·right
    rw [lf, decide_eq_true rfl, Bool.true_and]
    have : lf xE P R = true := by
     have p0 := hP.1.head
     have r0 := hR.head
     cases P with
     | nil => simp at p0
     | cons p P' =>
      cases R with
      | nil => simp at r0
      | cons r R' =>
       simp at p0 r0; subst p0; subst r0
       rw [lf]; unfold xE; rw [decide_eq_true aL]; rfl
    rw [this, Bool.or_true]
   ·obtain rfl : q = j := by omega
    rcases hP.2 R hR with h1 | ⟨-, h1⟩
    ·omega
    ·rcases h1 with rfl | h1
     ·exact .inl rfl
     ·right; rw [lf, decide_eq_true rfl, h1]; simp
def IW (E : kD) (t i : Nat) (P : List Nat) : Prop := (P = [] ∧ ∀ Q, ¬ Wk E t i Q) ∨ LW E t i P
end
def jy (a b : List Nat) : Bool := if a.length ≠ b.length then decide (a.length < b.length) else lf xE a b
theorem z7 {a b : List Nat} {i x y : Nat} (ha : a[i]? = some x) (hb : b[i]? = some y) : lf xE (a.drop i) (b.drop i) = (decide (x < y) || (decide (x = y) && lf xE (a.drop (i + 1)) (b.drop (i + 1)))) := by
 rw [List.drop_eq_getElem_cons (List.getElem?_eq_some_iff.1 ha).1, List.drop_eq_getElem_cons (List.getElem?_eq_some_iff.1 hb).1, (List.getElem?_eq_some_iff.1 ha).2, (List.getElem?_eq_some_iff.1 hb).2, lf]; rfl
def tL (E : kD) (i : Nat) (T : Nat → Prop) (B : List Nat) : Prop :=
 (B = [] ∧ ∀ t Q, T t → ¬ Wk E t i Q) ∨ ((∃ t, T t ∧ Wk E t i B) ∧ ∀ t Q, T t → Wk E t i Q → B.length < Q.length ∨ B.length = Q.length ∧ uA xE B Q)
theorem tL.none {E : kD} {i : Nat} {T : Nat → Prop} (h : ∀ t, ¬ T t) : tL E i T [] := .inl ⟨rfl, fun t _ ht => absurd ht (h t)⟩
theorem tL.congr {E : kD} {i : Nat} {T T' : Nat → Prop} {B : List Nat} (h : tL E i T B) (hT : ∀ t, T t ↔ T' t) : tL E i T' B := by
 obtain rfl : T = T' := funext fun t => propext (hT t)
 exact h
theorem tL.first {E : kD} {i t : Nat} {T : Nat → Prop} (h : tL E i T []) {P : List Nat} (hP : LW E t i P) : tL E i (fun x => T x ∨ x = t) P := by
 rcases h with ⟨-, h⟩ | ⟨⟨s, h1, h2⟩, h3⟩
 ·refine .inr ⟨⟨t, .inr rfl, hP.1⟩, fun x Q hx hQ => ?_⟩
  rcases hx with hx | rfl
  ·exact absurd hQ (h x Q hx)
  ·exact hP.2 Q hQ
 ·have := h2.pos; simp at this
theorem Fz {a b : List Nat} (h : jy a b = true) : a.length < b.length ∨ a.length = b.length ∧ uA xE a b := by
 unfold jy at h
 split at h
 ·exact .inl (of_decide_eq_true h)
 ·rename_i hl; exact .inr ⟨by omega, .inr h⟩
theorem IX {a b : List Nat} (h : jy a b = false) : b.length < a.length ∨ b.length = a.length ∧ uA xE b a := by
 unfold jy at h
 split at h
 ·have := of_decide_eq_false h; exact .inl (by omega)
 ·rename_i hl
  have hl : a.length = b.length := by omega
  refine .inr ⟨hl.symm, ?_⟩
  rcases DC DJ hl with h1 | h1 | h1
  ·rw [h] at h1; cases h1
  ·exact .inl h1.symm
  ·exact .inr h1
theorem vB {a b c : List Nat} (h1 : a.length < b.length ∨ a.length = b.length ∧ uA xE a b) (h2 : b.length < c.length ∨ b.length = c.length ∧ uA xE b c) : a.length < c.length ∨ a.length = c.length ∧ uA xE a c := by
 rcases h1 with h1 | ⟨h1, OX⟩ <;> rcases h2 with h2 | ⟨h2, MB⟩
 ·exact .inl (by omega)
 ·exact .inl (by omega)
 ·exact .inl (by omega)
 ·exact .inr ⟨by omega, qg DJ OX MB⟩
theorem tL.swap {E : kD} {i t : Nat} {T : Nat → Prop} {B : List Nat} (h : tL E i T B) {P : List Nat} (hP : LW E t i P) (hl : jy P B = true) : tL E i (fun x => T x ∨ x = t) P := by
 rcases h with ⟨rfl, h⟩ | ⟨-, h3⟩
 ·exact tL.first (.inl ⟨rfl, h⟩) hP
 ·refine .inr ⟨⟨t, .inr rfl, hP.1⟩, fun x Q hx hQ => ?_⟩
  rcases hx with hx | rfl
  ·exact vB (Fz hl) (h3 x Q hx hQ)
  ·exact hP.2 Q hQ
theorem tL.P4 {E : kD} {i t : Nat} {T : Nat → Prop} {B : List Nat} (h : tL E i T B) (hB : B ≠ []) {P : List Nat} (hP : LW E t i P) (hl : jy P B = false) : tL E i (fun x => T x ∨ x = t) B := by
 rcases h with ⟨rfl, -⟩ | ⟨⟨s, h1, h2⟩, h3⟩
 ·exact absurd rfl hB
 ·refine .inr ⟨⟨s, .inl h1, h2⟩, fun x Q hx hQ => ?_⟩
  rcases hx with hx | rfl
  ·exact h3 x Q hx hQ
  ·exact vB (IX hl) (hP.2 Q hQ)
end Go.Proofs.YtefbaladomfccaaGreatDoor
end

section
namespace Go.Proofs.YtefbaladomfccaaGreatDoor
open Go.Eng
open Nat renaming reduceAdd → zA, reduceLT → zB, reduceLeDiff → zC, reduceMul → zD, reduceEqDiff → zE, reduceSub → zF
variable [aK]
set_option maxHeartbeats 4000000
set_option maxRecDepth 100000
abbrev lg (l : List Us) (u : Us) : Int := match l.findIdx? (fun x => decide (x = u)) with | some i => (i : Int) | none => -1
theorem LI {l : List Us} {u : Us} {i : Nat} (h : l[i]? = some u) (hm : ∀ j < i, ∀ x, l[j]? = some x → x ≠ u) : lg l u = (i : Int) := by
 have hi := List.getElem?_eq_some_iff.1 h
 have : l.findIdx? (fun x => decide (x = u)) = some i := List.findIdx?_eq_some_iff_getElem.2 ⟨hi.1, decide_eq_true hi.2, fun j hj => by
  have := hm j hj _ (List.getElem?_eq_getElem (Nat.lt_trans hj hi.1)); simpa using this⟩
 unfold lg; rw [this]
theorem LJ {l : List Us} {u : Us} (h : ∀ j < l.length, ∀ x, l[j]? = some x → x ≠ u) : lg l u = -1 := by
 have : l.findIdx? (fun x => decide (x = u)) = none := List.findIdx?_eq_none_iff.2 fun x hx => by
  obtain ⟨j, hj⟩ := List.mem_iff_getElem?.1 hx
  exact decide_eq_false (h j (List.getElem?_eq_some_iff.1 hj).1 x hj)
 unfold lg; rw [this]
theorem jz (l : List Us) (u : Us) : (lg l u = -1 ∧ u ∉ l) ∨ ∃ i : Nat, lg l u = (i : Int) ∧ l[i]? = some u := by
 unfold lg
 cases h : l.findIdx? (fun x => decide (x = u)) with
 | none => exact .inl ⟨rfl, fun hm => by have := List.findIdx?_eq_none_iff.1 h u hm; simp at this⟩
 | some i =>
  obtain ⟨h1, h2, -⟩ := List.findIdx?_eq_some_iff_getElem.1 h
  exact .inr ⟨i, rfl, by rw [List.getElem?_eq_getElem h1]; exact congrArg some (of_decide_eq_true h2)⟩
def n4 (look : Us → Option Dc) (path : ByteArray) (ds : List Dc) : List Us := (ds.map fun d => (path, d.name)).filter (kB look)
def nc (look : Us → Option Dc) (p : List Md) : List Us := p.flatMap fun m => n4 look m.path m.decls
def bP (look : Us → Option Dc) (p : List Md) : List Us := a7 dM [] (nc look p)
theorem z8 (look : Us → Option Dc) (path : ByteArray) (ds : List Dc) : (n4 look path ds).length ≤ ds.length := by unfold n4; exact Nat.le_trans (List.length_filter_le _ _) (by simp)
theorem DN {α : Type} (g : α → Nat) (hg : ∀ a, 1 ≤ g a) : ∀ l : List α, l.length ≤ ak g l
 | [] => Nat.zero_le _
 | a :: l => by have := DN g hg l; have := hg a; simp only [List.length_cons,ak]; omega
theorem Aa {α : Type} (g : α → Nat) : ∀ {l : List α} {i : Nat} {a : α}, l[i]? = some a → ak g (l.take i) + g a ≤ ak g l
 | b :: l, 0, a, h => by simp at h; subst h; simp [ak]
 | b :: l, i + 1, a, h => by
  have := Aa g (l := l) (i := i) (a := a) (by simpa using h)
  simp only [List.take_succ_cons,ak]; omega
theorem po (m : Md) : m.decls.length ≤ m.wt := by have := DN Dc.wt Dc.cO m.decls; unfold Md.wt; omega
theorem Ab (look : Us → Option Dc) : ∀ p : List Md, (nc look p).length ≤ ak Md.wt p
 | [] => Nat.zero_le _
 | m :: p => by
  have h1 := Ab look p
  have h2 := z8 look m.path m.decls
  have h3 := po m
  simp only [ak]
  unfold nc at h1 ⊢
  rw [List.flatMap_cons, List.length_append]; omega
theorem Cr (look : Us → Option Dc) {p : List Md} {i : Nat} {m : Md} (h : p[i]? = some m) (k : Nat) : (a7 dM (a7 dM [] (nc look (p.take i))) (n4 look m.path (m.decls.take k))).length + (m.decls.length - k) ≤ ak Md.wt p := by
 have h1 := e6 dM (nc look (p.take i)) []
 have h2 := e6 dM (n4 look m.path (m.decls.take k)) (a7 dM [] (nc look (p.take i)))
 have h3 := Ab look (p.take i)
 have h4 := z8 look m.path (m.decls.take k)
 have h5 := Aa Md.wt h
 have h6 := po m
 rw [List.length_take] at h4
 rw [List.length_nil] at h1
 omega
theorem qj (look : Us → Option Dc) (path : ByteArray) {ds : List Dc} {k : Nat} {d : Dc} (h : ds[k]? = some d) : n4 look path (ds.take (k + 1)) = n4 look path (ds.take k) ++ (if kB look (path, d.name) = true then [(path, d.name)] else []) := by
 unfold n4
 rw [List.take_add_one, h]
 simp only [Option.toList_some,List.map_append,List.map_cons,List.map_nil,List.filter_append]
 congr 1
 rw [List.filter_cons]; split <;> rfl
theorem FA (look : Us → Option Dc) {p : List Md} {i : Nat} {m : Md} (h : p[i]? = some m) : nc look (p.take (i + 1)) = nc look (p.take i) ++ n4 look m.path m.decls := by
 unfold nc; rw [List.take_add_one, h]; simp
theorem kE (look : Us → Option Dc) (u : Us) : kB look u = true ↔ isVal look u := by
 unfold kB isVal
 cases h : look u with
 | none => simp
 | some d => simp
theorem n5 (look : Us → Option Dc) (u : Us) : kB look u = true ↔ leads look u = some u := by
 rw [kE]
 constructor
 ·rintro ⟨d, h1, h2⟩; exact tB h1 h2
 ·intro h; exact gK h
theorem Cs {α : Type} [DecidableEq α] (lt : α → α → Bool) (l : List α) (a : α) : a7 lt l [a] = im lt l a := rfl
def lh (D : Us → List Us) (all : List Us) : Nat → List Us → kD
 | _, [] => []
 | i, u :: r => (D u).map (fun t => (i, (lg all t).toNat)) ++ lh D all (i + 1) r
theorem FB (D : Us → List Us) (all : List Us) {i : Nat} {l : List Us} {u : Us} (h : l[i]? = some u) : lh D all i (l.drop i) = (D u).map (fun t => (i, (lg all t).toNat)) ++ lh D all (i + 1) (l.drop (i + 1)) := by
 rw [List.drop_eq_getElem_cons (List.getElem?_eq_some_iff.1 h).1, (List.getElem?_eq_some_iff.1 h).2, lh]
theorem IY (D : Us → List Us) (all : List Us) {i : Nat} {l : List Us} (h : l.length ≤ i) : lh D all i (l.drop i) = [] := by rw [List.drop_eq_nil_of_le h]; rfl
def cU (e : Nat × Nat) : V := .agg [num (e.1 : Int), num (e.2 : Int)]
def DO (n : Nat) (E : kD) : List V := [.slice (List.replicate n (str ⟨#[]⟩)), .slice (E.map cU)]
def ff (n : Nat) (E : kD) : V := .agg (DO n E)
theorem LK (k : Nat) (hk : k ≤ 1048576) : nk tt 49 (num (k : Int)) (num (k : Int)) = some (1, List.replicate k (str ⟨#[]⟩), k) := by
 unfold nk
 simp only [dT,RY,YV]
 rw [if_pos (by refine ⟨by omega, by omega, by omega, by omega, by decide, ?_⟩; simp [Value.oneCell'])]
 simp only [Int.toNat_natCast]
 rfl
theorem Ug (l : kD) (a b : Nat) : (l ++ [(a, b)]).map cU = l.map cU ++ [.agg [num (a : Int), num (b : Int)]] := by rw [List.map_append]; rfl
theorem xv (l : List Us) (u : Us) (hl : l.length ≤ 1048576) : ∃ r_, (fun w => w = num (lg l u)) r_ ∧ aR Tryz.prog 47 [.slice (l.map az), az u] r_ := by
 refine eu tt_ok [] 19 [.tmp 4] (fn := Tryz.f47) Tryz.func47 rfl Tryz.call47 ⟨rfl, rfl, by simp⟩ fun K hK => ?_
 simp only [az]
 simp only [List.length_map,aX,go_sem,reduceIte,zA,zB,zC,zD,zE,zF,reduceCtorEq]
 refine bk tt_ok [] [5] 1 [0,3] (fun vs => ((l.length : Int) - Go.Eng.intOf (vs.headD .undef)).toNat) (fun vs => ∃ i : Nat, vs = [num i] ∧ i ≤ l.length ∧ ∀ j < i, ∀ x, l[j]? = some x → x ≠ u) (by omega) (by simp only [List.length_map,aX,go_sem,reduceIte,zA,zB,zC,zD,zE,zF,reduceCtorEq]) (⟨0, rfl, Nat.zero_le _, fun j hj => absurd hj (Nat.not_lt_zero j)⟩) fun vs hI Z1 bX => ?_
 obtain ⟨i, rfl, hi, bp⟩ := hI
 simp only [List.length_map,aX,go_sem,reduceIte,zA,zB,zC,zD,zE,zF,reduceCtorEq]
 refine aT (fun jC => ?_) (fun jC => ?_)
 ·have aL : i < l.length := by simpa using jC
  have hw := aq i (by omega)
  obtain ⟨x, hx⟩ : ∃ x, l[i]? = some x := ⟨_, List.getElem?_eq_getElem aL⟩
  simp only [hw,List.getElem?_map,hx,az,List.length_map,aX,go_sem,reduceIte,zA,zB,zC,zD,zE,zF,reduceCtorEq]
  refine bR tt_ok aN [⟨.n, 0, [], [], []⟩, ⟨.n, 0, [], [], []⟩, ⟨.r, 0, [], [], []⟩, ⟨.r, 0, [], [], []⟩, ⟨.r, 0, [], [], []⟩, ⟨.n, 0, [], [], []⟩] 0 (by kernel_rfl) ?_
  simp only [hw,List.getElem?_map,hx,az,List.length_map,aX,go_sem,reduceIte,zA,zB,zC,zD,zE,zF,reduceCtorEq]
  refine aT (fun jv => ?_) (fun jv => ?_)
  ·have hxu : x = u := of_decide_eq_true jv
   have ax : lg l u = (i : Int) := LI (by rw [hx, hxu]) bp
   simp only [hw,List.getElem?_map,hx,az,List.length_map,aX,go_sem,reduceIte,zA,zB,zC,zD,zE,zF,reduceCtorEq]
   exact hK _ (congrArg num ax.symm)
  ·simp only [hw,List.getElem?_map,hx,az,List.length_map,aX,go_sem,reduceIte,zA,zB,zC,zD,zE,zF,reduceCtorEq]
   refine bX _ (b5 (by omega) (by simp only [hw,List.getElem?_map,hx,az,List.length_map,aX,go_sem,reduceIte,zA,zB,zC,zD,zE,zF,reduceCtorEq]) ?_ ?_) <;> simp only [dY,lk,reduceIte,zE]
   ·refine ⟨i + 1, rfl, aL, fun j hj => ?_⟩
    rcases Nat.lt_or_ge j i with h | h
    ·exact bp j h
    ·obtain rfl : j = i := by omega
     intro z hz
     rw [hx] at hz; cases hz; exact of_decide_eq_false jv
   ·simp only [Go.Eng.intOf,List.headD_cons]; omega
 ·have cP : ¬ i < l.length := by simpa using jC
  have ax : lg l u = -1 := LJ fun j hj => bp j (by omega)
  simp only [List.length_map,aX,go_sem,reduceIte,zA,zB,zC,zD,zE,zF,reduceCtorEq]
  exact hK _ (congrArg num ax.symm)
theorem IZ (p : List Md) (hl : p.length ≤ 1048576) (hw : ∀ m ∈ p, m.wt ≤ 1048576) (hS : ak Md.wt p ≤ 1048576)  : ∃ r_, (fun w => w = .slice ((bP (ae p) p).map az)) r_ ∧ aR Tryz.prog 44 [.slice (p.map dv)] r_ := by
 refine eu tt_ok [] 57 [.tmp 2] (fn := Tryz.f44) Tryz.func44 rfl Tryz.call44 ⟨rfl, rfl, by simp⟩ fun K hK => ?_
 simp only [List.length_map,aX,go_sem,reduceIte,zA,zB,zC,zD,zE,zF,reduceCtorEq]
 refine o0 (v' := .slice []) 3 (by decide) rfl rfl ?_
 refine dk tt_ok [] (fun a : Nat × List Us => [(0, .slice (p.map dv)), (3, .slice (a.2.map az)), (4, num a.1)]) (fun a : Nat × List Us => []) (fun a => p.length - a.1) (fun a => a.1 ≤ p.length ∧ a.2 = a7 dM [] (nc (ae p) (p.take a.1))) ((0, [])) 0 (bz (by omega) (by simp only [List.length_map,aX,List.map_nil,Int.cast_ofNat_Int,go_sem,reduceIte,zA,zB,zC,zD,zE,zF,reduceCtorEq] <;> rfl)) (⟨Nat.zero_le _, rfl⟩) ?_
 intro ⟨i, R0⟩ ⟨hi, LL⟩
 try dsimp only at hi LL
 try dsimp only
 intro Z1 bX
 simp only [List.length_map,aX,go_sem,reduceIte,zA,zB,zC,zD,zE,zF,reduceCtorEq]
 refine aT (fun Ct => ?_) (fun Ct => ?_)
 ·have bD : i < p.length := by simpa using Ct
  have aP := aq i (by omega)
  obtain ⟨m, hx⟩ : ∃ m, p[i]? = some m := ⟨_, List.getElem?_eq_getElem bD⟩
  have Xf := hw m (List.mem_of_getElem? hx)
  have Vc := po m
  have od : (i : Int) < (p.length : Int) := by omega
  simp only [aP,hx,od,List.getElem?_map,aW,bm,List.length_map,aX,go_sem,reduceIte,zA,zB,zC,zD,zE,zF,reduceCtorEq]
  refine dk tt_ok [] (fun b : Nat × List Us => [(0, .slice (p.map dv)), (3, .slice (b.2.map az)), (4, num i), (5, num b.1)]) (fun b : Nat × List Us => []) (fun b => m.decls.length - b.1) (fun b => b.1 ≤ m.decls.length ∧ b.2 = a7 dM (a7 dM [] (nc (ae p) (p.take i))) (n4 (ae p) m.path (m.decls.take b.1))) ((0, R0)) 0 (bz (by omega) (by simp only [aP,hx,od,List.getElem?_map,aW,bm,List.length_map,aX,Int.cast_ofNat_Int,go_sem,reduceIte,zA,zB,zC,zD,zE,zF,reduceCtorEq] <;> rfl)) (⟨Nat.zero_le _, by rw [List.take_zero]; exact LL⟩) ?_
  intro ⟨k, R⟩ ⟨hk, hR⟩
  try dsimp only at hk hR
  try dsimp only
  intro Z2 jD
  simp only [aP,hx,od,List.getElem?_map,aW,bm,List.length_map,aX,go_sem,reduceIte,zA,zB,zC,zD,zE,zF,reduceCtorEq]
  refine aT (fun tg => ?_) (fun tg => ?_)
  ·have n9 : k < m.decls.length := by simpa using tg
   have fK := aq k (by omega)
   obtain ⟨d, hd⟩ : ∃ d, m.decls[k]? = some d := ⟨_, List.getElem?_eq_getElem n9⟩
   simp only [aP,hx,od,List.getElem?_map,aW,bm,fK,hd,aD,aG,ai,al,List.cons_append,List.nil_append,List.length_map,aX,go_sem,reduceIte,zA,zB,zC,zD,zE,zF,reduceCtorEq]
   refine bR tt_ok aN [⟨.n, 0, [], [], []⟩, ⟨.n, 0, [], [], []⟩, ⟨.r, 0, [0], [], []⟩, ⟨.n, 0, [], [], []⟩, ⟨.r, 0, [0], [], []⟩, ⟨.n, 0, [], [], []⟩, ⟨.n, 0, [], [], []⟩, ⟨.r, 0, [0], [], []⟩, ⟨.n, 0, [], [], []⟩, ⟨.r, 0, [0], [], []⟩, ⟨.n, 0, [], [], []⟩, ⟨.r, 0, [0], [], []⟩, ⟨.n, 0, [], [], []⟩, ⟨.r, 0, [0], [], []⟩, ⟨.n, 0, [], [], []⟩, ⟨.a, 0, [], [], []⟩, ⟨.s, 0, [], [], []⟩] 1 (by kernel_rfl) ?_
   rcases (by cases h : leads (ae p) (m.path, d.name) with | none => exact .inr rfl | some v => exact .inl ⟨v, rfl⟩ : (∃ v, leads (ae p) (m.path, d.name) = some v) ∨ leads (ae p) (m.path, d.name) = none) with ⟨v, gW⟩ | gW
   ·simp only [aP,hx,od,List.getElem?_map,aW,bm,fK,hd,aD,aG,ai,al,List.cons_append,List.nil_append,List.length_map,aX,go_sem,reduceIte,zA,zB,zC,zD,zE,zF,reduceCtorEq]
    refine cF (by obtain ⟨_, rfl, h⟩ := iq p (m.path, d.name) hl hw; rw [gh gW] at h; exact ⟨_, rfl, h⟩) ?_
    rintro _ rfl
    have Vk := fun x y => aX x y v (m.path, d.name)
    simp only [aP,hx,od,List.getElem?_map,aW,bm,fK,hd,aD,aG,ai,al,List.cons_append,List.nil_append,Vk,List.length_map,aX,go_sem,reduceIte,zA,zB,zC,zD,zE,zF,reduceCtorEq]
    refine aT (fun Cu => ?_) (fun Cu => ?_)
    ·have hvu : v = (m.path, d.name) := of_decide_eq_true Cu
     have Uh : kB (ae p) (m.path, d.name) = true := (n5 _ _).2 (by rw [gW, hvu])
     obtain ⟨R2, M1⟩ : ∃ R2, R2 = im dM R (m.path, d.name) := ⟨_, rfl⟩
     have zZ : R2 = a7 dM (a7 dM [] (nc (ae p) (p.take i))) (n4 (ae p) m.path (m.decls.take (k + 1))) := by rw [M1, qj _ _ hd, Uh, if_pos rfl, lb, Cs, ← hR]
     simp only [aP,hx,od,List.getElem?_map,aW,bm,fK,hd,aD,aG,ai,al,List.cons_append,List.nil_append,Vk,List.length_map,aX,go_sem,reduceIte,zA,zB,zC,zD,zE,zF,reduceCtorEq]
     refine cF (by have h := ML R (m.path, d.name) (by have := Cr (ae p) hx k; rw [← hR] at this; omega); simp only [az] at h; exact h) ?_
     rintro _ rfl
     simp only [aP,hx,od,List.getElem?_map,aW,bm,fK,hd,aD,aG,ai,al,List.cons_append,List.nil_append,Vk,List.length_map,aX,go_sem,reduceIte,zA,zB,zC,zD,zE,zF,reduceCtorEq]
     refine jD _ ⟨(k + 1, R2), ?_, ?_, bz (by omega) (by (simp only [fK,M1,go_sem,reduceIte,zA,zB,zC,zD,zE,zF,reduceCtorEq]))⟩
     ·exact ⟨n9, zZ⟩
     ·dsimp only; omega
    ·have bL : some v ≠ some (m.path, d.name) := fun e => by have := of_decide_eq_false Cu; exact this (Option.some.inj e)
     have Uh : kB (ae p) (m.path, d.name) = false := by
      cases hq : kB (ae p) (m.path, d.name) with
      | false => rfl
      | true => exact absurd ((n5 _ _).1 hq) (by rw [gW]; exact bL)
     obtain ⟨R2, M1⟩ : ∃ R2, R2 = R := ⟨_, rfl⟩
     have zZ : R2 = a7 dM (a7 dM [] (nc (ae p) (p.take i))) (n4 (ae p) m.path (m.decls.take (k + 1))) := by rw [M1, qj _ _ hd, Uh, if_neg (by simp), List.append_nil]; exact hR
     simp only [aP,hx,od,List.getElem?_map,aW,bm,fK,hd,aD,aG,ai,al,List.cons_append,List.nil_append,Vk,List.length_map,aX,go_sem,reduceIte,zA,zB,zC,zD,zE,zF,reduceCtorEq]
     refine jD _ ⟨(k + 1, R2), ?_, ?_, bz (by omega) (by (simp only [fK,M1,go_sem,reduceIte,zA,zB,zC,zD,zE,zF,reduceCtorEq]))⟩
     ·exact ⟨n9, zZ⟩
     ·dsimp only; omega
   ·simp only [aP,hx,od,List.getElem?_map,aW,bm,fK,hd,aD,aG,ai,al,List.cons_append,List.nil_append,List.length_map,aX,go_sem,reduceIte,zA,zB,zC,zD,zE,zF,reduceCtorEq]
    refine cF (by obtain ⟨_, rfl, h⟩ := iq p (m.path, d.name) hl hw; rw [fw gW] at h; exact ⟨_, rfl, h⟩) ?_
    rintro _ rfl
    have bL : (none : Option Us) ≠ some (m.path, d.name) := by simp
    have Uh : kB (ae p) (m.path, d.name) = false := by
     cases hq : kB (ae p) (m.path, d.name) with
     | false => rfl
     | true => exact absurd ((n5 _ _).1 hq) (by rw [gW]; exact bL)
    obtain ⟨R2, M1⟩ : ∃ R2, R2 = R := ⟨_, rfl⟩
    have zZ : R2 = a7 dM (a7 dM [] (nc (ae p) (p.take i))) (n4 (ae p) m.path (m.decls.take (k + 1))) := by rw [M1, qj _ _ hd, Uh, if_neg (by simp), List.append_nil]; exact hR
    simp only [aP,hx,od,List.getElem?_map,aW,bm,fK,hd,aD,aG,ai,al,List.cons_append,List.nil_append,List.length_map,aX,go_sem,reduceIte,zA,zB,zC,zD,zE,zF,reduceCtorEq]
    refine jD _ ⟨(k + 1, R2), ?_, ?_, bz (by omega) (by (simp only [fK,M1,go_sem,reduceIte,zA,zB,zC,zD,zE,zF,reduceCtorEq]))⟩
    ·exact ⟨n9, zZ⟩
    ·dsimp only; omega
  ·have I0 : k = m.decls.length := by have := of_decide_eq_false tg; omega
   simp only [aP,hx,od,List.getElem?_map,aW,bm,List.length_map,aX,go_sem,reduceIte,zA,zB,zC,zD,zE,zF,reduceCtorEq]
   refine bX _ ⟨(i + 1, R), ?_, ?_, bz (by omega) (by (simp only [aP,go_sem,reduceIte,zA,zB,zC,zD,zE,zF,reduceCtorEq]))⟩
   ·exact ⟨bD, by rw [FA _ hx, lb, hR, I0, List.take_length]⟩
   ·dsimp only; omega
 ·have gw : i = p.length := by have := of_decide_eq_false Ct; omega
  have ax : bP (ae p) p = R0 := by rw [LL, gw, List.take_length]; rfl
  simp only [List.length_map,aX,go_sem,reduceIte,zA,zB,zC,zD,zE,zF,reduceCtorEq]
  exact hK _ (by rw [ax])
theorem FD (p : List Md) (hl : p.length ≤ 1048576) (hw : ∀ m ∈ p, m.wt ≤ 1048576) (hS : ak Md.wt p ≤ 1048576) (all : List Us) (ZF : all.length ≤ 1048576) (gj : ∀ u ∈ all, ∀ t ∈ eJ (ae p) u, t ∈ all) (hE : (lh (eJ (ae p)) all 0 all).length ≤ 1048576) : ∃ r_, (fun w => w = ff all.length (lh (eJ (ae p)) all 0 all)) r_ ∧ aR Tryz.prog 45 [.slice (p.map dv), .slice (all.map az)] r_ := by
 refine eu tt_ok [10] 51 [.cell 4 116] (fn := Tryz.f45) Tryz.func45 rfl Tryz.call45 ⟨rfl, rfl, by simp⟩ fun K hK => ?_
 have mI := LK all.length ZF
 simp only [mI,List.length_replicate,List.length_map,go_sem,reduceIte,zA,zB,zC,zD,zE,zF,reduceCtorEq]
 refine wW 2 1 0 2 rfl rfl ?_
 refine dk tt_ok [10] (fun a : Nat × kD => [(0, .slice (p.map dv)), (1, .slice (all.map az)), (4, .ptr 0 0), (5, .ptr 2 0), (6, num a.1)]) (fun a : Nat × kD => [.box [.sc (.slice none 0 0), .sc (.slice none 0 0)], .rows 0 1 (List.replicate all.length (str ⟨#[]⟩)), .box [.ms 1 0 0 all.length, .ms 3 a.2.length 0 a.2.length], .rows a.2.length 2 (a.2.map cU)]) (fun a => all.length - a.1) (fun a => a.1 ≤ all.length ∧ a.2 ++ lh (eJ (ae p)) all a.1 (all.drop a.1) = lh (eJ (ae p)) all 0 all) ((0, [])) 4 (bz (by omega) (by simp only [mI,List.length_replicate,List.length_map,List.map_nil,List.length_nil,Int.cast_ofNat_Int,go_sem,reduceIte,zA,zB,zC,zD,zE,zF,reduceCtorEq] <;> rfl)) (⟨Nat.zero_le _, rfl⟩) ?_
 intro ⟨i, E0⟩ ⟨hi, XO⟩
 try dsimp only at hi XO
 try dsimp only
 intro Z1 bX
 simp only [mI,List.length_replicate,List.length_map,go_sem,reduceIte,zA,zB,zC,zD,zE,zF,reduceCtorEq]
 refine aT (fun ik => ?_) (fun ik => ?_)
 ·have bD : i < all.length := by simpa using ik
  have aP := aq i (by omega)
  obtain ⟨u, hx⟩ : ∃ u, all[i]? = some u := ⟨_, List.getElem?_eq_getElem bD⟩
  have TO := Ff (p := p) hw u
  have od : (i : Int) < (all.length : Int) := by omega
  simp only [mI,List.length_replicate,aP,hx,od,List.getElem?_map,az,List.length_map,go_sem,reduceIte,zA,zB,zC,zD,zE,zF,reduceCtorEq]
  refine bR tt_ok aN [⟨.n, 0, [], [], []⟩, ⟨.n, 0, [], [], []⟩, ⟨.n, 0, [], [], []⟩, ⟨.r, 0, [], [], []⟩, ⟨.n, 0, [], [], []⟩, ⟨.r, 0, [], [], []⟩, ⟨.n, 0, [], [], []⟩, ⟨.n, 0, [], [], []⟩, ⟨.r, 0, [], [], []⟩, ⟨.n, 0, [], [], []⟩, ⟨.r, 0, [], [], []⟩, ⟨.n, 0, [], [], []⟩, ⟨.n, 0, [], [], []⟩] 0 (by kernel_rfl) ?_
  simp only [mI,List.length_replicate,aP,hx,od,List.getElem?_map,az,List.length_map,go_sem,reduceIte,zA,zB,zC,zD,zE,zF,reduceCtorEq]
  refine cG (by have h := It p u hl hw; unfold vo at h; exact h) ?_
  rintro _ rfl
  simp only [mI,List.length_replicate,aP,hx,od,List.getElem?_map,az,List.length_map,go_sem,reduceIte,zA,zB,zC,zD,zE,zF,reduceCtorEq]
  refine dk tt_ok [10] (fun b : Nat × kD => [(0, .slice (p.map dv)), (1, .slice (all.map az)), (4, .ptr 0 0), (5, .ptr 2 0), (6, num i), (7, .slice ((eJ (ae p) u).map az)), (8, num b.1)]) (fun b : Nat × kD => [.box [.sc (.slice none 0 0), .sc (.slice none 0 0)], .rows 0 1 (List.replicate all.length (str ⟨#[]⟩)), .box [.ms 1 0 0 all.length, .ms 3 b.2.length 0 b.2.length], .rows b.2.length 2 (b.2.map cU)]) (fun b => (eJ (ae p) u).length - b.1) (fun b => b.1 ≤ (eJ (ae p) u).length ∧ b.2 ++ (((eJ (ae p) u).drop b.1).map (fun t => (i, (lg all t).toNat)) ++ lh (eJ (ae p)) all (i + 1) (all.drop (i + 1))) = lh (eJ (ae p)) all 0 all) ((0, E0)) 4 (bz (by omega) (by simp only [mI,List.length_replicate,aP,hx,od,List.getElem?_map,az,List.length_map,Int.cast_ofNat_Int,go_sem,reduceIte,zA,zB,zC,zD,zE,zF,reduceCtorEq] <;> rfl)) (⟨Nat.zero_le _, by rw [List.drop_zero, ← FB _ _ hx]; exact XO⟩) ?_
  intro ⟨k, E⟩ ⟨hk, Vl⟩
  try dsimp only at hk Vl
  try dsimp only
  have abM : E.length ≤ (lh (eJ (ae p)) all 0 all).length := by rw [← Vl, List.length_append]; omega
  intro Z2 jD
  simp only [mI,List.length_replicate,aP,hx,od,List.getElem?_map,az,List.length_map,go_sem,reduceIte,zA,zB,zC,zD,zE,zF,reduceCtorEq]
  refine aT (fun nX => ?_) (fun nX => ?_)
  ·have n9 : k < (eJ (ae p) u).length := by simpa using nX
   have fK := aq k (by omega)
   obtain ⟨t, ht⟩ : ∃ t, (eJ (ae p) u)[k]? = some t := ⟨_, List.getElem?_eq_getElem n9⟩
   have hta : t ∈ all := gj u (List.mem_of_getElem? hx) t (List.mem_of_getElem? ht)
   have PV : lg all t = ((lg all t).toNat : Int) := by rcases jz all t with ⟨-, h⟩ | ⟨q, h, -⟩; exact absurd hta h; rw [h]; rfl
   have qE : E.length + 1 ≤ 34359738368 := by omega
   simp only [mI,List.length_replicate,aP,hx,od,List.getElem?_map,az,fK,ht,qE,dy,List.getElem?_map,az,List.length_map,go_sem,reduceIte,zA,zB,zC,zD,zE,zF,reduceCtorEq]
   refine bR tt_ok aN [⟨.n, 0, [], [], []⟩, ⟨.r, 0, [], [0], []⟩, ⟨.n, 0, [], [], []⟩, ⟨.n, 0, [], [], []⟩, ⟨.n, 0, [], [], []⟩, ⟨.n, 0, [], [], []⟩, ⟨.r, 0, [], [4,5], []⟩, ⟨.r, 0, [], [4,5,6], []⟩, ⟨.n, 0, [], [3,4,5,6,7], []⟩, ⟨.n, 0, [], [2,3,4,5,6,7,8], []⟩, ⟨.n, 0, [], [2,3,4,5,6,7,8,9], []⟩, ⟨.w, 0, [], [0,1,2,3,4,5,6,7,8,9,10], []⟩, ⟨.n, 0, [], [0,1,2,3,4,5,6,7,8,9,10,11], []⟩, ⟨.w, 1, [], [0,1,2,3,4,5,6,7,8,9,10,11,12], []⟩] 2 (by kernel_rfl) ?_
   simp only [mI,List.length_replicate,aP,hx,od,List.getElem?_map,az,fK,ht,qE,dy,List.getElem?_map,az,List.length_map,go_sem,reduceIte,zA,zB,zC,zD,zE,zF,reduceCtorEq]
   refine cG (by have h := xv all t ZF; simp only [az] at h; rw [PV] at h; exact h) ?_
   rintro _ rfl
   simp only [mI,List.length_replicate,aP,hx,od,List.getElem?_map,az,fK,ht,qE,dy,List.getElem?_map,az,List.length_map,go_sem,reduceIte,zA,zB,zC,zD,zE,zF,reduceCtorEq]
   refine jD _ ⟨(k + 1, E ++ [(i, (lg all t).toNat)]), ?_, ?_, bz (by omega) (by (simp only [fK,Ug,re,cU,List.length_map,go_sem,reduceIte,zA,zB,zC,zD,zE,zF,reduceCtorEq]))⟩
   ·refine ⟨n9, ?_⟩
    rw [← Vl, List.drop_eq_getElem_cons (List.getElem?_eq_some_iff.1 ht).1, (List.getElem?_eq_some_iff.1 ht).2, List.map_cons, List.append_assoc]; rfl
   ·dsimp only; omega
  ·have I0 : k = (eJ (ae p) u).length := by have := of_decide_eq_false nX; omega
   simp only [mI,List.length_replicate,aP,hx,od,List.getElem?_map,az,List.length_map,go_sem,reduceIte,zA,zB,zC,zD,zE,zF,reduceCtorEq]
   refine bX _ ⟨(i + 1, E), ?_, ?_, bz (by omega) (by (simp only [aP,go_sem,reduceIte,zA,zB,zC,zD,zE,zF,reduceCtorEq]))⟩
   ·refine ⟨bD, ?_⟩
    rw [← Vl, I0, List.drop_length]; rfl
   ·dsimp only; omega
 ·have gw : i = all.length := by have := of_decide_eq_false ik; omega
  have ax : lh (eJ (ae p)) all 0 all = E0 := by rw [← XO, IY _ _ (by omega), List.append_nil]
  have OF : E0.length ≤ 1048576 := by rw [← ax]; exact hE
  simp only [mI,List.length_replicate,List.length_map,go_sem,reduceIte,zA,zB,zC,zD,zE,zF,reduceCtorEq]
  refine pY (k := 2) (vs' := [.slice (List.replicate all.length (str ⟨#[]⟩)), .slice (E0.map cU)]) rfl (by simp [dx, dR, br, kP, List.take_of_length_le]) ?_
  refine Mw tt_ok [10] ?_
  simp only [mI,List.length_replicate,List.length_map,go_sem,reduceIte,zA,zB,zC,zD,zE,zF,reduceCtorEq]
  exact hK _ (by rw [ax] <;> rfl)
end Go.Proofs.YtefbaladomfccaaGreatDoor
end

section
namespace Go.Proofs.YtefbaladomfccaaGreatDoor
open Go.Eng
open Nat renaming reduceAdd → zA, reduceLT → zB, reduceLeDiff → zC, reduceMul → zD, reduceEqDiff → zE, reduceSub → zF
variable [aK]
set_option maxHeartbeats 4000000
set_option maxRecDepth 100000
def F9 (n : Nat) (x : Int) : Bool := decide (0 ≤ x) && decide (x < (n : Int))
def iv (x : Nat) : V := num (x : Int)
theorem I1 (a : V) (r : List V) (h : a.cells.length = 1) : cd (a :: r) 0 1 = true := by unfold cd; simp [h]
theorem LM {a b : List Nat} {i : Nat} (h : a.length ≤ i) (hl : a.length = b.length) : lf xE (a.drop i) (b.drop i) = false := by rw [List.drop_eq_nil_of_le h, List.drop_eq_nil_of_le (by omega)]; rfl
def tM (i : Nat) : List V := (List.replicate i (-1 : Int)).map num
theorem FE (i : Nat) : tM (i + 1) = tM i ++ [.sc (.int .i64 (-1))] := by unfold tM; rw [List.replicate_succ', List.map_append]; rfl
theorem cV (i : Nat) : (tM i).length = i := by unfold tM; simp
theorem FF : tM 0 = [] := rfl
theorem I2 (n t : Nat) : ((List.replicate n (-1 : Int)).set t 0).map num = (tM n).set t (.sc (.int .i64 0)) := by unfold tM; rw [List.map_set]
theorem I3 (n t : Nat) (h : t < n) : (tM n)[t]? = some (.sc (.int .i64 (-1))) := by unfold tM; rw [List.getElem?_map, List.getElem?_replicate, if_pos h]; rfl
theorem tN (a b : Nat) : decide ((a : Int) < (b : Int)) = decide (a < b) := by simp
theorem FG (n : Nat) (E : kD) (hn : n ≤ 1024) (hE : E.length ≤ 4096) (hr : DK E n)  : ∃ r_, (fun w => w = bl (true)) r_ ∧ aR Tryz.prog 134 [ff n E] r_ := by
 refine eu tt_ok [] 49 [.tmp 2] (fn := Tryz.f134) Tryz.func134 rfl Tryz.call134 ⟨rfl, rfl, by simp⟩ fun K hK => ?_
 simp only [ff,DO]
 have cP := fun (i : Nat) (e : Nat × Nat) (h : E[i]? = some e) => hr e (List.mem_of_getElem? h)
 simp only [List.length_map,List.length_replicate,go_sem,reduceIte,zA,zB,zC,zD,zE,zF,reduceCtorEq]
 refine aT (fun jU => ?_) (fun jU => ?_)
 ·exact absurd (of_decide_eq_true jU) (by omega)
 ·simp only [List.length_map,List.length_replicate,go_sem,reduceIte,zA,zB,zC,zD,zE,zF,reduceCtorEq]
  refine aT (fun ik => ?_) (fun ik => ?_)
  ·exact absurd (of_decide_eq_true ik) (by omega)
  ·simp only [List.length_map,List.length_replicate,go_sem,reduceIte,zA,zB,zC,zD,zE,zF,reduceCtorEq]
   refine bk tt_ok [] [4] 1 [1,3,16] (fun vs => ((E.length : Int) - Go.Eng.intOf (vs.headD .undef)).toNat) (fun vs => ∃ i : Nat, vs = [num i] ∧ i ≤ E.length) (by omega) (by simp only [List.length_map,List.length_replicate,go_sem,reduceIte,zA,zB,zC,zD,zE,zF,reduceCtorEq]) (⟨0, rfl, Nat.zero_le _⟩) fun vs hI Z1 bX => ?_
   obtain ⟨i, rfl, hi⟩ := hI
   simp only [List.length_map,List.length_replicate,go_sem,reduceIte,zA,zB,zC,zD,zE,zF,reduceCtorEq]
   refine aT (fun ra => ?_) (fun ra => ?_)
   ·have bD : i < E.length := by simpa using ra
    have aP := aq i (by omega)
    obtain ⟨e, he⟩ : ∃ e, E[i]? = some e := ⟨_, List.getElem?_eq_getElem bD⟩
    obtain ⟨h1, h2⟩ := cP i e he
    simp only [aP,he,List.getElem?_map,cU,List.length_map,List.length_replicate,go_sem,reduceIte,zA,zB,zC,zD,zE,zF,reduceCtorEq]
    refine aT (fun zo => ?_) (fun zo => ?_)
    ·exact absurd (of_decide_eq_true zo) (by omega)
    ·simp only [aP,he,List.getElem?_map,cU,List.length_map,List.length_replicate,go_sem,reduceIte,zA,zB,zC,zD,zE,zF,reduceCtorEq]
     refine aT (fun M3 => ?_) (fun M3 => ?_)
     ·exact absurd (of_decide_eq_true M3) (by omega)
     ·simp only [aP,he,List.getElem?_map,cU,List.length_map,List.length_replicate,go_sem,reduceIte,zA,zB,zC,zD,zE,zF,reduceCtorEq]
      refine aT (fun I4 => ?_) (fun I4 => ?_)
      ·exact absurd (of_decide_eq_true I4) (by omega)
      ·simp only [aP,he,List.getElem?_map,cU,List.length_map,List.length_replicate,go_sem,reduceIte,zA,zB,zC,zD,zE,zF,reduceCtorEq]
       refine aT (fun Ui => ?_) (fun Ui => ?_)
       ·exact absurd (of_decide_eq_true Ui) (by omega)
       ·simp only [aP,he,List.getElem?_map,cU,List.length_map,List.length_replicate,go_sem,reduceIte,zA,zB,zC,zD,zE,zF,reduceCtorEq]
        refine bX _ (b5 (by omega) (by simp only [aP,he,List.getElem?_map,cU,List.length_map,List.length_replicate,go_sem,reduceIte,zA,zB,zC,zD,zE,zF,reduceCtorEq]) ?_ ?_) <;> simp only [dY,lk,reduceIte,zE]
        ·exact ⟨i + 1, rfl, bD⟩
        ·simp only [Go.Eng.intOf,List.headD_cons]; omega
   ·simp only [List.length_map,List.length_replicate,go_sem,reduceIte,zA,zB,zC,zD,zE,zF,reduceCtorEq]
    exact hK _ rfl
theorem vC (n : Nat) (E : kD) (hn : n ≤ 1024) (hE : E.length ≤ 4096) (hr : DK E n) (l : List Int) (hl : l.length ≤ 1048576)  : ∃ r_, (fun w => w = bl (l.all (F9 n))) r_ ∧ aR Tryz.prog 92 [ff n E, .slice (l.map num)] r_ := by
 refine eu tt_ok [] 29 [.tmp 4] (fn := Tryz.f92) Tryz.func92 rfl Tryz.call92 ⟨rfl, rfl, by simp⟩ fun K hK => ?_
 simp only [ff,DO]
 have cP := fun (i : Nat) (e : Nat × Nat) (h : E[i]? = some e) => hr e (List.mem_of_getElem? h)
 simp only [List.length_map,List.length_replicate,go_sem,reduceIte,zA,zB,zC,zD,zE,zF,reduceCtorEq]
 refine bk tt_ok [] [5] 1 [1,2] (fun vs => ((l.length : Int) - Go.Eng.intOf (vs.headD .undef)).toNat) (fun vs => ∃ i : Nat, vs = [num i] ∧ i ≤ l.length ∧ ∀ j < i, ∀ x, l[j]? = some x → F9 n x = true) (by omega) (by simp only [List.length_map,List.length_replicate,go_sem,reduceIte,zA,zB,zC,zD,zE,zF,reduceCtorEq]) (⟨0, rfl, Nat.zero_le _, fun j hj => absurd hj (Nat.not_lt_zero j)⟩) fun vs hI Z1 bX => ?_
 obtain ⟨i, rfl, hi, bp⟩ := hI
 simp only [List.length_map,List.length_replicate,go_sem,reduceIte,zA,zB,zC,zD,zE,zF,reduceCtorEq]
 refine aT (fun jC => ?_) (fun jC => ?_)
 ·have aL : i < l.length := by simpa using jC
  have hw := aq i (by omega)
  obtain ⟨x, hx⟩ : ∃ x, l[i]? = some x := ⟨_, List.getElem?_eq_getElem aL⟩
  simp only [hw,List.getElem?_map,hx,List.length_map,List.length_replicate,go_sem,reduceIte,zA,zB,zC,zD,zE,zF,reduceCtorEq]
  refine bR tt_ok aN [⟨.n, 0, [], [], []⟩, ⟨.n, 0, [], [], []⟩, ⟨.r, 0, [], [], []⟩, ⟨.r, 0, [], [], []⟩, ⟨.n, 0, [], [], []⟩, ⟨.n, 0, [], [], []⟩, ⟨.n, 0, [], [], []⟩, ⟨.n, 0, [], [], []⟩, ⟨.r, 0, [], [], []⟩, ⟨.r, 0, [], [], []⟩, ⟨.n, 0, [], [], []⟩, ⟨.r, 0, [], [], []⟩, ⟨.n, 0, [], [], []⟩, ⟨.n, 0, [], [], []⟩, ⟨.n, 0, [], [], []⟩] 0 (by kernel_rfl) ?_
  simp only [hw,List.getElem?_map,hx,List.length_map,List.length_replicate,go_sem,reduceIte,zA,zB,zC,zD,zE,zF,reduceCtorEq]
  refine aT (fun zU => ?_) (fun zU => ?_)
  ·have ax : l.all (F9 n) = false := List.all_eq_false.2 ⟨x, List.mem_of_getElem? hx, by have := of_decide_eq_true zU; unfold F9; rw [decide_eq_false (by omega)]; simp⟩
   simp only [hw,List.getElem?_map,hx,List.length_map,List.length_replicate,go_sem,reduceIte,zA,zB,zC,zD,zE,zF,reduceCtorEq]
   exact hK _ (congrArg bl ax.symm)
  ·simp only [hw,List.getElem?_map,hx,List.length_map,List.length_replicate,go_sem,reduceIte,zA,zB,zC,zD,zE,zF,reduceCtorEq]
   refine aT (fun mf => ?_) (fun mf => ?_)
   ·have ax : l.all (F9 n) = false := List.all_eq_false.2 ⟨x, List.mem_of_getElem? hx, by have := of_decide_eq_true mf; unfold F9; rw [decide_eq_false (by omega : ¬ x < (n : Int))]; simp⟩
    simp only [hw,List.getElem?_map,hx,List.length_map,List.length_replicate,go_sem,reduceIte,zA,zB,zC,zD,zE,zF,reduceCtorEq]
    exact hK _ (congrArg bl ax.symm)
   ·simp only [hw,List.getElem?_map,hx,List.length_map,List.length_replicate,go_sem,reduceIte,zA,zB,zC,zD,zE,zF,reduceCtorEq]
    refine bX _ (b5 (by omega) (by simp only [hw,List.getElem?_map,hx,List.length_map,List.length_replicate,go_sem,reduceIte,zA,zB,zC,zD,zE,zF,reduceCtorEq]) ?_ ?_) <;> simp only [dY,lk,reduceIte,zE]
    ·refine ⟨i + 1, rfl, aL, fun j hj => ?_⟩
     rcases Nat.lt_or_ge j i with h | h
     ·exact bp j h
     ·obtain rfl : j = i := by omega
      intro z hz
      rw [hx] at hz; cases hz; have e1 := of_decide_eq_false zU; have e2 := of_decide_eq_false mf; unfold F9; rw [decide_eq_true (by omega), decide_eq_true (by omega)]; rfl
    ·simp only [Go.Eng.intOf,List.headD_cons]; omega
 ·have cP : ¬ i < l.length := by simpa using jC
  have ax : l.all (F9 n) = true := List.all_eq_true.2 fun z hz => by obtain ⟨j, hj⟩ := List.mem_iff_getElem?.1 hz; exact bp j (by have := (List.getElem?_eq_some_iff.1 hj).1; omega) z hj
  simp only [List.length_map,List.length_replicate,go_sem,reduceIte,zA,zB,zC,zD,zE,zF,reduceCtorEq]
  refine cF (by have h := FG n E hn hE hr; simp only [ff,DO] at h; exact h) ?_
  rintro _ rfl
  simp only [List.length_map,List.length_replicate,go_sem,reduceIte,zA,zB,zC,zD,zE,zF,reduceCtorEq]
  exact hK _ (congrArg bl ax.symm)
theorem I5 (n : Nat) (E : kD) (hE : E.length ≤ 4096) (a b : Nat) : ∃ r_, (fun w => w = bl (decide ((a, b) ∈ E))) r_ ∧ aR Tryz.prog 94 [ff n E, num (a : Int), num (b : Int)] r_ := by
 refine eu tt_ok [] 33 [.tmp 6] (fn := Tryz.f94) Tryz.func94 rfl Tryz.call94 ⟨rfl, rfl, by simp⟩ fun K hK => ?_
 simp only [ff,DO]
 simp only [List.length_map,go_sem,reduceIte,zA,zB,zC,zD,zE,zF,reduceCtorEq]
 refine bk tt_ok [] [7] 1 [1,2,3] (fun vs => ((E.length : Int) - Go.Eng.intOf (vs.headD .undef)).toNat) (fun vs => ∃ i : Nat, vs = [num i] ∧ i ≤ E.length ∧ ∀ j < i, E[j]? ≠ some (a, b)) (by omega) (by simp only [List.length_map,go_sem,reduceIte,zA,zB,zC,zD,zE,zF,reduceCtorEq]) (⟨0, rfl, Nat.zero_le _, fun j hj => absurd hj (Nat.not_lt_zero j)⟩) fun vs hI Z1 bX => ?_
 obtain ⟨i, rfl, hi, bp⟩ := hI
 simp only [List.length_map,go_sem,reduceIte,zA,zB,zC,zD,zE,zF,reduceCtorEq]
 refine aT (fun na => ?_) (fun na => ?_)
 ·have aL : i < E.length := by simpa using na
  have hw := aq i (by omega)
  obtain ⟨x, hx⟩ : ∃ x, E[i]? = some x := ⟨_, List.getElem?_eq_getElem aL⟩
  simp only [hw,List.getElem?_map,hx,cU,List.length_map,go_sem,reduceIte,zA,zB,zC,zD,zE,zF,reduceCtorEq]
  refine aT (fun z6 => ?_) (fun z6 => ?_)
  ·simp only [hw,List.getElem?_map,hx,cU,List.length_map,go_sem,reduceIte,zA,zB,zC,zD,zE,zF,reduceCtorEq]
   refine aT (fun w8 => ?_) (fun w8 => ?_)
   ·have e1 := of_decide_eq_true z6
    have e2 := of_decide_eq_true w8
    have ax : decide ((a, b) ∈ E) = true := decide_eq_true (by have h3 : x = (a, b) := Prod.ext (by omega) (by omega); rw [← h3]; exact List.mem_of_getElem? hx)
    simp only [hw,List.getElem?_map,hx,cU,List.length_map,go_sem,reduceIte,zA,zB,zC,zD,zE,zF,reduceCtorEq]
    exact hK _ (congrArg bl ax.symm)
   ·have bL : E[i]? ≠ some (a, b) := fun e => by rw [hx] at e; cases e; have := of_decide_eq_false w8; exact this rfl
    simp only [hw,List.getElem?_map,hx,cU,List.length_map,go_sem,reduceIte,zA,zB,zC,zD,zE,zF,reduceCtorEq]
    refine bX _ (b5 (by omega) (by simp only [hw,List.getElem?_map,hx,cU,List.length_map,go_sem,reduceIte,zA,zB,zC,zD,zE,zF,reduceCtorEq]) ?_ ?_) <;> simp only [dY,lk,reduceIte,zE]
    ·refine ⟨i + 1, rfl, aL, fun j hj => ?_⟩
     rcases Nat.lt_or_ge j i with h | h
     ·exact bp j h
     ·obtain rfl : j = i := by omega
      exact bL
    ·simp only [Go.Eng.intOf,List.headD_cons]; omega
  ·have bL : E[i]? ≠ some (a, b) := fun e => by rw [hx] at e; cases e; have := of_decide_eq_false z6; exact this rfl
   simp only [hw,List.getElem?_map,hx,cU,List.length_map,go_sem,reduceIte,zA,zB,zC,zD,zE,zF,reduceCtorEq]
   refine bX _ (b5 (by omega) (by simp only [hw,List.getElem?_map,hx,cU,List.length_map,go_sem,reduceIte,zA,zB,zC,zD,zE,zF,reduceCtorEq]) ?_ ?_) <;> simp only [dY,lk,reduceIte,zE]
   ·refine ⟨i + 1, rfl, aL, fun j hj => ?_⟩
    rcases Nat.lt_or_ge j i with h | h
    ·exact bp j h
    ·obtain rfl : j = i := by omega
     exact bL
   ·simp only [Go.Eng.intOf,List.headD_cons]; omega
 ·have cP : ¬ i < E.length := by simpa using na
  have ax : decide ((a, b) ∈ E) = false := decide_eq_false fun hm => by obtain ⟨j, hj⟩ := List.mem_iff_getElem?.1 hm; exact bp j (by have := (List.getElem?_eq_some_iff.1 hj).1; omega) hj
  simp only [List.length_map,go_sem,reduceIte,zA,zB,zC,zD,zE,zF,reduceCtorEq]
  exact hK _ (congrArg bl ax.symm)
theorem I6 (a b : List Nat) (hl : a.length ≤ 1048576) : ∃ r_, (fun w => w = bl (jy a b)) r_ ∧ aR Tryz.prog 49 [.slice (a.map iv), .slice (b.map iv)] r_ := by
 refine eu tt_ok [] 40 [.tmp 4] (fn := Tryz.f49) Tryz.func49 rfl Tryz.call49 ⟨rfl, rfl, by simp⟩ fun K hK => ?_
 simp only [List.length_map,go_sem,reduceIte,zA,zB,zC,zD,zE,zF,reduceCtorEq]
 refine aT (fun fI => ?_) (fun fI => ?_)
 ·have bL : a.length ≠ b.length := fun e => by rw [e] at fI; simp at fI
  have ax : decide ((a.length : Int) < (b.length : Int)) = jy a b := by unfold jy; rw [if_pos bL, tN]
  simp only [List.length_map,go_sem,reduceIte,zA,zB,zC,zD,zE,zF,reduceCtorEq]
  exact hK _ (congrArg bl ax)
 ·have ob : a.length = b.length := by have := fI; simp at this; omega
  simp only [List.length_map,go_sem,reduceIte,zA,zB,zC,zD,zE,zF,reduceCtorEq]
  refine bk tt_ok [] [5] 0 [0,1,10] (fun vs => ((a.length : Int) - Go.Eng.intOf (vs.headD .undef)).toNat) (fun vs => ∃ i : Nat, vs = [num i] ∧ i ≤ a.length ∧ lf xE a b = lf xE (a.drop i) (b.drop i)) (by omega) (by simp only [List.length_map,go_sem,reduceIte,zA,zB,zC,zD,zE,zF,reduceCtorEq]) (⟨0, rfl, Nat.zero_le _, rfl⟩) fun vs hI Z1 bX => ?_
  obtain ⟨i, rfl, hi, bp⟩ := hI
  simp only [List.length_map,go_sem,reduceIte,zA,zB,zC,zD,zE,zF,reduceCtorEq]
  refine aT (fun P5 => ?_) (fun P5 => ?_)
  ·have aL : i < a.length := by simpa using P5
   have hw := aq i (by omega)
   obtain ⟨x, hx⟩ : ∃ x, a[i]? = some x := ⟨_, List.getElem?_eq_getElem aL⟩
   obtain ⟨y, hy⟩ : ∃ y, b[i]? = some y := ⟨_, List.getElem?_eq_getElem (by omega)⟩
   simp only [hw,List.getElem?_map,hx,hy,iv,List.length_map,go_sem,reduceIte,zA,zB,zC,zD,zE,zF,reduceCtorEq]
   refine bR tt_ok aN [⟨.n, 0, [], [], []⟩, ⟨.n, 0, [], [], []⟩, ⟨.r, 0, [], [], []⟩, ⟨.r, 0, [], [], []⟩, ⟨.n, 0, [], [], []⟩, ⟨.n, 0, [], [], []⟩, ⟨.r, 0, [], [], []⟩, ⟨.r, 0, [], [], []⟩, ⟨.n, 0, [], [], []⟩] 0 (by kernel_rfl) ?_
   simp only [hw,List.getElem?_map,hx,hy,iv,List.length_map,go_sem,reduceIte,zA,zB,zC,zD,zE,zF,reduceCtorEq]
   refine aT (fun rb => ?_) (fun rb => ?_)
   ·have Ke : ¬ x = y := fun e => by rw [e] at rb; simp at rb
    have ax : decide ((x : Int) < (y : Int)) = jy a b := by unfold jy; rw [if_neg (by simpa using ob), bp, z7 hx hy, decide_eq_false Ke, tN]; simp
    simp only [hw,List.getElem?_map,hx,hy,iv,List.length_map,go_sem,reduceIte,zA,zB,zC,zD,zE,zF,reduceCtorEq]
    refine bR tt_ok aN [⟨.n, 0, [], [], []⟩, ⟨.n, 0, [], [], []⟩, ⟨.r, 0, [], [], []⟩, ⟨.r, 0, [], [], []⟩, ⟨.n, 0, [], [], []⟩, ⟨.n, 0, [], [], []⟩, ⟨.r, 0, [], [], []⟩, ⟨.r, 0, [], [], []⟩, ⟨.n, 0, [], [], []⟩, ⟨.n, 0, [], [], []⟩] 0 (by kernel_rfl) ?_
    simp only [hw,List.getElem?_map,hx,hy,iv,List.length_map,go_sem,reduceIte,zA,zB,zC,zD,zE,zF,reduceCtorEq]
    exact hK _ (congrArg bl ax)
   ·have Ke : x = y := by have := rb; simp at this; omega
    simp only [hw,List.getElem?_map,hx,hy,iv,List.length_map,go_sem,reduceIte,zA,zB,zC,zD,zE,zF,reduceCtorEq]
    refine bX _ (b5 (by omega) (by simp only [hw,List.getElem?_map,hx,hy,iv,List.length_map,go_sem,reduceIte,zA,zB,zC,zD,zE,zF,reduceCtorEq]) ?_ ?_) <;> simp only [dY,lk,reduceIte,zE]
    ·exact ⟨i + 1, rfl, aL, by rw [bp, z7 hx hy, Ke]; simp⟩
    ·simp only [Go.Eng.intOf,List.headD_cons]; omega
  ·have cP : ¬ i < a.length := by simpa using P5
   have ax : false = jy a b := by unfold jy; rw [if_neg (by simpa using ob), bp, LM (by omega) ob]
   simp only [List.length_map,go_sem,reduceIte,zA,zB,zC,zD,zE,zF,reduceCtorEq]
   exact hK _ (congrArg bl ax)
theorem I7 (n : Nat) (E : kD) (hn : n ≤ 1024) (hE : E.length ≤ 4096) (hr : DK E n) (t : Nat) (ht : t < n)  : ∃ r_, (fun w => ∃ d : List Int, w = .slice (d.map num) ∧ M0 E t n d) r_ ∧ aR Tryz.prog 93 [ff n E, num (t : Int)] r_ := by
 refine eu tt_ok [16] 65 [.tmp 4] (fn := Tryz.f93) Tryz.func93 rfl Tryz.call93 ⟨rfl, rfl, by simp⟩ fun K hK => ?_
 simp only [ff,DO]
 have cP := fun (i : Nat) (e : Nat × Nat) (h : E[i]? = some e) => hr e (List.mem_of_getElem? h)
 simp only [List.length_map,List.length_replicate,go_sem,reduceIte,zA,zB,zC,zD,zE,zF,reduceCtorEq]
 refine dk tt_ok [16] (fun a : Nat => [(1, num (t : Int)), (2, .ptr 0 0), (5, .ms 1 a 0 a), (6, num a)]) (fun a : Nat => [.box [.slice (List.replicate n (str ⟨#[]⟩)), .slice (E.map cU)], .rows a 1 (tM a)]) (fun a => n - a) (fun a => a ≤ n) (0) 2 (bz (by omega) (by simp only [List.length_map,List.length_replicate,FF,Int.cast_ofNat_Int,go_sem,reduceIte,zA,zB,zC,zD,zE,zF,reduceCtorEq] <;> rfl)) (Nat.zero_le _) ?_
 intro i hi
 try dsimp only
 intro Z1 bX
 simp only [List.length_map,List.length_replicate,go_sem,reduceIte,zA,zB,zC,zD,zE,zF,reduceCtorEq]
 refine aT (fun me => ?_) (fun me => ?_)
 ·have bD : i < n := by simpa using me
  have aP := aq i (by omega)
  have qE : i + 1 ≤ 34359738368 := by omega
  simp only [aP,qE,I1,cV,List.length_map,List.length_replicate,go_sem,reduceIte,zA,zB,zC,zD,zE,zF,reduceCtorEq]
  refine bX _ ⟨i + 1, ?_, ?_, bz (by omega) (by (simp only [aP,FE,cV,re,go_sem,reduceIte,zA,zB,zC,zD,zE,zF,reduceCtorEq]))⟩
  ·exact bD
  ·omega
 ·have jg : n = i := by have := of_decide_eq_false me; omega
  subst jg
  have iT : (t : Int) < (n : Int) := by omega
  have DP := I3 n t ht
  simp only [iT,DP,cV,List.length_map,List.length_replicate,go_sem,reduceIte,zA,zB,zC,zD,zE,zF,reduceCtorEq]
  refine dk tt_ok [16] (fun a : Nat × List Int => [(2, .ptr 0 0), (5, .ms 1 n 0 n), (7, num a.1)]) (fun a : Nat × List Int => [.box [.slice (List.replicate n (str ⟨#[]⟩)), .slice (E.map cU)], .rows n 1 (a.2.map num)]) (fun a => n - a.1) (fun a => a.1 ≤ n ∧ LH E t n a.1 a.2) ((0, (List.replicate n (-1 : Int)).set t 0)) 2 (bz (by omega) (by simp only [iT,DP,cV,List.length_map,List.length_replicate,I2,setRow,cg,V.cells,Int.cast_ofNat_Int,go_sem,reduceIte,zA,zB,zC,zD,zE,zF,reduceCtorEq] <;> rfl)) (⟨Nat.zero_le _, LH.init ht⟩) ?_
  intro ⟨k, d0⟩ ⟨hk, LL⟩
  try dsimp only at hk LL
  try dsimp only
  intro Z2 jD
  simp only [iT,DP,cV,List.length_map,List.length_replicate,go_sem,reduceIte,zA,zB,zC,zD,zE,zF,reduceCtorEq]
  refine aT (fun Cv => ?_) (fun Cv => ?_)
  ·have n9 : k < n := by simpa using Cv
   have fK := aq k (by omega)
   simp only [iT,DP,cV,fK,List.length_map,List.length_replicate,go_sem,reduceIte,zA,zB,zC,zD,zE,zF,reduceCtorEq]
   refine dk tt_ok [16] (fun b : Nat × List Int => [(2, .ptr 0 0), (5, .ms 1 n 0 n), (7, num k), (8, num b.1)]) (fun b : Nat × List Int => [.box [.slice (List.replicate n (str ⟨#[]⟩)), .slice (E.map cU)], .rows n 1 (b.2.map num)]) (fun b => E.length - b.1) (fun b => b.1 ≤ E.length ∧ Fy E t n k b.1 b.2) ((0, d0)) 2 (bz (by omega) (by simp only [iT,DP,cV,fK,List.length_map,List.length_replicate,Int.cast_ofNat_Int,go_sem,reduceIte,zA,zB,zC,zD,zE,zF,reduceCtorEq] <;> rfl)) (⟨Nat.zero_le _, LL.begin⟩) ?_
   intro ⟨j, d⟩ ⟨hj, hR⟩
   try dsimp only at hj hR
   try dsimp only
   have hZ := hR.len
   intro Z3 Ca
   simp only [iT,DP,cV,fK,List.length_map,List.length_replicate,go_sem,reduceIte,zA,zB,zC,zD,zE,zF,reduceCtorEq]
   refine aT (fun P6 => ?_) (fun P6 => ?_)
   ·have iM : j < E.length := by simpa using P6
    have ml := aq j (by omega)
    obtain ⟨e, he⟩ : ∃ e, E[j]? = some e := ⟨_, List.getElem?_eq_getElem iM⟩
    obtain ⟨h1, h2⟩ := cP j e he
    obtain ⟨xb, DQ⟩ : ∃ x, d[e.2]? = some x := ⟨_, List.getElem?_eq_getElem (by rw [hR.len]; exact h2)⟩
    obtain ⟨xa, M4⟩ : ∃ x, d[e.1]? = some x := ⟨_, List.getElem?_eq_getElem (by rw [hR.len]; exact h1)⟩
    have i2 : ((e.2 : Nat) : Int) < (n : Int) := by omega
    have i1 : ((e.1 : Nat) : Int) < (n : Int) := by omega
    simp only [iT,DP,cV,fK,ml,he,DQ,M4,i1,i2,hZ,List.getElem?_map,cU,List.length_map,List.length_replicate,go_sem,reduceIte,zA,zB,zC,zD,zE,zF,reduceCtorEq]
    refine aT (fun Cw => ?_) (fun Cw => ?_)
    ·simp only [iT,DP,cV,fK,ml,he,DQ,M4,i1,i2,hZ,List.getElem?_map,cU,List.length_map,List.length_replicate,go_sem,reduceIte,zA,zB,zC,zD,zE,zF,reduceCtorEq]
     refine aT (fun tE => ?_) (fun tE => ?_)
     ·have hxk : xb = (k : Int) := of_decide_eq_true Cw
      subst hxk
      obtain ⟨d2, yb⟩ : ∃ d2, d2 = d.set e.1 ((k + 1 : Nat) : Int) := ⟨_, rfl⟩
      have zZ : Fy E t n k (j + 1) d2 := by rw [yb]; exact hR.yes he M4 DQ (of_decide_eq_true tE)
      simp only [iT,DP,cV,fK,ml,he,DQ,M4,i1,i2,hZ,List.getElem?_map,cU,List.length_map,List.length_replicate,go_sem,reduceIte,zA,zB,zC,zD,zE,zF,reduceCtorEq]
      refine Ca _ ⟨(j + 1, d2), ?_, ?_, bz (by omega) (by (simp [ml, yb, pD, lk, cA, dK, ah, aB, List.map_set, setRow, cg, V.cells]))⟩
      ·exact ⟨iM, zZ⟩
      ·dsimp only; omega
     ·obtain ⟨d2, yb⟩ : ∃ d2, d2 = d := ⟨_, rfl⟩
      have zZ : Fy E t n k (j + 1) d2 := by rw [yb]; exact hR.no he M4 DQ (fun h => by have := of_decide_eq_false tE; exact this h.2)
      simp only [iT,DP,cV,fK,ml,he,DQ,M4,i1,i2,hZ,List.getElem?_map,cU,List.length_map,List.length_replicate,go_sem,reduceIte,zA,zB,zC,zD,zE,zF,reduceCtorEq]
      refine Ca _ ⟨(j + 1, d2), ?_, ?_, bz (by omega) (by (simp [ml, yb, pD, lk, cA, dK, ah, aB, List.map_set, setRow, cg, V.cells]))⟩
      ·exact ⟨iM, zZ⟩
      ·dsimp only; omega
    ·obtain ⟨d2, yb⟩ : ∃ d2, d2 = d := ⟨_, rfl⟩
     have zZ : Fy E t n k (j + 1) d2 := by rw [yb]; exact hR.no he M4 DQ (fun h => by have := of_decide_eq_false Cw; exact this h.1)
     simp only [iT,DP,cV,fK,ml,he,DQ,M4,i1,i2,hZ,List.getElem?_map,cU,List.length_map,List.length_replicate,go_sem,reduceIte,zA,zB,zC,zD,zE,zF,reduceCtorEq]
     refine Ca _ ⟨(j + 1, d2), ?_, ?_, bz (by omega) (by (simp [ml, yb, pD, lk, cA, dK, ah, aB, List.map_set, setRow, cg, V.cells]))⟩
     ·exact ⟨iM, zZ⟩
     ·dsimp only; omega
   ·have th : j = E.length := by have := of_decide_eq_false P6; omega
    simp only [iT,DP,cV,fK,List.length_map,List.length_replicate,go_sem,reduceIte,zA,zB,zC,zD,zE,zF,reduceCtorEq]
    refine jD _ ⟨(k + 1, d), ?_, ?_, bz (by omega) (by (simp only [fK,go_sem,reduceIte,zA,zB,zC,zD,zE,zF,reduceCtorEq]))⟩
    ·exact ⟨n9, hR.done (by omega)⟩
    ·dsimp only; omega
  ·have gF : k = n := by have := of_decide_eq_false Cv; omega
   rw [gF] at LL
   have XP := LL.end_ hr ht
   have Qz := LL.len
   simp only [iT,DP,cV,List.length_map,List.length_replicate,go_sem,reduceIte,zA,zB,zC,zD,zE,zF,reduceCtorEq]
   refine o0 (v' := .slice (d0.map num)) 5 (by decide) rfl (by simp [lk, dR, br]; exact ⟨by omega, List.take_of_length_le (by simp; omega)⟩) ?_
   refine Mw tt_ok [16] ?_
   simp only [iT,DP,cV,List.length_map,List.length_replicate,go_sem,reduceIte,zA,zB,zC,zD,zE,zF,reduceCtorEq]
   exact hK _ ⟨_, rfl, XP⟩
end Go.Proofs.YtefbaladomfccaaGreatDoor
end

section
namespace Go.Proofs.YtefbaladomfccaaGreatDoor
open Go.Eng
open Nat renaming reduceAdd → zA, reduceLT → zB, reduceLeDiff → zC, reduceMul → zD, reduceEqDiff → zE, reduceSub → zF
variable [aK]
set_option maxHeartbeats 4000000
set_option maxRecDepth 100000
def P7 (E : kD) (d : List Int) (a : Nat) (m : Int) (k : Nat) (nx : Int) : Prop := (nx = -1 ∧ ∀ j, k ≤ j → ¬ DL E d a m j) ∨ ∃ q : Nat, nx = (q : Int) ∧ k ≤ q ∧ DL E d a m q ∧ ∀ j, k ≤ j → DL E d a m j → q ≤ j
theorem P7.no {E : kD} {d : List Int} {a : Nat} {m : Int} {i : Nat} {nx : Int} (h : P7 E d a m (i + 1) nx) (hn : ¬ DL E d a m i) : P7 E d a m i nx := by
 rcases h with ⟨h1, h2⟩ | ⟨q, h1, h2, h3, h4⟩
 ·refine .inl ⟨h1, fun j hj hs => ?_⟩
  rcases Nat.lt_or_ge i j with aL | cP
  ·exact h2 j aL hs
  ·obtain rfl : j = i := by omega
   exact hn hs
 ·refine .inr ⟨q, h1, by omega, h3, fun j hj hs => ?_⟩
  rcases Nat.lt_or_ge i j with aL | cP
  ·exact h4 j aL hs
  ·obtain rfl : j = i := by omega
   exact absurd hs hn
theorem P7.yes {E : kD} {d : List Int} {a : Nat} {m : Int} {i : Nat} (hs : DL E d a m i) : P7 E d a m i (i : Int) := .inr ⟨i, rfl, Nat.le_refl _, hs, fun _ hj _ => hj⟩
structure LN (E : kD) (t n : Nat) (d : List Int) (from_ : Nat) (a : Nat) (m : Nat) (O : List Nat) : Prop where
 lt : a < n
 at_ : d[a]? = some (m : Int)
 last : ∃ O', O = O' ++ [a]
 len : O.length + m ≤ n
 go : ∀ P, LW E t a P → LW E t from_ (O.dropLast ++ P)
theorem LN.one {E : kD} {t n : Nat} {d : List Int} (h : M0 E t n d) (hE : DK E n) (ht : t < n) {i : Nat} {x : Int} (hi : i < n) (hx : d[i]? = some x) (h0 : ¬ x < 0) : ∃ m : Nat, x = (m : Int) ∧ LN E t n d i i m [i] := by
 rcases h.at_ i x hx with ⟨h1, -⟩ | ⟨m, rfl, ⟨P, h1, h2⟩, h3⟩
 ·omega
 ·refine ⟨m, rfl, hi, hx, ⟨[], rfl⟩, ?_, fun P hP => hP⟩
  obtain ⟨Q, q1, q2⟩ := h1.bound hE ht
  have := h3 Q q1
  simp only [List.length_singleton]; omega
theorem LN.next {E : kD} {t n : Nat} {d : List Int} (h : M0 E t n d) (hE : DK E n) {s a m q : Nat} {O : List Nat} (w : LN E t n d s a m O) (tV : a ≠ t) (hq : DL E d a ((m : Int) - 1) q) (kC : ∀ j, DL E d a ((m : Int) - 1) j → q ≤ j) : ∃ k : Nat, m = k + 1 ∧ LN E t n d s q k (O ++ [q]) := by
 obtain ⟨hm, -⟩ := h.step hE w.at_ tV
 have hl := w.len
 refine ⟨m - 1, by omega, (hE _ hq.2).2, by rw [hq.1]; congr 1; omega, ⟨O, rfl⟩, by simp only [List.length_append,List.length_singleton]; omega, fun P hP => ?_⟩
 obtain ⟨O', rfl⟩ := w.last
 have := w.go _ (h.least hE w.at_ tV hq kC hP)
 rw [List.dropLast_concat] at this ⊢
 rw [List.append_assoc]; exact this
theorem LN.done {E : kD} {t n : Nat} {d : List Int} {s m : Nat} {O : List Nat} (w : LN E t n d s t m O) : LW E t s O := by
 obtain ⟨O', rfl⟩ := w.last
 have := w.go _ LW.one
 rwa [List.dropLast_concat] at this
theorem Uj (l : List Nat) (a : Nat) : (l ++ [a]).map iv = l.map iv ++ [num (a : Int)] := by rw [List.map_append]; rfl
theorem I8 (n : Nat) (E : kD) (hn : n ≤ 1024) (hE : E.length ≤ 4096) (hr : DK E n) (from_ to : Nat) (hf : from_ < n) (ht : to < n)  : ∃ r_, (fun w => ∃ P : List Nat, w = .slice (P.map iv) ∧ IW E to from_ P) r_ ∧ aR Tryz.prog 48 [ff n E, num (from_ : Int), num (to : Int)] r_ := by
 refine eu tt_ok [17] 63 [.tmp 6] (fn := Tryz.f48) Tryz.func48 rfl Tryz.call48 ⟨rfl, rfl, by simp⟩ fun K hK => ?_
 simp only [ff,DO]
 have cP := fun (i : Nat) (e : Nat × Nat) (h : E[i]? = some e) => hr e (List.mem_of_getElem? h)
 have tO : ∀ (mem : List aC) (ks : List (Nat × Nat)), eH mem ks (bl true) = mem := fun _ _ => rfl
 simp only [List.length_map,List.length_replicate,tO,go_sem,reduceIte,zA,zB,zC,zD,zE,zF,reduceCtorEq]
 refine cF (by have h := vC n E hn hE hr [(from_ : Int), (to : Int)] (by simp); simp only [ff,DO,List.map_cons,List.map_nil] at h; rw [show [(from_ : Int), (to : Int)].all (F9 n) = true by simp [F9]; omega] at h; exact h) ?_
 rintro _ rfl
 simp only [List.length_map,List.length_replicate,tO,go_sem,reduceIte,zA,zB,zC,zD,zE,zF,reduceCtorEq]
 refine cF (by have h := I7 n E hn hE hr to ht; simp only [ff,DO] at h; exact h) ?_
 rintro _ ⟨d, rfl, hD⟩
 have hZ := hD.len
 have iF : (from_ : Int) < (n : Int) := by omega
 obtain ⟨x0, j9⟩ : ∃ x, d[from_]? = some x := ⟨_, List.getElem?_eq_getElem (by omega)⟩
 simp only [iF,j9,hZ,List.getElem?_map,List.length_map,List.length_replicate,tO,go_sem,reduceIte,zA,zB,zC,zD,zE,zF,reduceCtorEq]
 refine aT (fun nV => ?_) (fun nV => ?_)
 ·have ua := of_decide_eq_true nV
  have cT : IW E to from_ [] := .inl ⟨rfl, by rcases hD.at_ _ _ j9 with ⟨-, h⟩ | ⟨m, h, -⟩; exact h; omega⟩
  have ax : ∃ P : List Nat, (V.slice [] : V) = .slice (P.map iv) ∧ IW E to from_ P := ⟨[], rfl, cT⟩
  simp only [iF,j9,hZ,List.getElem?_map,List.length_map,List.length_replicate,tO,go_sem,reduceIte,zA,zB,zC,zD,zE,zF,reduceCtorEq]
  exact hK _ ax
 ·obtain ⟨m0, hm0, hW0⟩ := LN.one hD hr ht hf j9 (of_decide_eq_false nV)
  simp only [iF,j9,hZ,List.getElem?_map,List.length_map,List.length_replicate,tO,go_sem,reduceIte,zA,zB,zC,zD,zE,zF,reduceCtorEq]
  refine dk tt_ok [17] (fun x : Nat × List Nat × Nat × Nat => [(2, num (to : Int)), (3, .ptr 0 0), (7, .slice (d.map num)), (8, .ms 2 x.2.2.1 0 x.2.1.length), (9, num x.1)]) (fun x : Nat × List Nat × Nat × Nat => [.box [.slice (List.replicate n (str ⟨#[]⟩)), .slice (E.map cU)], .rows 0 1 [num (from_ : Int), num (to : Int)], .rows x.2.2.1 1 (x.2.1.map iv)]) (fun x => x.2.2.2) (fun x => LN E to n d from_ x.1 x.2.2.2 x.2.1) ((from_, [from_], 0, m0)) 3 (bz (by omega) (by simp only [iF,j9,hZ,List.getElem?_map,List.length_map,List.length_replicate,tO,List.map_cons,List.map_nil,iv,List.length_cons,List.length_nil,Nat.zero_add,Int.cast_ofNat_Int,go_sem,reduceIte,zA,zB,zC,zD,zE,zF,reduceCtorEq] <;> rfl)) (hW0) ?_
  intro ⟨a, O, w, m⟩ hW
  try dsimp only at hW
  try dsimp only
  have Zy := hW.len
  have haL := hW.lt
  have I9 := hW.at_
  have iA : (a : Int) < (n : Int) := by omega
  intro Z1 bX
  simp only [iF,j9,hZ,List.getElem?_map,List.length_map,List.length_replicate,tO,go_sem,reduceIte,zA,zB,zC,zD,zE,zF,reduceCtorEq]
  refine aT (fun fp => ?_) (fun fp => ?_)
  ·have tV : a ≠ to := fun e => by rw [e] at fp; simp at fp
   obtain ⟨hmp, j0, XJ⟩ := hD.step hr I9 tV
   have rF : IntKind.i64.wrap ((n : Int) - 1) = (n : Int) - 1 := IntWalk.i64_in _ (by omega)
   simp only [iF,j9,hZ,List.getElem?_map,rF,List.length_map,List.length_replicate,tO,go_sem,reduceIte,zA,zB,zC,zD,zE,zF,reduceCtorEq]
   refine bk tt_ok [17] [10,11] 3 [2,3,6,7,8,9,17,25,29,30,31,32,33,34,35] (fun vs => (Go.Eng.intOf ((vs.drop 1).headD .undef) + 1).toNat) (fun vs => ∃ (nx : Int) (k : Nat), vs = [num nx, num ((k : Int) - 1)] ∧ k ≤ n ∧ P7 E d a ((m : Int) - 1) k nx) (by omega) (by simp only [iF,j9,hZ,List.getElem?_map,rF,List.length_map,List.length_replicate,tO,go_sem,reduceIte,zA,zB,zC,zD,zE,zF,reduceCtorEq]) (⟨-1, n, rfl, Nat.le_refl _, .inl ⟨rfl, fun j hj hs => by have := (List.getElem?_eq_some_iff.1 hs.1).1; rw [hZ] at this; omega⟩⟩) fun vs hI Z2 jD => ?_
   obtain ⟨nx, k, rfl, hk, XQ⟩ := hI
   simp only [iF,j9,hZ,List.getElem?_map,rF,List.length_map,List.length_replicate,tO,go_sem,reduceIte,zA,zB,zC,zD,zE,zF,reduceCtorEq]
   refine aT (fun lD => ?_) (fun lD => ?_)
   ·obtain ⟨i, rfl⟩ : ∃ i, k = i + 1 := ⟨k - 1, by have := of_decide_eq_true lD; omega⟩
    have CX : (((i + 1 : Nat) : Int) - 1) = (i : Int) := by omega
    have aP : IntKind.i64.wrap ((i : Int) - 1) = (i : Int) - 1 := IntWalk.i64_in _ (by omega)
    have eV : IntKind.i64.wrap ((m : Int) - 1) = (m : Int) - 1 := IntWalk.i64_in _ (by omega)
    have iI : (i : Int) < (n : Int) := by omega
    obtain ⟨xi, Du⟩ : ∃ x, d[i]? = some x := ⟨_, List.getElem?_eq_getElem (by omega)⟩
    simp only [iF,j9,hZ,List.getElem?_map,rF,CX,aP,eV,iI,iA,Du,I9,hZ,List.getElem?_map,List.length_map,List.length_replicate,tO,go_sem,reduceIte,zA,zB,zC,zD,zE,zF,reduceCtorEq]
    refine bR tt_ok aN [⟨.n, 0, [], [], []⟩, ⟨.n, 0, [], [], []⟩, ⟨.r, 0, [], [], []⟩, ⟨.r, 0, [], [], []⟩, ⟨.n, 0, [], [], []⟩, ⟨.n, 0, [], [], []⟩, ⟨.r, 0, [], [], []⟩, ⟨.r, 0, [], [], []⟩, ⟨.n, 0, [], [], []⟩, ⟨.n, 0, [], [], []⟩, ⟨.n, 0, [], [], []⟩, ⟨.r, 0, [], [], []⟩, ⟨.n, 0, [], [], []⟩, ⟨.n, 0, [], [], []⟩, ⟨.n, 0, [], [], []⟩, ⟨.n, 0, [], [], []⟩] 0 (by kernel_rfl) ?_
    simp only [iF,j9,hZ,List.getElem?_map,rF,CX,aP,eV,iI,iA,Du,I9,hZ,List.getElem?_map,List.length_map,List.length_replicate,tO,go_sem,reduceIte,zA,zB,zC,zD,zE,zF,reduceCtorEq]
    refine aT (fun xw => ?_) (fun xw => ?_)
    ·simp only [iF,j9,hZ,List.getElem?_map,rF,CX,aP,eV,iI,iA,Du,I9,hZ,List.getElem?_map,List.length_map,List.length_replicate,tO,go_sem,reduceIte,zA,zB,zC,zD,zE,zF,reduceCtorEq]
     refine cG (by have h := I5 n E hE a i; simp only [ff,DO] at h; exact h) ?_
     rintro _ rfl
     simp only [iF,j9,hZ,List.getElem?_map,rF,CX,aP,eV,iI,iA,Du,I9,hZ,List.getElem?_map,List.length_map,List.length_replicate,tO,go_sem,reduceIte,zA,zB,zC,zD,zE,zF,reduceCtorEq]
     refine aT (fun P8 => ?_) (fun P8 => ?_)
     ·have VK : xi = (m : Int) - 1 := of_decide_eq_true xw
      have KF : DL E d a ((m : Int) - 1) i := ⟨by rw [Du, VK], of_decide_eq_true P8⟩
      have Ja := P7.yes KF
      simp only [iF,j9,hZ,List.getElem?_map,rF,CX,aP,eV,iI,iA,Du,I9,hZ,List.getElem?_map,List.length_map,List.length_replicate,tO,go_sem,reduceIte,zA,zB,zC,zD,zE,zF,reduceCtorEq]
      refine jD _ (b5 (by omega) (by simp only [iF,j9,hZ,List.getElem?_map,rF,CX,aP,eV,iI,iA,Du,I9,hZ,List.getElem?_map,List.length_map,List.length_replicate,tO,go_sem,reduceIte,zA,zB,zC,zD,zE,zF,reduceCtorEq]) ?_ ?_) <;> simp only [dY,lk,reduceIte,zE]
      ·exact ⟨_, i, rfl, by omega, Ja⟩
      ·simp only [kd,Go.Eng.intOf,List.headD_cons]; omega
     ·have AB : ¬ DL E d a ((m : Int) - 1) i := fun h => of_decide_eq_false P8 h.2
      have Ja := XQ.no AB
      simp only [iF,j9,hZ,List.getElem?_map,rF,CX,aP,eV,iI,iA,Du,I9,hZ,List.getElem?_map,List.length_map,List.length_replicate,tO,go_sem,reduceIte,zA,zB,zC,zD,zE,zF,reduceCtorEq]
      refine jD _ (b5 (by omega) (by simp only [iF,j9,hZ,List.getElem?_map,rF,CX,aP,eV,iI,iA,Du,I9,hZ,List.getElem?_map,List.length_map,List.length_replicate,tO,go_sem,reduceIte,zA,zB,zC,zD,zE,zF,reduceCtorEq]) ?_ ?_) <;> simp only [dY,lk,reduceIte,zE]
      ·exact ⟨_, i, rfl, by omega, Ja⟩
      ·simp only [kd,Go.Eng.intOf,List.headD_cons]; omega
    ·have AB : ¬ DL E d a ((m : Int) - 1) i := fun h => by have h1 := h.1; rw [Du] at h1; cases h1; have := of_decide_eq_false xw; exact this rfl
     have Ja := XQ.no AB
     simp only [iF,j9,hZ,List.getElem?_map,rF,CX,aP,eV,iI,iA,Du,I9,hZ,List.getElem?_map,List.length_map,List.length_replicate,tO,go_sem,reduceIte,zA,zB,zC,zD,zE,zF,reduceCtorEq]
     refine jD _ (b5 (by omega) (by simp only [iF,j9,hZ,List.getElem?_map,rF,CX,aP,eV,iI,iA,Du,I9,hZ,List.getElem?_map,List.length_map,List.length_replicate,tO,go_sem,reduceIte,zA,zB,zC,zD,zE,zF,reduceCtorEq]) ?_ ?_) <;> simp only [dY,lk,reduceIte,zE]
     ·exact ⟨_, i, rfl, by omega, Ja⟩
     ·simp only [kd,Go.Eng.intOf,List.headD_cons]; omega
   ·have Kb : k = 0 := by have := of_decide_eq_false lD; omega
    subst Kb
    rcases XQ with ⟨-, S8⟩ | ⟨q, rfl, -, hq, kC⟩
    ·exact absurd XJ (S8 j0 (Nat.zero_le _))
    obtain ⟨m2, Kc, hW2⟩ := hW.next hD hr tV hq (fun j hj => kC j (Nat.zero_le _) hj)
    have qE : O.length + 1 ≤ 34359738368 := by omega
    simp only [iF,j9,hZ,List.getElem?_map,rF,qE,I1,List.length_map,List.length_replicate,tO,go_sem,reduceIte,zA,zB,zC,zD,zE,zF,reduceCtorEq]
    refine bX _ ⟨(q, O ++ [q], w + 1, m2), ?_, ?_, bz (by omega) (by (simp only [Uj,re,List.length_map,iv,go_sem,reduceIte,zA,zB,zC,zD,zE,zF,reduceCtorEq]))⟩
    ·exact hW2
    ·dsimp only; omega
  ·have tV : a = to := by have := fp; simp at this; omega
   subst tV
   have hlw := hW.done
   have ax : ∃ P : List Nat, (V.slice (O.map iv) : V) = .slice (P.map iv) ∧ IW E a from_ P := ⟨O, rfl, .inr hlw⟩
   simp only [iF,j9,hZ,List.getElem?_map,List.length_map,List.length_replicate,tO,go_sem,reduceIte,zA,zB,zC,zD,zE,zF,reduceCtorEq]
   refine o0 (v' := .slice (O.map iv)) 8 (by decide) rfl (by first | (simp only [dR,br,List.getElem?_cons_succ,List.getElem?_cons_zero]; simp; exact List.take_of_length_le (by simp)) | (simp [lk, dR, br]; exact List.take_of_length_le (by simp)) | simp [lk, dR, br, List.take_of_length_le]) ?_
   refine Mw tt_ok [17] ?_
   simp only [iF,j9,hZ,List.getElem?_map,List.length_map,List.length_replicate,tO,go_sem,reduceIte,zA,zB,zC,zD,zE,zF,reduceCtorEq]
   exact hK _ ax
theorem FH (n : Nat) (E : kD) (hn : n ≤ 1024) (hE : E.length ≤ 4096) (hr : DK E n) (from_ : Nat)  : ∃ r_, (fun w => w = .slice []) r_ ∧ aR Tryz.prog 48 [ff n E, num (from_ : Int), num (-1)] r_ := by
 refine eu tt_ok [] 63 [.tmp 6] (fn := Tryz.f48) Tryz.func48 rfl Tryz.call48 ⟨rfl, rfl, by simp⟩ fun K hK => ?_
 simp only [ff,DO]
 have cP := fun (i : Nat) (e : Nat × Nat) (h : E[i]? = some e) => hr e (List.mem_of_getElem? h)
 simp only [List.length_map,List.length_replicate,go_sem,reduceIte,zA,zB,zC,zD,zE,zF,reduceCtorEq]
 refine cF (by have h := vC n E hn hE hr [(from_ : Int), -1] (by simp); simp only [ff,DO,List.map_cons,List.map_nil] at h; rw [show [(from_ : Int), -1].all (F9 n) = false by simp [F9]] at h; exact h) ?_
 rintro _ rfl
 simp only [List.length_map,List.length_replicate,go_sem,reduceIte,zA,zB,zC,zD,zE,zF,reduceCtorEq]
 exact hK _ rfl
end Go.Proofs.YtefbaladomfccaaGreatDoor
end

section
namespace Go.Proofs.YtefbaladomfccaaGreatDoor
open Go.Eng
open Nat renaming reduceAdd → zA, reduceLT → zB, reduceLeDiff → zC, reduceMul → zD, reduceEqDiff → zE, reduceSub → zF
variable [aK]
set_option maxHeartbeats 4000000
set_option maxRecDepth 100000
theorem Jb (ts : List Ty) (k : Int) (m n : ByteArray) (a : List Ty) (b : List Fd) : cB ts ++ [V.agg [num k, str m, str n, .slice (cB a), .slice (j6 b)]] = cB (ts ++ [.mk k m n a b]) := by simp [bH, du]
theorem oa (a b c d e : V) (r : List V) : cd (.agg [a, b, c, d, e] :: r) 0 5 = true := rfl
theorem gL (ts : List Ty) (n : Nat) : cd (ts.map du) n 5 = true := by rw [← bH]; exact kq ts n
theorem Uk {α β : Type} (f : α → β) (l : List α) (a : α) : (l ++ [a]).map f = l.map f ++ [f a] := by simp
theorem Ul {α : Type} (l : List α) (a : α) : (l ++ [a]).length = l.length + 1 := by simp
def pq (e : Ex) (j : Nat) : List Ty := e.types ++ (e.labels.take j).map Lb.ty
def Ex.own (e : Ex) : List Ty := if e.kind = 8 then pq e e.labels.length else e.types
theorem FI (e : Ex) : pq e 0 = e.types := by simp [pq]
theorem FJ {e : Ex} {j : Nat} {l : Lb} (h : e.labels[j]? = some l) : pq e (j + 1) = pq e j ++ [l.ty] := by unfold pq; rw [List.take_add_one, h]; simp
theorem DR (e : Ex) (j : Nat) : (pq e j).length ≤ e.types.length + e.labels.length := by unfold pq; rw [List.length_append, List.length_map, List.length_take]; omega
theorem P9 (e : Ex) : e.own.length ≤ e.types.length + e.labels.length := by
 unfold Ex.own; split
 ·exact DR e _
 ·omega
theorem Qa {e : Ex} {t : Ty} (h : t ∈ e.own) : t.wt ≤ e.wt := by
 unfold Ex.own pq at h
 have key : ∀ {t : Ty}, t ∈ e.types ++ (e.labels.take e.labels.length).map Lb.ty → t.wt ≤ e.wt := fun {t} h => by
  rcases List.mem_append.1 h with h | h
  ·exact Nat.le_of_lt (Ex.Dj h)
  ·obtain ⟨l, hl, rfl⟩ := List.mem_map.1 h
   have := Ex.HB (List.mem_of_mem_take hl)
   unfold Lb.wt at this; omega
 split at h
 ·exact key h
 ·exact Nat.le_of_lt (Ex.Dj h)
theorem FK (t : Ty) (hl : t.args.length ≤ 1048576) (W0 : t.aO.length ≤ 1048576) : ∃ r_, (fun w => w = .slice (cB t.parts)) r_ ∧ aR Tryz.prog 129 [du t] r_ := by
 refine eu tt_ok [] 26 [.tmp 2] (fn := Tryz.f129) Tryz.func129 rfl Tryz.call129 ⟨rfl, rfl, by simp⟩ fun K hK => ?_
 obtain ⟨k, m, n, ts, fs⟩ := t
 simp only [Ty.args,Ty.aO] at hl W0
 simp only [du]
 have oA : ts.length ≤ 34359738368 := by omega
 simp only [bu,aI,kq,oA,go_sem,reduceIte,zA,zB,zC,zD,zE,zF,reduceCtorEq]
 refine dk tt_ok [] (fun i : Nat => [(1, .ptr 0 0), (3, .ms 1 (i + 1) 0 (ts.length + i)), (4, num i)]) (fun i : Nat => [.box [num k, str m, str n, .slice (cB ts), .slice (j6 fs)], .rows (i + 1) 5 (cB (ts ++ (fs.take i).map Fd.ty))]) (fun i => fs.length - i) (fun i => i ≤ fs.length) (0) 2 (bz (by omega) (by simp only [bu,aI,kq,oA,List.take_zero,List.map_nil,List.append_nil,Int.cast_ofNat_Int,go_sem,reduceIte,zA,zB,zC,zD,zE,zF,reduceCtorEq] <;> rfl)) (Nat.zero_le _) ?_
 intro i hi
 try dsimp only at hi
 try dsimp only
 have hw := aq i (by omega)
 intro Z1 bX
 simp only [hw,bu,aI,kq,oA,go_sem,reduceIte,zA,zB,zC,zD,zE,zF,reduceCtorEq]
 refine aT (fun Ct => ?_) (fun Ct => ?_)
 ·have aL : i < fs.length := by simpa using Ct
  obtain ⟨g, hg⟩ : ∃ g, fs[i]? = some g := ⟨_, List.getElem?_eq_getElem aL⟩
  have ZG : (fs.take (i + 1)).map Fd.ty = (fs.take i).map Fd.ty ++ [g.ty] := by rw [List.take_add_one, hg]; simp
  obtain ⟨gn, ⟨gk, gm, gn2, gts, gfs⟩, go⟩ := g
  dsimp only [Fd.ty] at ZG
  have wq : ts.length + i + 1 ≤ 34359738368 := by omega
  have hlen : (cB (ts ++ (fs.take i).map Fd.ty)).length = ts.length + i := by rw [bu, List.length_append, List.length_map, List.length_take]; omega
  have Um : (cB (ts ++ (fs.take i).map Fd.ty ++ [.mk gk gm gn2 gts gfs])).length = ts.length + (i + 1) := by rw [bu, List.length_append, List.length_append, List.length_map, List.length_take, List.length_singleton]; omega
  simp only [hw,dn,hg,u5,wq,hlen,bu,aI,kq,oA,go_sem,reduceIte,zA,zB,zC,zD,zE,zF,reduceCtorEq]
  refine bX _ ⟨i + 1, ?_, ?_, bz (by omega) (by (simp only [hw,ZG,← List.append_assoc,Jb,Um,Nat.add_assoc,go_sem,reduceIte,zA,zB,zC,zD,zE,zF,reduceCtorEq]))⟩
  ·exact aL
  ·omega
 ·have cP : ¬ i < fs.length := by simpa using Ct
  obtain rfl : i = fs.length := by omega
  rw [List.take_length]
  have F4 : (ts ++ fs.map Fd.ty).length = ts.length + fs.length := by rw [List.length_append, List.length_map]
  have qd : List.take (ts.length + fs.length) (cB (ts ++ List.map Fd.ty fs)) = cB (ts ++ List.map Fd.ty fs) := List.take_of_length_le (by rw [bu, F4]; exact Nat.le_refl _)
  simp only [hw,F4,qd,Nat.le_refl,bu,aI,kq,oA,go_sem,reduceIte,zA,zB,zC,zD,zE,zF,reduceCtorEq]
  exact hK _ rfl
theorem Cx (N : Nat) (ih : ∀ t : Ty, t.size ≤ N → ∃ r_, (fun w => w = num (t.size)) r_ ∧ aR Tryz.prog 85 [du t] r_) (t : Ty) (hN : t.size ≤ N + 1) (hb : N + 1 ≤ 1048576) : ∃ r_, (fun w => w = num (t.size)) r_ ∧ aR Tryz.prog 85 [du t] r_ := by
 refine eu tt_ok [] 22 [.tmp 2] (fn := Tryz.f85) Tryz.func85 rfl Tryz.call85 ⟨rfl, rfl, by simp⟩ fun K hK => ?_
 have jW := t.nQ
 obtain ⟨ps, Lc⟩ : ∃ x, x = t.parts := ⟨_, rfl⟩
 rw [← Lc] at jW
 have hlen := bs Ty.size (fun t => t.size_pos) ps
 have Vj : ps.length = t.args.length + t.aO.length := by rw [Lc]; unfold Ty.parts; rw [List.length_append, List.length_map]
 have XR := FK t (by omega) (by omega)
 rw [bo, ← Lc] at XR
 rw [bo]
 simp only [ai] at XR ⊢
 simp only [bu,go_sem,reduceIte,zA,zB,zC,zD,zE,zF,reduceCtorEq]
 refine cF (XR) ?_
 rintro _ rfl
 simp only [bu,go_sem,reduceIte,zA,zB,zC,zD,zE,zF,reduceCtorEq]
 refine bk tt_ok [] [5,3] 1 [2,4] (fun vs => ((ps.length : Int) - Go.Eng.intOf (vs.headD .undef)).toNat) (fun vs => ∃ i : Nat, vs = [num i, num ((1 + ak Ty.size (ps.take i) : Nat) : Int)] ∧ i ≤ ps.length) (by omega) (by simp only [bu,go_sem,reduceIte,zA,zB,zC,zD,zE,zF,reduceCtorEq]) (⟨0, by first | rfl | simp [ak, dY, lk], Nat.zero_le _⟩) fun vs hI Z1 bX => ?_
 obtain ⟨i, rfl, hi⟩ := hI
 simp only [bu,go_sem,reduceIte,zA,zB,zC,zD,zE,zF,reduceCtorEq]
 refine aT (fun nW => ?_) (fun nW => ?_)
 ·have aL : i < ps.length := by simpa using nW
  obtain ⟨x, hx⟩ : ∃ x, ps[i]? = some x := ⟨_, List.getElem?_eq_getElem aL⟩
  have ob := ly Ty.size hx
  have qp := nr Ty.size ps (i + 1)
  have rm := x.size_pos
  have hw := aq i (by omega)
  have XS := fu (1 + ak Ty.size (ps.take i)) x.size (by omega)
  obtain ⟨k2, m2, n2, a2, f2⟩ := x
  simp only [nP,hx,du,hw,XS,bu,go_sem,reduceIte,zA,zB,zC,zD,zE,zF,reduceCtorEq]
  refine cF (by have h := ih (.mk k2 m2 n2 a2 f2) (by omega); simp only [du] at h; exact h) ?_
  rintro _ rfl
  simp only [nP,hx,du,hw,XS,bu,go_sem,reduceIte,zA,zB,zC,zD,zE,zF,reduceCtorEq]
  refine bX _ (b5 (by omega) (by simp only [nP,hx,du,hw,XS,bu,go_sem,reduceIte,zA,zB,zC,zD,zE,zF,reduceCtorEq]) ?_ ?_) <;> simp only [dY,lk,reduceIte,zE]
  ·exact ⟨i + 1, by rw [ob, ← Nat.add_assoc], aL⟩
  ·simp only [Go.Eng.intOf,List.headD_cons]; omega
 ·have cP : ¬ i < ps.length := by simpa using nW
  obtain rfl : i = ps.length := by omega
  rw [List.take_length, ← jW]
  simp only [bu,go_sem,reduceIte,zA,zB,zC,zD,zE,zF,reduceCtorEq]
  exact hK _ rfl
theorem gi : ∀ (N : Nat) (t : Ty), t.size ≤ N → N ≤ 1048576 → ∃ r_, (fun w => w = num (t.size)) r_ ∧ aR Tryz.prog 85 [du t] r_ := by
 intro N
 induction N with
 | zero => intro t h; have := t.size_pos; omega
 | succ N ih => intro t h hb; exact Cx N (fun t ht => ih t ht (by omega)) t h hb
theorem LO (e : Ex) (hw : e.wt ≤ 1048576) : ∃ r_, (fun w => w = .slice (e.own.map du)) r_ ∧ aR Tryz.prog 130 [iR e] r_ := by
 refine eu tt_ok [] 29 [.tmp 2] (fn := Tryz.f130) Tryz.func130 rfl Tryz.call130 ⟨rfl, rfl, by simp⟩ fun K hK => ?_
 have U9 := e.mR
 rw [bJ]
 simp only [al,bH]
 have D3 : e.types.length ≤ 34359738368 := by omega
 simp only [D3,List.length_map,gL,oa,go_sem,reduceIte,zA,zB,zC,zD,zE,zF,reduceCtorEq]
 refine aT (fun nW => ?_) (fun nW => ?_)
 ·have h8 : e.kind = 8 := of_decide_eq_true nW
  simp only [D3,List.length_map,gL,oa,go_sem,reduceIte,zA,zB,zC,zD,zE,zF,reduceCtorEq]
  refine dk tt_ok [] (fun a : Nat × Nat => [(1, .ptr 0 0), (3, .ms 1 a.2 0 (pq e a.1).length), (4, num a.1)]) (fun a : Nat × Nat => [.box [num e.kind, str e.mod, str e.name, str e.text, num e.num, .slice (e.types.map du), .slice (e.labels.map nt), .slice (fj e.kids)], .rows a.2 5 ((pq e a.1).map du)]) (fun a => e.labels.length - a.1) (fun a => a.1 ≤ e.labels.length) ((0, 1)) 2 (bz (by omega) (by simp only [D3,List.length_map,gL,oa,FI,List.length_map,Int.cast_ofNat_Int,go_sem,reduceIte,zA,zB,zC,zD,zE,zF,reduceCtorEq] <;> rfl)) (Nat.zero_le _) ?_
  intro ⟨j, w⟩ hj
  try dsimp only at hj
  try dsimp only
  intro Z1 bX
  simp only [D3,List.length_map,gL,oa,go_sem,reduceIte,zA,zB,zC,zD,zE,zF,reduceCtorEq]
  refine aT (fun ik => ?_) (fun ik => ?_)
  ·have iM : j < e.labels.length := by simpa using ik
   have ml := aq j (by omega)
   obtain ⟨p, hp⟩ : ∃ p, e.labels[j]? = some p := ⟨_, List.getElem?_eq_getElem iM⟩
   have hle := DR e j
   have qE : (pq e j).length + 1 ≤ 34359738368 := by omega
   simp only [D3,hp,qE,List.getElem?_map,nt,ai,List.cons_append,List.nil_append,List.length_map,gL,oa,go_sem,reduceIte,zA,zB,zC,zD,zE,zF,reduceCtorEq]
   refine bX _ ⟨(j + 1, w + 1), ?_, ?_, bz (by omega) (by (simp only [List.length_map,ml,FJ hp,Ul,Uk,bo,ai,go_sem,reduceIte,zA,zB,zC,zD,zE,zF,reduceCtorEq]))⟩
   ·exact iM
   ·dsimp only; omega
  ·have th : j = e.labels.length := by have := of_decide_eq_false ik; omega
   have ax : pq e j = e.own := by rw [th]; unfold Ex.own; rw [if_pos h8]
   rw [ax]
   simp only [D3,List.length_map,gL,oa,go_sem,reduceIte,zA,zB,zC,zD,zE,zF,reduceCtorEq]
   try rw [List.take_of_length_le (by simp)]
   exact hK _ rfl
 ·have h8 : ¬ e.kind = 8 := of_decide_eq_false nW
  have ax : e.types = e.own := by unfold Ex.own; rw [if_neg h8]
  rw [ax]
  simp only [D3,List.length_map,gL,oa,go_sem,reduceIte,zA,zB,zC,zD,zE,zF,reduceCtorEq]
  try rw [List.take_of_length_le (by simp)]
  exact hK _ rfl
end Go.Proofs.YtefbaladomfccaaGreatDoor
end

section
namespace Go.Proofs.YtefbaladomfccaaGreatDoor
open Go.Eng
open Nat renaming reduceAdd → zA, reduceLT → zB, reduceLeDiff → zC, reduceMul → zD, reduceEqDiff → zE, reduceSub → zF
variable [aK]
set_option maxHeartbeats 4000000
set_option maxRecDepth 100000
theorem Un {d : Dc} {j : Nat} {p : Pm} (h : d.params[j]? = some p) : p.bound.wt ≤ ak Pm.wt d.params := by
 have := gS Pm.wt (List.mem_of_getElem? h)
 unfold Pm.wt at this ⊢; omega
theorem LP (l m : List Ty) (hl : l.length ≤ 1048576) (hh : ∀ t ∈ l, ∀ u ∈ m, ∃ r_, OK r_ ∧ aR Tryz.prog 131 [du t, du u] r_) : ∃ r_, OK r_ ∧ aR Tryz.prog 181 [.slice (l.map du), .slice (m.map du)] r_ := by
 refine eu tt_ok [] 27 [.tmp 4] (fn := Tryz.f181) Tryz.func181 rfl Tryz.call181 ⟨rfl, rfl, by simp⟩ fun K hK => ?_
 simp only [List.length_map,go_sem,reduceIte,zA,zB,zC,zD,zE,zF,reduceCtorEq]
 refine aT (fun fI => ?_) (fun fI => ?_)
 ·simp only [List.length_map,go_sem,reduceIte,zA,zB,zC,zD,zE,zF,reduceCtorEq]
  exact hK _ ⟨_, rfl⟩
 ·have hlen : l.length = m.length := by have h9 : (l.length : Int) = m.length := (by simpa using fI); omega
  simp only [List.length_map,go_sem,reduceIte,zA,zB,zC,zD,zE,zF,reduceCtorEq]
  refine bk tt_ok [] [5] 0 [0,1,10] (fun vs => ((l.length : Int) - Go.Eng.intOf (vs.headD .undef)).toNat) (fun vs => ∃ i : Nat, vs = [num i] ∧ i ≤ l.length) (by omega) (by simp only [List.length_map,go_sem,reduceIte,zA,zB,zC,zD,zE,zF,reduceCtorEq]) (⟨0, rfl, Nat.zero_le _⟩) fun vs hI Z1 bX => ?_
  obtain ⟨i, rfl, hi⟩ := hI
  simp only [List.length_map,go_sem,reduceIte,zA,zB,zC,zD,zE,zF,reduceCtorEq]
  refine aT (fun il => ?_) (fun il => ?_)
  ·have bD : i < l.length := by simpa using il
   have aP := aq i (by omega)
   obtain ⟨x, hx⟩ : ∃ x, l[i]? = some x := ⟨_, List.getElem?_eq_getElem bD⟩
   obtain ⟨y, hy⟩ : ∃ y, m[i]? = some y := ⟨_, List.getElem?_eq_getElem (by omega)⟩
   simp only [aP,hx,hy,List.getElem?_map,bo,ai,List.length_map,go_sem,reduceIte,zA,zB,zC,zD,zE,zF,reduceCtorEq]
   refine bR tt_ok aN [⟨.n, 0, [], [], []⟩, ⟨.n, 0, [], [], []⟩, ⟨.r, 0, [], [], []⟩, ⟨.r, 0, [], [], []⟩, ⟨.n, 0, [], [], []⟩, ⟨.n, 0, [], [], []⟩, ⟨.r, 0, [], [], []⟩, ⟨.r, 0, [], [], []⟩, ⟨.n, 0, [], [], []⟩, ⟨.n, 0, [], [], []⟩] 0 (by kernel_rfl) ?_
   simp only [aP,hx,hy,List.getElem?_map,bo,ai,List.length_map,go_sem,reduceIte,zA,zB,zC,zD,zE,zF,reduceCtorEq]
   refine cG (by have h := hh x (List.mem_of_getElem? hx) y (List.mem_of_getElem? hy); simp only [bo,ai] at h; exact h) ?_
   rintro _ ⟨b, rfl⟩
   simp only [aP,hx,hy,List.getElem?_map,bo,ai,List.length_map,go_sem,reduceIte,zA,zB,zC,zD,zE,zF,reduceCtorEq]
   refine aT (fun mf => ?_) (fun mf => ?_)
   ·simp only [aP,hx,hy,List.getElem?_map,bo,ai,List.length_map,go_sem,reduceIte,zA,zB,zC,zD,zE,zF,reduceCtorEq]
    exact hK _ ⟨_, rfl⟩
   ·simp only [aP,hx,hy,List.getElem?_map,bo,ai,List.length_map,go_sem,reduceIte,zA,zB,zC,zD,zE,zF,reduceCtorEq]
    refine bX _ (b5 (by omega) (by simp only [aP,hx,hy,List.getElem?_map,bo,ai,List.length_map,go_sem,reduceIte,zA,zB,zC,zD,zE,zF,reduceCtorEq]) ?_ ?_) <;> simp only [dY,lk,reduceIte,zE]
    ·exact ⟨i + 1, rfl, bD⟩
    ·simp only [Go.Eng.intOf,List.headD_cons]; omega
  ·have gw : i = l.length := by have := of_decide_eq_false il; omega
   simp only [List.length_map,go_sem,reduceIte,zA,zB,zC,zD,zE,zF,reduceCtorEq]
   exact hK _ ⟨_, rfl⟩
theorem FL (N : Nat) (ih : ∀ t u : Ty, t.wt ≤ N → ∃ r_, OK r_ ∧ aR Tryz.prog 131 [du t, du u] r_) (t u : Ty) (hN : t.wt ≤ N + 1) (hb : N + 1 ≤ 1048576) : ∃ r_, OK r_ ∧ aR Tryz.prog 131 [du t, du u] r_ := by
 refine eu tt_ok [] 90 [.tmp 4] (fn := Tryz.f131) Tryz.func131 rfl Tryz.call131 ⟨rfl, rfl, by simp⟩ fun K hK => ?_
 have U9 := t.mR
 simp only [bo,ai,bH]
 simp only [List.length_map,aI,go_sem,reduceIte,zA,zB,zC,zD,zE,zF,reduceCtorEq]
 refine aT (fun zJ => ?_) (fun zJ => ?_)
 ·simp only [List.length_map,aI,go_sem,reduceIte,zA,zB,zC,zD,zE,zF,reduceCtorEq]
  exact hK _ ⟨_, rfl⟩
 ·simp only [List.length_map,aI,go_sem,reduceIte,zA,zB,zC,zD,zE,zF,reduceCtorEq]
  refine aT (fun BJ => ?_) (fun BJ => ?_)
  ·simp only [List.length_map,aI,go_sem,reduceIte,zA,zB,zC,zD,zE,zF,reduceCtorEq]
   exact hK _ ⟨_, rfl⟩
  ·simp only [List.length_map,aI,go_sem,reduceIte,zA,zB,zC,zD,zE,zF,reduceCtorEq]
   refine aT (fun Qb => ?_) (fun Qb => ?_)
   ·simp only [List.length_map,aI,go_sem,reduceIte,zA,zB,zC,zD,zE,zF,reduceCtorEq]
    exact hK _ ⟨_, rfl⟩
   ·simp only [List.length_map,aI,go_sem,reduceIte,zA,zB,zC,zD,zE,zF,reduceCtorEq]
    refine aT (fun Uo => ?_) (fun Uo => ?_)
    ·simp only [List.length_map,aI,go_sem,reduceIte,zA,zB,zC,zD,zE,zF,reduceCtorEq]
     exact hK _ ⟨_, rfl⟩
    ·have hlen : t.aO.length = u.aO.length := by have h9 : (t.aO.length : Int) = u.aO.length := (by simpa using Uo); omega
     simp only [List.length_map,aI,go_sem,reduceIte,zA,zB,zC,zD,zE,zF,reduceCtorEq]
     refine bk tt_ok [] [5] 2 [2,3,33] (fun vs => ((t.aO.length : Int) - Go.Eng.intOf (vs.headD .undef)).toNat) (fun vs => ∃ i : Nat, vs = [num i] ∧ i ≤ t.aO.length) (by omega) (by simp only [List.length_map,aI,go_sem,reduceIte,zA,zB,zC,zD,zE,zF,reduceCtorEq]) (⟨0, rfl, Nat.zero_le _⟩) fun vs hI Z1 bX => ?_
     obtain ⟨i, rfl, hi⟩ := hI
     simp only [List.length_map,aI,go_sem,reduceIte,zA,zB,zC,zD,zE,zF,reduceCtorEq]
     refine aT (fun qi => ?_) (fun qi => ?_)
     ·have bD : i < t.aO.length := by simpa using qi
      have aP := aq i (by omega)
      obtain ⟨x, hx⟩ : ∃ x, t.aO[i]? = some x := ⟨_, List.getElem?_eq_getElem bD⟩
      obtain ⟨y, hy⟩ : ∃ y, u.aO[i]? = some y := ⟨_, List.getElem?_eq_getElem (by omega)⟩
      simp only [kd,aP,hx,hy,dn,eY,ai,bH,List.length_map,aI,go_sem,reduceIte,zA,zB,zC,zD,zE,zF,reduceCtorEq]
      refine bR tt_ok aN [⟨.n, 0, [], [], []⟩, ⟨.r, 0, [], [], []⟩, ⟨.n, 0, [], [], []⟩, ⟨.r, 0, [], [], []⟩, ⟨.n, 0, [], [], []⟩, ⟨.r, 0, [], [], []⟩, ⟨.n, 0, [], [], []⟩, ⟨.r, 0, [], [], []⟩, ⟨.n, 0, [], [], []⟩, ⟨.r, 0, [], [], []⟩, ⟨.n, 0, [], [], []⟩, ⟨.r, 0, [], [], []⟩, ⟨.n, 0, [], [], []⟩, ⟨.n, 0, [], [], []⟩, ⟨.n, 0, [], [], []⟩, ⟨.r, 0, [], [], []⟩, ⟨.n, 0, [], [], []⟩, ⟨.r, 0, [], [], []⟩, ⟨.n, 0, [], [], []⟩, ⟨.r, 0, [], [], []⟩, ⟨.n, 0, [], [], []⟩, ⟨.r, 0, [], [], []⟩, ⟨.n, 0, [], [], []⟩, ⟨.r, 0, [], [], []⟩, ⟨.n, 0, [], [], []⟩, ⟨.r, 0, [], [], []⟩, ⟨.n, 0, [], [], []⟩, ⟨.n, 0, [], [], []⟩, ⟨.n, 0, [], [], []⟩, ⟨.n, 0, [], [], []⟩, ⟨.r, 0, [], [], []⟩, ⟨.n, 0, [], [], []⟩, ⟨.r, 0, [], [], []⟩, ⟨.n, 0, [], [], []⟩, ⟨.r, 0, [], [], []⟩, ⟨.n, 0, [], [], []⟩, ⟨.r, 0, [], [], []⟩, ⟨.n, 0, [], [], []⟩, ⟨.r, 0, [], [], []⟩, ⟨.n, 0, [], [], []⟩, ⟨.r, 0, [], [], []⟩, ⟨.n, 0, [], [], []⟩, ⟨.n, 0, [], [], []⟩, ⟨.n, 0, [], [], []⟩] 0 (by kernel_rfl) ?_
      simp only [kd,aP,hx,hy,dn,eY,ai,bH,List.length_map,aI,go_sem,reduceIte,zA,zB,zC,zD,zE,zF,reduceCtorEq]
      refine aT (fun Qc => ?_) (fun Qc => ?_)
      ·simp only [kd,aP,hx,hy,dn,eY,ai,bH,List.length_map,aI,go_sem,reduceIte,zA,zB,zC,zD,zE,zF,reduceCtorEq]
       exact hK _ ⟨_, rfl⟩
      ·simp only [kd,aP,hx,hy,dn,eY,ai,bH,List.length_map,aI,go_sem,reduceIte,zA,zB,zC,zD,zE,zF,reduceCtorEq]
       refine aT (fun Qd => ?_) (fun Qd => ?_)
       ·simp only [kd,aP,hx,hy,dn,eY,ai,bH,List.length_map,aI,go_sem,reduceIte,zA,zB,zC,zD,zE,zF,reduceCtorEq]
        exact hK _ ⟨_, rfl⟩
       ·simp only [kd,aP,hx,hy,dn,eY,ai,bH,List.length_map,aI,go_sem,reduceIte,zA,zB,zC,zD,zE,zF,reduceCtorEq]
        refine cG (by have h := ih x.ty y.ty (by have h1 := Ty.OM (List.mem_of_getElem? hx); omega); simp only [bo,ai,bH] at h; exact h) ?_
        rintro _ ⟨b, rfl⟩
        simp only [kd,aP,hx,hy,dn,eY,ai,bH,List.length_map,aI,go_sem,reduceIte,zA,zB,zC,zD,zE,zF,reduceCtorEq]
        refine aT (fun IH => ?_) (fun IH => ?_)
        ·simp only [kd,aP,hx,hy,dn,eY,ai,bH,List.length_map,aI,go_sem,reduceIte,zA,zB,zC,zD,zE,zF,reduceCtorEq]
         exact hK _ ⟨_, rfl⟩
        ·simp only [kd,aP,hx,hy,dn,eY,ai,bH,List.length_map,aI,go_sem,reduceIte,zA,zB,zC,zD,zE,zF,reduceCtorEq]
         refine bX _ (b5 (by omega) (by simp only [kd,aP,hx,hy,dn,eY,ai,bH,List.length_map,aI,go_sem,reduceIte,zA,zB,zC,zD,zE,zF,reduceCtorEq]) ?_ ?_) <;> simp only [dY,lk,reduceIte,zE]
         ·exact ⟨i + 1, rfl, bD⟩
         ·simp only [Go.Eng.intOf,List.headD_cons]; omega
     ·have gw : i = t.aO.length := by have := of_decide_eq_false qi; omega
      simp only [List.length_map,aI,go_sem,reduceIte,zA,zB,zC,zD,zE,zF,reduceCtorEq]
      refine cF (LP t.args u.args (by omega) (fun a ha b _ => ih a b (by have h1 := Ty.OL ha; omega))) ?_
      rintro _ ⟨b, rfl⟩
      simp only [List.length_map,aI,go_sem,reduceIte,zA,zB,zC,zD,zE,zF,reduceCtorEq]
      exact hK _ ⟨_, rfl⟩
theorem DS : ∀ (N : Nat) (t u : Ty), t.wt ≤ N → N ≤ 1048576 → ∃ r_, OK r_ ∧ aR Tryz.prog 131 [du t, du u] r_ := by
 intro N
 induction N with
 | zero => intro t u h; have := t.cO; omega
 | succ N ih => intro t u h hb; exact FL N (fun t u ht => ih t u ht (by omega)) t u h hb
theorem vD (d : Dc) (hw : d.wt ≤ 1048576) : ∃ r_, OK r_ ∧ aR Tryz.prog 87 [fe d] r_ := by
 refine eu tt_ok [] 15 [.tmp 2] (fn := Tryz.f87) Tryz.func87 rfl Tryz.call87 ⟨rfl, rfl, by simp⟩ fun K hK => ?_
 have hd : 1 + d.lower.wt + d.upper.wt ≤ d.wt := by unfold Dc.wt; omega
 rw [aD]
 simp only [kd,aG,ai,al]
 simp only [go_sem,reduceIte,zA,zB,zC,zD,zE,zF,reduceCtorEq]
 refine cF (by have h := DS 1048576 d.lower d.type (by omega) (Nat.le_refl _); simp only [bo,ai] at h; exact h) ?_
 rintro _ ⟨b, rfl⟩
 simp only [go_sem,reduceIte,zA,zB,zC,zD,zE,zF,reduceCtorEq]
 refine aT (fun zJ => ?_) (fun zJ => ?_)
 ·simp only [go_sem,reduceIte,zA,zB,zC,zD,zE,zF,reduceCtorEq]
  refine cF (by have h := DS 1048576 d.upper d.type (by omega) (Nat.le_refl _); simp only [bo,ai] at h; exact h) ?_
  rintro _ ⟨b2, rfl⟩
  simp only [go_sem,reduceIte,zA,zB,zC,zD,zE,zF,reduceCtorEq]
  exact hK _ ⟨_, rfl⟩
 ·simp only [go_sem,reduceIte,zA,zB,zC,zD,zE,zF,reduceCtorEq]
  exact hK _ ⟨_, rfl⟩
end Go.Proofs.YtefbaladomfccaaGreatDoor
end
