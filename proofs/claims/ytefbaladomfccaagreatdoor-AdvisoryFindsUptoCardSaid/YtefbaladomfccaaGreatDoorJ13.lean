/-
  PLAIN: the reference's graph of the uses and the least ways in it give the findings.
  CONTRACTS: Findings, by the reference.
  CONTRACTS: sizes with their bounds, by the reference.
  CONTRACTS: lines with their names.
-/
import Derived.Test.YtefbaladomfccaaGreatDoorJ12
set_option linter.all false
section
namespace Go.Proofs.YtefbaladomfccaaGreatDoor
open Go.Eng
variable [aK]
mutual
def Ex.Cy : Ex → Nat
 | .mk _ _ _ _ _ _ _ ks => 1 + qk ks
def qk : List Ex → Nat
 | [] => 0
 | e :: r => e.Cy + qk r
end
theorem FM (l : List Ex) : qk l = ak Ex.Cy l := by induction l with | nil => rfl | cons e r ih => simp [qk, ak, ih]
theorem Ex.Qe (e : Ex) : e.Cy = 1 + ak Ex.Cy e.kids := by obtain ⟨k, m, n, t, i, ts, ls, ks⟩ := e; rw [Ex.Cy, FM]; rfl
section
variable (look : Us → Option Dc)
theorem Jc (e : Ex) : (gA look e).length ≤ 1 := by
 unfold gA
 split
 ·split <;> simp
 ·simp
mutual
theorem vE : ∀ e : Ex, (cJ look e).length ≤ e.Cy
 | .mk k m n t i ts ls ks => by
  have h1 := tP ks
  have h2 := Jc look (.mk k m n t i ts ls ks)
  rw [cJ, Ex.Cy, List.length_append]; omega
theorem tP : ∀ l : List Ex, (iN look l).length ≤ qk l
 | [] => by simp [iN]
 | e :: r => by
  have h1 := vE e
  have h2 := tP r
  rw [iN, qk, List.length_append]; omega
end
theorem Jd {u : Us} {d : Dc} (h : look u = some d) : (dW look u).length ≤ d.expr.Cy := by
 unfold dW
 rw [h]
 have h1 := e6 dM (cJ look d.expr) []
 have h2 := vE look d.expr
 rw [List.length_nil] at h1
 show (a7 dM [] (cJ look d.expr)).length ≤ _
 omega
end
def Dc.val (d : Dc) : Nat := if d.kind = 1 then 1 + d.expr.Cy else 0
def Md.val (m : Md) : Nat := ak Dc.val m.decls
section
variable {p : List Md}
theorem vF : ∀ {p : List Md} {u : Us} {d : Dc}, ae p u = some d → ∃ m ∈ p, m.path = u.1 ∧ d ∈ m.decls ∧ d.name = u.2
 | [], u, d, h => by cases h
 | m :: r, u, d, h => by
  unfold ae at h
  split at h
  ·rename_i hm
   exact ⟨m, List.mem_cons_self .., hm, List.mem_of_find?_eq_some h, by have := List.find?_some h; simpa using this⟩
  ·obtain ⟨m', h1, h2⟩ := vF h
   exact ⟨m', List.mem_cons_of_mem _ h1, h2⟩
theorem mz {u : Us} : u ∈ bP (ae p) p ↔ kB (ae p) u = true := by
 unfold bP
 rw [k8]
 constructor
 ·rintro (h | h)
  ·cases h
  ·unfold nc n4 at h
   obtain ⟨m, -, hm⟩ := List.mem_flatMap.1 h
   exact (List.mem_filter.1 hm).2
 ·intro h
  obtain ⟨d, hd, hk⟩ := (kE _ _).1 h
  obtain ⟨m, h1, h2, h3, h4⟩ := vF hd
  right
  unfold nc n4
  refine List.mem_flatMap.2 ⟨m, h1, List.mem_filter.2 ⟨List.mem_map.2 ⟨d, h3, ?_⟩, h⟩⟩
  rw [h2, h4]
theorem pw : zd dM (bP (ae p) p) := k9 jr List.Pairwise.nil
theorem ql {l : List Us} (h : zd dM l) : l.Nodup := h.imp fun {a b} jA e => by rw [e, jr.irrefl] at jA; cases jA
theorem mA {u : Us} (h : u ∈ bP (ae p) p) : eJ (ae p) u = dW (ae p) u := by
 obtain ⟨d, hd, hk⟩ := (kE _ _).1 (mz.1 h)
 unfold eJ; rw [tB hd hk]
theorem mB {u t : Us} (h : u ∈ bP (ae p) p) (ht : t ∈ eJ (ae p) u) : t ∈ bP (ae p) p := by
 rw [mA h] at ht
 exact mz.2 ((kE _ _).2 (zM _ ht))
theorem Ac (F : Us → Nat) (G : Dc → Nat) : ∀ (g : GD) (l : List Us), l.Nodup → (∀ u ∈ l, ∃ d, aY u g = some d ∧ F u ≤ G d) → ak F l ≤ ak (fun e => G e.2) g
 | [], l, _, h => by
  cases l with
  | nil => exact Nat.le_refl _
  | cons u r => obtain ⟨d, hd, -⟩ := h u (List.mem_cons_self ..); cases hd
 | e :: g, l, hn, h => by
  have XT : ∀ (l : List Us) (k : Us), l.Nodup → (k ∈ l → ak F l ≤ ak F (l.filter fun x => decide (¬ x = k)) + F k) ∧ (k ∉ l → ak F l ≤ ak F (l.filter fun x => decide (¬ x = k))) := by
   intro l k
   induction l with
   | nil => intro _; exact ⟨fun h => by simp at h, fun _ => Nat.le_refl _⟩
   | cons a r ih =>
    intro hn
    rw [List.nodup_cons] at hn
    obtain ⟨i1, i2⟩ := ih hn.2
    by_cases XU : a = k
    ·subst XU
     have := i2 hn.1
     rw [List.filter_cons_of_neg (by simp)]
     simp only [ak]
     exact ⟨fun _ => by omega, fun h => absurd (List.mem_cons_self ..) h⟩
    ·rw [List.filter_cons_of_pos (by simpa using XU)]
     simp only [ak]
     refine ⟨fun h => ?_, fun h => ?_⟩
     ·rcases List.mem_cons.1 h with h | h
      ·exact absurd h.symm XU
      ·have := i1 h; omega
     ·have := i2 (fun h2 => h (List.mem_cons_of_mem _ h2)); omega
  have h1 := XT l e.1 hn
  have h2 := Ac F G g (l.filter fun x => decide (¬ x = e.1)) (hn.filter _) fun u hu => by
   obtain ⟨Xs, QX⟩ := List.mem_filter.1 hu
   obtain ⟨d, hd, hF⟩ := h u Xs
   have bL : ¬ e.1 = u := fun e2 => (of_decide_eq_true QX) e2.symm
   refine ⟨d, ?_, hF⟩
   unfold aY at hd ⊢
   rwa [List.find?_cons_of_neg (by simpa using bL)] at hd
  simp only [ak]
  by_cases hm : e.1 ∈ l
  ·have h3 := h1.1 hm
   obtain ⟨d, hd, hF⟩ := h e.1 hm
   have : d = e.2 := by
    unfold aY at hd
    rw [List.find?_cons_of_pos (by simp)] at hd
    exact (Option.some.inj hd).symm
   subst this; omega
  ·have h3 := h1.2 hm; omega
theorem vG (G : Dc → Nat) (path : ByteArray) : ∀ (l : List Dc) (g : GD), ak (fun e => G e.2) (l.foldl (fZ path) g) ≤ ak (fun e => G e.2) g + ak G l
 | [], g => Nat.le_refl _
 | d :: l, g => by
  have h := vG G path l (fZ path g d)
  have h2 : ak (fun e => G e.2) (fZ path g d) ≤ ak (fun e => G e.2) g + G d := by
   unfold fZ; split
   ·omega
   ·rw [ew]; simp [ak]
  rw [List.foldl_cons]; simp only [ak]; omega
theorem tQ (G : Dc → Nat) : ∀ (p : List Md) (S : List ByteArray × GD), ak (fun e => G e.2) (p.foldl j8 S).2 ≤ ak (fun e => G e.2) S.2 + ak (fun m => ak G m.decls) p
 | [], S => Nat.le_refl _
 | m :: p, S => by
  have h := tQ G p (j8 S m)
  have h2 : ak (fun e => G e.2) (j8 S m).2 ≤ ak (fun e => G e.2) S.2 + ak G m.decls := by
   unfold j8; split
   ·omega
   ·exact vG G m.path m.decls S.2
  rw [List.foldl_cons]; simp only [ak]; omega
theorem Ad (G : Dc → Nat) (p : List Md) : ak (fun e => G e.2) (gf p) ≤ ak (fun m => ak G m.decls) p := by
 have h := tQ G p ([], [])
 unfold gf eS
 rw [List.take_length]
 simpa [ak] using h
theorem Je : ak (fun u => 1 + (dW (ae p) u).length) (bP (ae p) p) ≤ ak Md.val p := by
 refine Nat.le_trans (Ac _ Dc.val (gf p) _ (ql pw) fun u hu => ?_) (Ad Dc.val p)
 obtain ⟨d, hd, hk⟩ := (kE _ _).1 (mz.1 hu)
 refine ⟨d, (congrFun (look_eq p) u).trans hd, ?_⟩
 have := Jd (ae p) hd
 unfold Dc.val; rw [if_pos hk]; omega
theorem Ae (D : Us → List Us) (all : List Us) : ∀ (l : List Us) (i : Nat), (lh D all i l).length = ak (fun u => (D u).length) l
 | [], _ => rfl
 | u :: r, i => by rw [lh, List.length_append, List.length_map, Ae D all r]; rfl
theorem Af (D : Us → List Us) (all : List Us) {a b : Nat} : ∀ (l : List Us) (i : Nat), (a, b) ∈ lh D all i l ↔ ∃ k u, l[k]? = some u ∧ a = i + k ∧ ∃ t ∈ D u, b = (lg all t).toNat
 | [], i => by simp [lh]
 | v :: r, i => by
  rw [lh, List.mem_append, Af D all r (i + 1)]
  constructor
  ·rintro (h | ⟨k, u, h1, h2, h3⟩)
   ·obtain ⟨t, ht, e⟩ := List.mem_map.1 h
    cases e
    exact ⟨0, v, rfl, rfl, t, ht, rfl⟩
   ·exact ⟨k + 1, u, by simpa using h1, by omega, h3⟩
  ·rintro ⟨k, u, h1, h2, t, ht, h3⟩
   cases k with
   | zero => simp at h1; subst h1; left; exact List.mem_map.2 ⟨t, ht, by rw [h3, h2]; rfl⟩
   | succ k => right; exact ⟨k, u, by simpa using h1, by omega, t, ht, h3⟩
def ri (p : List Md) : kD := lh (eJ (ae p)) (bP (ae p) p) 0 (bP (ae p) p)
theorem xx {a b : Nat} : (a, b) ∈ ri p ↔ ∃ u t, (bP (ae p) p)[a]? = some u ∧ (bP (ae p) p)[b]? = some t ∧ t ∈ dW (ae p) u := by
 unfold ri
 rw [Af]
 constructor
 ·rintro ⟨k, u, h1, h2, t, ht, h3⟩
  have hu := List.mem_of_getElem? h1
  have htm := mB hu ht
  rcases jz (bP (ae p) p) t with ⟨-, hn⟩ | ⟨q, hq, XV⟩
  ·exact absurd htm hn
  ·refine ⟨u, t, by rw [h2, Nat.zero_add]; exact h1, ?_, by rwa [← mA hu]⟩
   rw [h3, hq]; exact XV
 ·rintro ⟨u, t, h1, h2, h3⟩
  have hu := List.mem_of_getElem? h1
  refine ⟨a, u, h1, by omega, t, by rwa [mA hu], ?_⟩
  rcases jz (bP (ae p) p) t with ⟨-, hn⟩ | ⟨q, hq, XV⟩
  ·exact absurd (List.mem_of_getElem? h2) hn
  ·rw [hq, Int.toNat_natCast]
   have hn := ql (pw (p := p))
   have e1 := List.getElem?_eq_some_iff.1 h2
   have e2 := List.getElem?_eq_some_iff.1 XV
   exact (List.getElem_inj hn).1 (e1.2.trans e2.2.symm)
theorem jV : DK (ri p) (bP (ae p) p).length := fun e he => by
 obtain ⟨u, t, h1, h2, -⟩ := xx.1 (show (e.1, e.2) ∈ ri p from he)
 exact ⟨(List.getElem?_eq_some_iff.1 h1).1, (List.getElem?_eq_some_iff.1 h2).1⟩
theorem tR {α : Type} (F : α → Nat) : ∀ l : List α, ak (fun u => 1 + F u) l = l.length + ak F l
 | [] => rfl
 | a :: l => by simp only [ak,List.length_cons]; rw [tR F l]; omega
theorem qU {α : Type} {F G : α → Nat} : ∀ {l : List α}, (∀ x ∈ l, F x = G x) → ak F l = ak G l
 | [], _ => rfl
 | a :: l, h => by simp only [ak]; rw [h a (List.mem_cons_self ..), qU fun x hx => h x (List.mem_cons_of_mem _ hx)]
theorem Jf : (bP (ae p) p).length + (ri p).length ≤ ak Md.val p := by
 have h := Je (p := p)
 rw [tR] at h
 unfold ri
 rw [Ae, qU (G := fun u => (dW (ae p) u).length) fun u hu => by rw [mA hu]]
 exact h
end
section
variable {E : kD} {t : Nat}
theorem Wk.snoc {i k : Nat} {P : List Nat} (h : Wk E t i P) (hk : (t, k) ∈ E) : Wk E k i (P ++ [k]) := by
 induction h with
 | one => exact .cons hk .one
 | cons e _ ih => exact .cons e ih
theorem Way.cons {D : Us → List Us} {x y z : Us} {P : List Us} (h : Way D y z P) (hy : y ∈ D x) : Way D x z (x :: P) := by
 induction h with
 | one => exact Way.snoc (P := [x]) .one hy
 | snoc _ hk ih => exact Way.snoc ih hk
end
section
variable {p : List Md}
def fH (p : List Md) (i : Nat) : Us := ((bP (ae p) p)[i]?).getD u0
theorem iY {i : Nat} {u : Us} (h : (bP (ae p) p)[i]? = some u) : fH p i = u := by unfold fH; rw [h]; rfl
theorem Wk.Xa {t i : Nat} {P : List Nat} (h : Wk (ri p) t i P) : Way (dW (ae p)) (fH p i) (fH p t) (P.map (fH p)) := by
 induction h with
 | one => exact .one
 | @cons a b P e _ ih =>
  obtain ⟨u, v, h1, h2, h3⟩ := xx.1 e
  rw [List.map_cons]
  exact ih.cons (by rw [iY h1, iY h2]; exact h3)
theorem Way.wk {i : Nat} {u x : Us} {Q : List Us} (hi : (bP (ae p) p)[i]? = some u) (h : Way (dW (ae p)) u x Q) : ∃ t P, (bP (ae p) p)[t]? = some x ∧ Wk (ri p) t i P ∧ Q = P.map (fH p) := by
 induction h with
 | one => exact ⟨i, [i], hi, .one, by rw [List.map_cons, iY hi]; rfl⟩
 | @snoc v P k _ hk ih =>
  obtain ⟨t, R, h1, h2, rfl⟩ := ih
  have hv := List.mem_of_getElem? h1
  have Fa := mB hv (by rw [mA hv]; exact hk)
  obtain ⟨q, hq⟩ := List.mem_iff_getElem?.1 Fa
  exact ⟨q, R ++ [q], hq, h2.snoc (xx.2 ⟨v, k, h1, hq, hk⟩), by rw [List.map_append, List.map_cons, List.map_nil, iY hq]⟩
theorem LQ {i j : Nat} (qW : i < j) (hj : j < (bP (ae p) p).length) : dM (fH p i) (fH p j) = true := by
 rw [iY (List.getElem?_eq_getElem (Nat.lt_trans qW hj)), iY (List.getElem?_eq_getElem hj)]
 exact List.pairwise_iff_getElem.1 pw i j _ hj qW
theorem DT : ∀ {P Q : List Nat}, (∀ x ∈ Q, x < (bP (ae p) p).length) → lf xE P Q = true → lf dM (P.map (fH p)) (Q.map (fH p)) = true
 | [], _, _, h => by simp [lf] at h
 | _ :: _, [], _, h => by simp [lf] at h
 | a :: P, b :: Q, hq, h => by
  rw [lf, Bool.or_eq_true, Bool.and_eq_true, decide_eq_true_eq] at h
  rw [List.map_cons, List.map_cons, lf, Bool.or_eq_true, Bool.and_eq_true, decide_eq_true_eq]
  rcases h with h | ⟨rfl, h⟩
  ·exact .inl (LQ (of_decide_eq_true h) (hq b (List.mem_cons_self ..)))
  ·exact .inr ⟨rfl, DT (fun x hx => hq x (List.mem_cons_of_mem _ hx)) h⟩
theorem LS {P Q : List Nat} (hq : ∀ x ∈ Q, x < (bP (ae p) p).length) (h : uA xE P Q) : uA dM (P.map (fH p)) (Q.map (fH p)) := by
 rcases h with rfl | h
 ·exact .inl rfl
 ·exact .inr (DT hq h)
def tW (p : List Md) (a : fQ) (k t : Nat) : Prop := ∃ n ∈ a.syms.take k, (bP (ae p) p)[t]? = some (a.path, n)
theorem tW.zero (a : fQ) (t : Nat) : ¬ tW p a 0 t := fun ⟨n, hn, _⟩ => by simp at hn
theorem tW.succ {a : fQ} {k : Nat} {n : ByteArray} (h : a.syms[k]? = some n) (t : Nat) : tW p a (k + 1) t ↔ tW p a k t ∨ (bP (ae p) p)[t]? = some (a.path, n) := by
 unfold tW
 rw [List.take_add_one, h]
 constructor
 ·rintro ⟨m, hm, hh⟩
  rcases List.mem_append.1 hm with hm | hm
  ·exact .inl ⟨m, hm, hh⟩
  ·simp at hm; subst hm; exact .inr hh
 ·rintro (⟨m, hm, hh⟩ | hh)
  ·exact ⟨m, List.mem_append_left _ hm, hh⟩
  ·exact ⟨n, List.mem_append_right _ (by simp), hh⟩
theorem Jg {l : List ByteArray} {s : ByteArray} : ju l s = true ↔ s ∈ l := by
 unfold ju; rw [List.any_eq_true]
 constructor
 ·rintro ⟨x, hx, h⟩; rw [← of_decide_eq_true h]; exact hx
 ·intro h; exact ⟨s, h, decide_eq_true rfl⟩
theorem tW.JK {a : fQ} {t : Nat} {x : Us} (hx : (bP (ae p) p)[t]? = some x) : tW p a a.syms.length t ↔ JK (ae p) a x = true := by
 unfold tW Go.Proofs.YtefbaladomfccaaGreatDoor.JK
 rw [List.take_length, Bool.and_eq_true, Bool.and_eq_true, decide_eq_true_eq, Jg]
 have hv := mz.1 (List.mem_of_getElem? hx)
 constructor
 ·rintro ⟨n, hn, hh⟩
  rw [hx] at hh; cases hh
  exact ⟨⟨rfl, hn⟩, hv⟩
 ·rintro ⟨⟨h1, h2⟩, -⟩
  exact ⟨x.2, h2, by rw [hx, ← h1]⟩
theorem tL.skp {s : List kr} {a : fQ} {i : Nat} {u : Us} (hi : (bP (ae p) p)[i]? = some u) (h : tL (ri p) i (tW p a a.syms.length) []) : MR (ae p) u s a := by
 refine .inr fun x Q hw => ?_
 obtain ⟨t, P, h1, h2, rfl⟩ := hw.wk hi
 cases hx : Go.Proofs.YtefbaladomfccaaGreatDoor.JK (ae p) a x with
 | false => rfl
 | true =>
  rcases h with ⟨-, h⟩ | ⟨⟨b, -, h3⟩, -⟩
  ·exact absurd h2 (h t P ((tW.JK h1).2 hx))
  ·have := h3.pos; simp at this
theorem tL.tak {s : List kr} {a : fQ} {i : Nat} {u : Us} {B : List Nat} (hi : (bP (ae p) p)[i]? = some u) (hc : s.any (fJ a) = true ∧ (B.map (fH p)).length ≤ 1048576) (hB : B ≠ []) (h : tL (ri p) i (tW p a a.syms.length) B) : Q1 (ae p) u s a (B.map (fH p)) := by
 refine ⟨hc, ?_⟩
 rcases h with ⟨h, -⟩ | ⟨⟨t, ht, hw⟩, kC⟩
 ·exact absurd h hB
 ·refine ⟨⟨fH p t, by have := hw.Xa; rwa [iY hi] at this, ?_⟩, fun x Q hQ hx => ?_⟩
  ·obtain ⟨n, hn, hh⟩ := id ht
   rw [iY hh]; exact (tW.JK hh).1 ht
  ·obtain ⟨b, P, h1, h2, rfl⟩ := hQ.wk hi
   have hb := (tW.JK h1).2 hx
   rw [List.length_map, List.length_map]
   rcases kC b P hb h2 with h | ⟨h, h3⟩
   ·exact .inl h
   ·exact .inr ⟨h, LS (h2.lt jV (List.getElem?_eq_some_iff.1 h1).1) h3⟩
def PX (p : List Md) (i : Nat) (u : Us) (P : List Nat) : Prop := (P = [] ∧ ∀ t Q, (bP (ae p) p)[t]? = some u → ¬ Wk (ri p) t i Q) ∨ ∃ t, t < (bP (ae p) p).length ∧ (bP (ae p) p)[t]? = some u ∧ LW (ri p) t i P
theorem Ag {t q : Nat} {u : Us} (h1 : (bP (ae p) p)[t]? = some u) (h2 : (bP (ae p) p)[q]? = some u) : t = q := by
 have hn := ql (pw (p := p))
 have e1 := List.getElem?_eq_some_iff.1 h1
 have e2 := List.getElem?_eq_some_iff.1 h2
 exact (List.getElem_inj hn).1 (e1.2.trans e2.2.symm)
theorem PX.of {i t : Nat} {u : Us} {P : List Nat} (ht : (bP (ae p) p)[t]? = some u) (h : IW (ri p) t i P) : PX p i u P := by
 rcases h with ⟨h1, h2⟩ | h
 ·exact .inl ⟨h1, fun q Q hq => by rw [Ag hq ht]; exact h2 Q⟩
 ·exact .inr ⟨t, (List.getElem?_eq_some_iff.1 ht).1, ht, h⟩
theorem PX.no {i : Nat} {u : Us} (h : u ∉ bP (ae p) p) : PX p i u [] := .inl ⟨rfl, fun t Q ht => absurd (List.mem_of_getElem? ht) h⟩
theorem LW.len {E : kD} {n t i : Nat} {P : List Nat} (hE : DK E n) (ht : t < n) (h : LW E t i P) : P.length ≤ n := by
 obtain ⟨Q, h1, h2⟩ := h.1.bound hE ht
 rcases h.2 Q h1 with h3 | ⟨h3, -⟩ <;> omega
theorem LW.ne {E : kD} {t i : Nat} {P : List Nat} (h : LW E t i P) : P.length ≠ 0 := by have := h.1.pos; omega
structure BS (p : List Md) (a : fQ) (i k : Nat) (B : List Nat) : Prop where
 Q3 : tL (ri p) i (tW p a k) B
 lt : ∀ x ∈ B, x < (bP (ae p) p).length
 len : B.length ≤ (bP (ae p) p).length
theorem BS.zero (a : fQ) (i : Nat) : BS p a i 0 [] := ⟨tL.none fun t => tW.zero a t, fun x hx => by simp at hx, Nat.zero_le _⟩
section
variable {a : fQ} {i k : Nat} {B P : List Nat} {n : ByteArray} (h : BS p a i k B) (hn : a.syms[k]? = some n) (hP : PX p i (a.path, n) P)
include h hn hP
theorem PX.nonempty (h0 : P.length ≠ 0) : ∃ t, t < (bP (ae p) p).length ∧ (bP (ae p) p)[t]? = some (a.path, n) ∧ LW (ri p) t i P ∧ ∀ q, (tW p a k q ∨ q = t) ↔ tW p a (k + 1) q := by
 rcases hP with ⟨h1, -⟩ | ⟨t, h1, h2, h3⟩
 ·rw [h1] at h0; exact absurd rfl h0
 ·refine ⟨t, h1, h2, h3, fun q => ?_⟩
  rw [tW.succ hn]
  exact or_congr Iff.rfl ⟨fun e => by rw [e]; exact h2, fun e => Ag e h2⟩
theorem BS.none_ (h0 : P.length = 0) : BS p a i (k + 1) B := by
 refine ⟨?_, h.lt, h.len⟩
 have cT : ∀ t Q, (bP (ae p) p)[t]? = some (a.path, n) → ¬ Wk (ri p) t i Q := by
  rcases hP with ⟨-, h1⟩ | ⟨t, -, -, h3⟩
  ·exact h1
  ·exact absurd h0 h3.ne
 rcases h.Q3 with ⟨rfl, h1⟩ | ⟨⟨s, h1, h2⟩, h3⟩
 ·refine .inl ⟨rfl, fun t Q ht => ?_⟩
  rcases (tW.succ hn t).1 ht with ht | ht
  ·exact h1 t Q ht
  ·exact cT t Q ht
 ·refine .inr ⟨⟨s, (tW.succ hn s).2 (.inl h1), h2⟩, fun t Q ht hQ => ?_⟩
  rcases (tW.succ hn t).1 ht with ht | ht
  ·exact h3 t Q ht hQ
  ·exact absurd hQ (cT t Q ht)
theorem BS.first (h0 : P.length ≠ 0) (hB : B.length = 0) : BS p a i (k + 1) P := by
 obtain ⟨t, h1, h2, h3, h4⟩ := PX.nonempty h hn hP h0
 obtain rfl : B = [] := List.length_eq_zero_iff.1 hB
 exact ⟨(h.Q3.first h3).congr h4, h3.1.lt jV h1, h3.len jV h1⟩
theorem BS.swap (h0 : P.length ≠ 0) (hl : jy P B = true) : BS p a i (k + 1) P := by
 obtain ⟨t, h1, h2, h3, h4⟩ := PX.nonempty h hn hP h0
 exact ⟨(h.Q3.swap h3 hl).congr h4, h3.1.lt jV h1, h3.len jV h1⟩
theorem BS.P4 (h0 : P.length ≠ 0) (hB : B.length ≠ 0) (hl : jy P B = false) : BS p a i (k + 1) B := by
 obtain ⟨t, h1, h2, h3, h4⟩ := PX.nonempty h hn hP h0
 exact ⟨(h.Q3.P4 (fun e => hB (by rw [e]; rfl)) h3 hl).congr h4, h.lt, h.len⟩
end
end
end Go.Proofs.YtefbaladomfccaaGreatDoor
end

section
namespace Go.Proofs.YtefbaladomfccaaGreatDoor
open Go.Eng
open Nat renaming reduceAdd → zA, reduceLT → zB, reduceLeDiff → zC, reduceMul → zD, reduceEqDiff → zE, reduceSub → zF
variable [aK]
set_option maxHeartbeats 4000000
set_option maxRecDepth 100000
theorem vH {p : List Md} {b : Nat} (h : b < (bP (ae p) p).length) : (bP (ae p) p)[b]? = some (fH p b) := by
 rw [List.getElem?_eq_getElem h, iY (List.getElem?_eq_getElem h)]
def Dz (p : List Md) (B : List Nat) (c : Nat) : List V := (B.take c).map fun b => .agg [str (fH p b).1, str (fH p b).2]
theorem Ah (p : List Md) (B : List Nat) : Dz p B 0 = [] := rfl
theorem Ai (p : List Md) {B : List Nat} {c b : Nat} (h : B[c]? = some b) : Dz p B (c + 1) = Dz p B c ++ [.agg [str (fH p b).1, str (fH p b).2]] := by unfold Dz; rw [List.take_add_one, h]; simp
theorem rH (p : List Md) {B : List Nat} {c : Nat} (h : c ≤ B.length) : (Dz p B c).length = c := by unfold Dz; rw [List.length_map, List.length_take]; omega
theorem Jh (p : List Md) (B : List Nat) : Dz p B B.length = (B.map (fH p)).map az := by unfold Dz; rw [List.take_length, List.map_map]; rfl
theorem Qf (p : List Md) (hV : (bP (ae p) p).length ≤ 1024) (hE : (ri p).length ≤ 4096) (i : Nat) (hi : i < (bP (ae p) p).length) (u : Us) :
  ∃ r_, (∃ P : List Nat, r_ = V.slice (P.map iv) ∧ PX p i u P) ∧ aR Tryz.prog 48 [ff (bP (ae p) p).length (ri p), num (i : Int), num (lg (bP (ae p) p) u)] r_ := by
 rcases jz (bP (ae p) p) u with ⟨h1, h2⟩ | ⟨q, h1, h2⟩
 ·rw [h1]
  obtain ⟨_, rfl, h⟩ := FH _ _ hV hE jV i
  exact ⟨_, ⟨[], rfl, PX.no h2⟩, h⟩
 ·rw [h1]
  obtain ⟨_, ⟨P, rfl, hP⟩, h⟩ := I8 _ _ hV hE jV i q hi (List.getElem?_eq_some_iff.1 h2).1
  exact ⟨_, ⟨P, rfl, PX.of h2 hP⟩, h⟩
def Fin (p : List Md) (s : List kr) (a : fQ) (v : Us) (B : List Nat) : Prop := (B.length = 0 ∧ MR (ae p) v s a) ∨ (B.length ≠ 0 ∧ Q1 (ae p) v s a (B.map (fH p)))
theorem Fin.all {p : List Md} {s : List kr} {a : fQ} {v : Us} {i : Nat} {B : List Nat} (hi : (bP (ae p) p)[i]? = some v) (hV : (bP (ae p) p).length ≤ 1024) (h : BS p a i a.syms.length B) (hc : B.length ≠ 0 → s.any (fJ a) = true) : Fin p s a v B := by
 by_cases h0 : B.length = 0
 ·obtain rfl : B = [] := List.length_eq_zero_iff.1 h0
  exact .inl ⟨rfl, tL.skp hi h.Q3⟩
 ·exact .inr ⟨h0, tL.tak hi ⟨hc h0, by rw [List.length_map]; have := h.len; omega⟩ (fun e => h0 (by rw [e]; rfl)) h.Q3⟩
theorem Fin.none {p : List Md} {s : List kr} {a : fQ} {v : Us} {B : List Nat} (hc : B.length ≠ 0 → s.any (fJ a) = true) (h : s.any (fJ a) = false) : Fin p s a v B := by
 by_cases h0 : B.length = 0
 ·exact .inl ⟨h0, .inl h⟩
 ·rw [hc h0] at h; cases h
theorem DU (l : List Ix) (a : ByteArray) (B : List Nat) (p : List Md) : (l ++ [(⟨a, B.map (fH p)⟩ : Ix)]).map bT = l.map bT ++ [.agg [str a, .slice (Dz p B B.length)]] := by rw [List.map_append, Jh]; rfl
theorem FN (p : List Md) (hl : p.length ≤ 1048576) (hw : ∀ m ∈ p, m.wt ≤ 1048576) (hS : ak Md.wt p ≤ 1048576) (ZH : ak Md.val p ≤ 400) (s : List kr) (hs : s.length ≤ 1048576) (l : List fQ) (Jv : l.length ≤ 1048576) (jA : ∀ a ∈ l, MG a) (mo nm : ByteArray) : ∃ r_, (fun w => ∃ (F : V) (e : Int), w = V.ch [F, num e] ∧ e = mu (ae p) s l (mo, nm) ∧ ((e ≠ 0 ∧ F = V.slice []) ∨ (e = 0 ∧ ∃ v fl, leads (ae p) (mo, nm) = some v ∧ lG (ae p) v s l fl ∧ F = V.slice (fl.map bT)))) r_ ∧ aR Tryz.prog 12 [.slice (p.map dv), .slice (s.map a6), .slice (l.map ay), str mo, str nm] r_ := by
 refine eu tt_ok [29,30] 142 [.tmp 10, .tmp 11] (fn := Tryz.f12) Tryz.func12 rfl Tryz.call12 ⟨rfl, rfl, by simp⟩ fun K hK => ?_
 have hgs := Jf (p := p)
 have hV : (bP (ae p) p).length ≤ 1024 := by omega
 have hE4 : (ri p).length ≤ 4096 := by omega
 simp only [List.length_map,go_sem,reduceIte,zA,zB,zC,zD,zE,zF,reduceCtorEq]
 refine cF (LG l Jv jA) ?_
 rintro _ rfl
 simp only [List.length_map,go_sem,reduceIte,zA,zB,zC,zD,zE,zF,reduceCtorEq]
 refine aT (fun Cv => ?_) (fun Cv => ?_)
 ·have he : iX l ≠ 0 := by simpa using Cv
  have ax : ((fun w => ∃ (F : V) (e : Int), w = V.ch [F, num e] ∧ e = mu (ae p) s l (mo, nm) ∧ ((e ≠ 0 ∧ F = V.slice []) ∨ (e = 0 ∧ ∃ v fl, leads (ae p) (mo, nm) = some v ∧ lG (ae p) v s l fl ∧ F = V.slice (fl.map bT))))) (.ch [.slice [], num (iX l)]) := ⟨_, _, rfl, (MS he).symm, .inl ⟨he, rfl⟩⟩
  simp only [List.length_map,go_sem,reduceIte,zA,zB,zC,zD,zE,zF,reduceCtorEq]
  exact hK _ ax
 ·have hA : iX l = 0 := by simpa using Cv
  simp only [List.length_map,go_sem,reduceIte,zA,zB,zC,zD,zE,zF,reduceCtorEq]
  refine cF (IV s hs) ?_
  rintro _ rfl
  simp only [List.length_map,go_sem,reduceIte,zA,zB,zC,zD,zE,zF,reduceCtorEq]
  refine aT (fun w8 => ?_) (fun w8 => ?_)
  ·have xq : nY s = false := by simpa using w8
   have ax : ((fun w => ∃ (F : V) (e : Int), w = V.ch [F, num e] ∧ e = mu (ae p) s l (mo, nm) ∧ ((e ≠ 0 ∧ F = V.slice []) ∨ (e = 0 ∧ ∃ v fl, leads (ae p) (mo, nm) = some v ∧ lG (ae p) v s l fl ∧ F = V.slice (fl.map bT))))) (.ch [.slice [], num 1]) := ⟨_, 1, rfl, (MT hA xq).symm, .inl ⟨by decide, rfl⟩⟩
   simp only [List.length_map,go_sem,reduceIte,zA,zB,zC,zD,zE,zF,reduceCtorEq]
   exact hK _ ax
  ·have xq : nY s = true := by simpa using w8
   rcases (by cases h : leads (ae p) (mo, nm) with | none => exact .inr rfl | some v => exact .inl ⟨v, rfl⟩ : (∃ v, leads (ae p) (mo, nm) = some v) ∨ leads (ae p) (mo, nm) = none) with ⟨v, gW⟩ | gW
   ·have hva : v ∈ (bP (ae p) p) := mz.2 ((kE _ _).2 (gK gW))
    obtain ⟨i0, hpv, AJ⟩ : ∃ i0 : Nat, lg (bP (ae p) p) v = (i0 : Int) ∧ (bP (ae p) p)[i0]? = some v := by rcases jz (bP (ae p) p) v with ⟨-, h⟩ | h; exact absurd hva h; exact h
    have XW : i0 < (bP (ae p) p).length := (List.getElem?_eq_some_iff.1 AJ).1
    simp only [List.length_map,go_sem,reduceIte,zA,zB,zC,zD,zE,zF,reduceCtorEq]
    refine cF (by obtain ⟨_, rfl, h⟩ := iq p (mo, nm) hl hw; rw [gh gW] at h; exact ⟨_, rfl, h⟩) ?_
    rintro _ rfl
    simp only [List.length_map,go_sem,reduceIte,zA,zB,zC,zD,zE,zF,reduceCtorEq]
    refine cF (IZ p hl hw hS) ?_
    rintro _ rfl
    simp only [List.length_map,go_sem,reduceIte,zA,zB,zC,zD,zE,zF,reduceCtorEq]
    refine cF (by have h : ∃ r_, (fun w => w = ff (bP (ae p) p).length (ri p)) r_ ∧ _ := FD p hl hw hS (bP (ae p) p) (by omega) (fun u hu t ht => mB hu ht) (by have h9 : (ri p).length ≤ 1048576 := (by omega); exact h9); simp only [ff,DO] at h; exact h) ?_
    rintro _ rfl
    simp only [List.length_map,go_sem,reduceIte,zA,zB,zC,zD,zE,zF,reduceCtorEq]
    refine dk tt_ok [29,30] (fun x : Nat × List Ix => [(0, .slice (p.map dv)), (1, .slice (s.map a6)), (2, .slice (l.map ay)), (13, .ptr 0 0), (15, .slice ((bP (ae p) p).map az)), (16, .ptr 1 0), (17, .ms 2 x.2.length 0 x.2.length), (18, num x.1)]) (fun x : Nat × List Ix => [.box [str v.1, str v.2], .box [.slice (List.replicate (bP (ae p) p).length (str ⟨#[]⟩)), .slice ((ri p).map cU)], .rows x.2.length 2 (x.2.map bT)]) (fun x => l.length - x.1) (fun x => x.1 ≤ l.length ∧ lG (ae p) v s (l.take x.1) x.2) ((0, [])) 3 (bz (by omega) (by simp only [List.length_map,List.map_nil,List.length_nil,Int.cast_ofNat_Int,go_sem,reduceIte,zA,zB,zC,zD,zE,zF,reduceCtorEq] <;> rfl)) (⟨Nat.zero_le _, .nil⟩) ?_
    intro ⟨i, fl⟩ ⟨hi, M6⟩
    try dsimp only at hi M6
    try dsimp only
    have Ma := M6.len
    rw [List.length_take] at Ma
    intro Z1 bX
    simp only [List.length_map,go_sem,reduceIte,zA,zB,zC,zD,zE,zF,reduceCtorEq]
    refine aT (fun Cu => ?_) (fun Cu => ?_)
    ·have bD : i < l.length := by simpa using Cu
     have aP := aq i (by omega)
     obtain ⟨a, hx⟩ : ∃ a, l[i]? = some a := ⟨_, List.getElem?_eq_getElem bD⟩
     obtain ⟨T6, xO, T7⟩ := jA a (List.mem_of_getElem? hx)
     have qd : l.take (i + 1) = l.take i ++ [a] := by rw [List.take_add_one, hx]; rfl
     have iL : (i : Int) < (l.length : Int) := by omega
     simp only [aP,hx,iL,List.getElem?_map,ay,aj,List.length_map,go_sem,reduceIte,zA,zB,zC,zD,zE,zF,reduceCtorEq]
     refine o0 (v' := .slice []) 19 (by decide) rfl rfl ?_
     refine dk tt_ok [29,30] (fun b : Nat × List Nat => [(0, .slice (p.map dv)), (1, .slice (s.map a6)), (2, .slice (l.map ay)), (13, .ptr 0 0), (15, .slice ((bP (ae p) p).map az)), (16, .ptr 1 0), (17, .ms 2 fl.length 0 fl.length), (18, num i), (19, .slice (b.2.map iv)), (20, num b.1)]) (fun b : Nat × List Nat => [.box [str v.1, str v.2], .box [.slice (List.replicate (bP (ae p) p).length (str ⟨#[]⟩)), .slice ((ri p).map cU)], .rows fl.length 2 (fl.map bT)]) (fun b => a.syms.length - b.1) (fun b => b.1 ≤ a.syms.length ∧ BS p a i0 b.1 b.2 ∧ (b.2.length ≠ 0 → s.any (fJ a) = true)) ((0, [])) 3 (bz (by omega) (by simp only [aP,hx,iL,List.getElem?_map,ay,aj,List.length_map,List.map_nil,Int.cast_ofNat_Int,go_sem,reduceIte,zA,zB,zC,zD,zE,zF,reduceCtorEq] <;> rfl)) (⟨Nat.zero_le _, BS.zero a i0, fun h => absurd rfl h⟩) ?_
     intro ⟨k, B⟩ ⟨hk, hB, Ee⟩
     try dsimp only at hk hB Ee
     try dsimp only
     have Xx := hB.len
     intro Z2 jD
     simp only [aP,hx,iL,List.getElem?_map,ay,aj,List.length_map,go_sem,reduceIte,zA,zB,zC,zD,zE,zF,reduceCtorEq]
     refine aT (fun Cz => ?_) (fun Cz => ?_)
     ·have n9 : k < a.syms.length := by simpa using Cz
      have fK := aq k (by omega)
      obtain ⟨n, hn⟩ : ∃ n, a.syms[k]? = some n := ⟨_, List.getElem?_eq_getElem n9⟩
      have iK : (k : Int) < (a.syms.length : Int) := by omega
      simp only [aP,hx,iL,List.getElem?_map,ay,aj,fK,hn,iK,List.length_map,go_sem,reduceIte,zA,zB,zC,zD,zE,zF,reduceCtorEq]
      refine cF (by have h := IU a xO s hs; simp only [ay,aj] at h; exact h) ?_
      rintro _ rfl
      simp only [aP,hx,iL,List.getElem?_map,ay,aj,fK,hn,iK,List.length_map,go_sem,reduceIte,zA,zB,zC,zD,zE,zF,reduceCtorEq]
      refine aT (fun FO => ?_) (fun FO => ?_)
      ·obtain ⟨_, ⟨P, rfl, hP⟩, bO⟩ := Qf p hV hE4 i0 XW (a.path, n)
       simp only [ff,DO] at bO
       have QO : P.length ≤ (bP (ae p) p).length := by rcases hP with ⟨h, -⟩ | ⟨t, h1, -, h3⟩; rw [h]; exact Nat.zero_le _; exact h3.len jV h1
       simp only [aP,hx,iL,List.getElem?_map,ay,aj,fK,hn,iK,List.length_map,go_sem,reduceIte,zA,zB,zC,zD,zE,zF,reduceCtorEq]
       refine bR tt_ok aN [⟨.n, 0, [], [], []⟩, ⟨.n, 0, [], [], []⟩, ⟨.n, 0, [], [], []⟩, ⟨.r, 0, [], [], []⟩, ⟨.n, 0, [], [], []⟩, ⟨.r, 0, [], [], []⟩, ⟨.n, 0, [], [], []⟩, ⟨.n, 0, [], [], []⟩, ⟨.r, 0, [], [], []⟩, ⟨.n, 0, [], [], []⟩, ⟨.r, 0, [], [], []⟩, ⟨.n, 0, [], [], []⟩, ⟨.r, 0, [], [], []⟩, ⟨.r, 0, [], [], []⟩, ⟨.n, 0, [], [], []⟩, ⟨.n, 0, [], [], []⟩, ⟨.n, 0, [], [], []⟩] 0 (by kernel_rfl) ?_
       simp only [aP,hx,iL,List.getElem?_map,ay,aj,fK,hn,iK,List.length_map,go_sem,reduceIte,zA,zB,zC,zD,zE,zF,reduceCtorEq]
       refine cG (by have h := xv (bP (ae p) p) (a.path, n) (by omega); simp only [az] at h; exact h) ?_
       rintro _ rfl
       simp only [aP,hx,iL,List.getElem?_map,ay,aj,fK,hn,iK,List.length_map,go_sem,reduceIte,zA,zB,zC,zD,zE,zF,reduceCtorEq]
       refine bR tt_ok aN [⟨.r, 0, [], [], []⟩, ⟨.n, 0, [], [], []⟩, ⟨.r, 0, [], [], []⟩, ⟨.n, 0, [], [], []⟩, ⟨.n, 0, [], [], []⟩, ⟨.n, 0, [], [], []⟩, ⟨.n, 0, [], [], []⟩] 0 (by kernel_rfl) ?_
       simp only [aP,hx,iL,List.getElem?_map,ay,aj,fK,hn,iK,List.length_map,go_sem,reduceIte,zA,zB,zC,zD,zE,zF,reduceCtorEq]
       refine cG (by have h := xv (bP (ae p) p) v (by omega); rw [hpv] at h; simp only [az] at h; exact h) ?_
       rintro _ rfl
       simp only [aP,hx,iL,List.getElem?_map,ay,aj,fK,hn,iK,List.length_map,go_sem,reduceIte,zA,zB,zC,zD,zE,zF,reduceCtorEq]
       refine cG (⟨_, rfl, bO⟩) ?_
       rintro _ rfl
       simp only [aP,hx,iL,List.getElem?_map,ay,aj,fK,hn,iK,List.length_map,go_sem,reduceIte,zA,zB,zC,zD,zE,zF,reduceCtorEq]
       refine aT (fun CA => ?_) (fun CA => ?_)
       ·have Uq : P.length ≠ 0 := by have := of_decide_eq_true CA; omega
        simp only [aP,hx,iL,List.getElem?_map,ay,aj,fK,hn,iK,List.length_map,go_sem,reduceIte,zA,zB,zC,zD,zE,zF,reduceCtorEq]
        refine aT (fun CB => ?_) (fun CB => ?_)
        ·have qx : B.length = 0 := by have := of_decide_eq_true CB; omega
         obtain ⟨B2, Ji⟩ : ∃ B2, B2 = P := ⟨_, rfl⟩
         have DD : BS p a i0 (k + 1) B2 := by rw [Ji]; exact BS.first hB hn hP Uq qx
         simp only [aP,hx,iL,List.getElem?_map,ay,aj,fK,hn,iK,List.length_map,go_sem,reduceIte,zA,zB,zC,zD,zE,zF,reduceCtorEq]
         refine jD _ ⟨(k + 1, B2), ?_, ?_, bz (by omega) (by (simp only [fK,Ji,go_sem,reduceIte,zA,zB,zC,zD,zE,zF,reduceCtorEq]))⟩
         ·exact ⟨n9, DD, fun _ => FO⟩
         ·dsimp only; omega
        ·have qx : B.length ≠ 0 := by have := of_decide_eq_false CB; omega
         simp only [aP,hx,iL,List.getElem?_map,ay,aj,fK,hn,iK,List.length_map,go_sem,reduceIte,zA,zB,zC,zD,zE,zF,reduceCtorEq]
         refine cF (I6 P B (by omega)) ?_
         rintro _ rfl
         simp only [aP,hx,iL,List.getElem?_map,ay,aj,fK,hn,iK,List.length_map,go_sem,reduceIte,zA,zB,zC,zD,zE,zF,reduceCtorEq]
         refine aT (fun Jj => ?_) (fun Jj => ?_)
         ·obtain ⟨B2, Ji⟩ : ∃ B2, B2 = P := ⟨_, rfl⟩
          have DD : BS p a i0 (k + 1) B2 := by rw [Ji]; exact BS.swap hB hn hP Uq Jj
          simp only [aP,hx,iL,List.getElem?_map,ay,aj,fK,hn,iK,List.length_map,go_sem,reduceIte,zA,zB,zC,zD,zE,zF,reduceCtorEq]
          refine jD _ ⟨(k + 1, B2), ?_, ?_, bz (by omega) (by (simp only [fK,Ji,go_sem,reduceIte,zA,zB,zC,zD,zE,zF,reduceCtorEq]))⟩
          ·exact ⟨n9, DD, fun _ => FO⟩
          ·dsimp only; omega
         ·obtain ⟨B2, Ji⟩ : ∃ B2, B2 = B := ⟨_, rfl⟩
          have DD : BS p a i0 (k + 1) B2 := by rw [Ji]; exact BS.P4 hB hn hP Uq qx Jj
          simp only [aP,hx,iL,List.getElem?_map,ay,aj,fK,hn,iK,List.length_map,go_sem,reduceIte,zA,zB,zC,zD,zE,zF,reduceCtorEq]
          refine jD _ ⟨(k + 1, B2), ?_, ?_, bz (by omega) (by (simp only [fK,Ji,go_sem,reduceIte,zA,zB,zC,zD,zE,zF,reduceCtorEq]))⟩
          ·exact ⟨n9, DD, fun _ => FO⟩
          ·dsimp only; omega
       ·have Uq : P.length = 0 := by have := of_decide_eq_false CA; omega
        obtain ⟨B2, Ji⟩ : ∃ B2, B2 = B := ⟨_, rfl⟩
        have DD : BS p a i0 (k + 1) B2 := by rw [Ji]; exact BS.none_ hB hn hP Uq
        simp only [aP,hx,iL,List.getElem?_map,ay,aj,fK,hn,iK,List.length_map,go_sem,reduceIte,zA,zB,zC,zD,zE,zF,reduceCtorEq]
        refine jD _ ⟨(k + 1, B2), ?_, ?_, bz (by omega) (by (simp only [fK,Ji,go_sem,reduceIte,zA,zB,zC,zD,zE,zF,reduceCtorEq]))⟩
        ·exact ⟨n9, DD, fun _ => FO⟩
        ·dsimp only; omega
      ·have qc : Fin p s a v B := Fin.none Ee FO
       simp only [aP,hx,iL,List.getElem?_map,ay,aj,fK,hn,iK,List.length_map,go_sem,reduceIte,zA,zB,zC,zD,zE,zF,reduceCtorEq]
       refine wW 3 1 0 2 rfl rfl ?_
       refine dk tt_ok [29,30] (fun c : Nat => [(0, .slice (p.map dv)), (1, .slice (s.map a6)), (2, .slice (l.map ay)), (13, .ptr 0 0), (15, .slice ((bP (ae p) p).map az)), (16, .ptr 1 0), (17, .ms 2 fl.length 0 fl.length), (18, num i), (19, .slice (B.map iv)), (23, .ptr 3 0), (24, num c)]) (fun c : Nat => [.box [str v.1, str v.2], .box [.slice (List.replicate (bP (ae p) p).length (str ⟨#[]⟩)), .slice ((ri p).map cU)], .rows fl.length 2 (fl.map bT), .box [str a.id, .ms 4 c 0 c], .rows c 2 (Dz p B c)]) (fun c => B.length - c) (fun c => c ≤ B.length) (0) 5 (bz (by omega) (by simp only [aP,hx,iL,List.getElem?_map,ay,aj,fK,hn,iK,List.length_map,Ah,Int.cast_ofNat_Int,go_sem,reduceIte,zA,zB,zC,zD,zE,zF,reduceCtorEq] <;> rfl)) (Nat.zero_le _) ?_
       intro c hc
       try dsimp only
       intro Z3 Ca
       simp only [aP,hx,iL,List.getElem?_map,ay,aj,fK,hn,iK,List.length_map,go_sem,reduceIte,zA,zB,zC,zD,zE,zF,reduceCtorEq]
       refine aT (fun tS => ?_) (fun tS => ?_)
       ·have Jk : c < B.length := by simpa using tS
        have JX := aq c (by omega)
        obtain ⟨b, hb⟩ : ∃ b, B[c]? = some b := ⟨_, List.getElem?_eq_getElem Jk⟩
        have qE := hB.lt b (List.mem_of_getElem? hb)
        have DQ := vH qE
        have iB : (b : Int) < ((bP (ae p) p).length : Int) := by omega
        have gj := rH p hc
        have nu : c + 1 ≤ 34359738368 := by omega
        simp only [aP,hx,iL,List.getElem?_map,ay,aj,fK,hn,iK,JX,hb,DQ,iB,nu,gj,dy,List.getElem?_map,iv,az,List.length_map,go_sem,reduceIte,zA,zB,zC,zD,zE,zF,reduceCtorEq]
        refine bR tt_ok aN [⟨.n, 0, [], [], []⟩, ⟨.r, 0, [], [0], []⟩, ⟨.n, 0, [], [], []⟩, ⟨.n, 0, [], [], []⟩, ⟨.n, 0, [], [], []⟩, ⟨.r, 0, [], [3,4], []⟩, ⟨.r, 0, [], [3,4,5], []⟩, ⟨.r, 0, [], [2,3,4,5,6], []⟩, ⟨.r, 0, [], [2,3,4,5,6,7], []⟩, ⟨.n, 0, [], [2,3,4,5,6,7,8], []⟩, ⟨.w, 0, [], [0,1,2,3,4,5,6,7,8,9], []⟩, ⟨.n, 0, [], [0,1,2,3,4,5,6,7,8,9,10], []⟩, ⟨.w, 1, [], [0,1,2,3,4,5,6,7,8,9,10,11], []⟩] 2 (by kernel_rfl) ?_
        simp only [aP,hx,iL,List.getElem?_map,ay,aj,fK,hn,iK,JX,hb,DQ,iB,nu,gj,dy,List.getElem?_map,iv,az,List.length_map,go_sem,reduceIte,zA,zB,zC,zD,zE,zF,reduceCtorEq]
        refine Ca _ ⟨c + 1, ?_, ?_, bz (by omega) (by (simp only [JX,Ai p hb,re,gj,go_sem,reduceIte,zA,zB,zC,zD,zE,zF,reduceCtorEq]))⟩
        ·exact Jk
        ·omega
       ·have Qg : c = B.length := by have := of_decide_eq_false tS; omega
        have gj := rH p hc
        subst Qg
        simp only [aP,hx,iL,List.getElem?_map,ay,aj,fK,hn,iK,List.length_map,go_sem,reduceIte,zA,zB,zC,zD,zE,zF,reduceCtorEq]
        refine aT (fun tT => ?_) (fun tT => ?_)
        ·have qx : B.length ≠ 0 := by have := of_decide_eq_true tT; omega
         have Qh := (qc.resolve_left fun h => qx h.1).2
         obtain ⟨vI, EB⟩ : ∃ vI, vI = fl ++ [⟨a.id, B.map (fH p)⟩] := ⟨_, rfl⟩
         have ec : lG (ae p) v s (l.take i ++ [a]) vI := by rw [EB]; exact M6.pe Qh
         have nu : fl.length + 1 ≤ 34359738368 := by omega
         simp only [aP,hx,iL,List.getElem?_map,ay,aj,fK,hn,iK,nu,dy,List.length_map,go_sem,reduceIte,zA,zB,zC,zD,zE,zF,reduceCtorEq]
         refine pY (k := 3) (vs' := [str a.id, .slice (Dz p B B.length)]) rfl (by simp [dx, dR, br, kP, gj, List.take_of_length_le]) ?_
         refine EG tt_ok ?_
         simp only [aP,hx,iL,List.getElem?_map,ay,aj,fK,hn,iK,nu,dy,List.length_map,go_sem,reduceIte,zA,zB,zC,zD,zE,zF,reduceCtorEq]
         refine bX _ ⟨(i + 1, vI), ?_, ?_, bz (by omega) (by (simp only [aP,EB,re,List.length_map,DU,go_sem,reduceIte,zA,zB,zC,zD,zE,zF,reduceCtorEq]))⟩
         ·exact ⟨bD, by rw [qd]; exact ec⟩
         ·dsimp only; omega
        ·have qx : B.length = 0 := by have := of_decide_eq_false tT; omega
         have Qi := (qc.resolve_right fun h => h.1 qx).2
         obtain ⟨vI, EB⟩ : ∃ vI, vI = fl := ⟨_, rfl⟩
         have ec : lG (ae p) v s (l.take i ++ [a]) vI := by rw [EB]; exact M6.mr Qi
         simp only [aP,hx,iL,List.getElem?_map,ay,aj,fK,hn,iK,List.length_map,go_sem,reduceIte,zA,zB,zC,zD,zE,zF,reduceCtorEq]
         refine bX _ ⟨(i + 1, vI), ?_, ?_, bz (by omega) (by (simp only [aP,EB,re,List.length_map,DU,go_sem,reduceIte,zA,zB,zC,zD,zE,zF,reduceCtorEq]))⟩
         ·exact ⟨bD, by rw [qd]; exact ec⟩
         ·dsimp only; omega
     ·have I0 : k = a.syms.length := by have := of_decide_eq_false Cz; omega
      have qc : Fin p s a v B := Fin.all AJ hV (by rw [← I0]; exact hB) Ee
      simp only [aP,hx,iL,List.getElem?_map,ay,aj,List.length_map,go_sem,reduceIte,zA,zB,zC,zD,zE,zF,reduceCtorEq]
      refine wW 3 1 0 2 rfl rfl ?_
      refine dk tt_ok [29,30] (fun c : Nat => [(0, .slice (p.map dv)), (1, .slice (s.map a6)), (2, .slice (l.map ay)), (13, .ptr 0 0), (15, .slice ((bP (ae p) p).map az)), (16, .ptr 1 0), (17, .ms 2 fl.length 0 fl.length), (18, num i), (19, .slice (B.map iv)), (23, .ptr 3 0), (24, num c)]) (fun c : Nat => [.box [str v.1, str v.2], .box [.slice (List.replicate (bP (ae p) p).length (str ⟨#[]⟩)), .slice ((ri p).map cU)], .rows fl.length 2 (fl.map bT), .box [str a.id, .ms 4 c 0 c], .rows c 2 (Dz p B c)]) (fun c => B.length - c) (fun c => c ≤ B.length) (0) 5 (bz (by omega) (by simp only [aP,hx,iL,List.getElem?_map,ay,aj,List.length_map,Ah,Int.cast_ofNat_Int,go_sem,reduceIte,zA,zB,zC,zD,zE,zF,reduceCtorEq] <;> rfl)) (Nat.zero_le _) ?_
      intro c hc
      try dsimp only
      intro Z4 QY
      simp only [aP,hx,iL,List.getElem?_map,ay,aj,List.length_map,go_sem,reduceIte,zA,zB,zC,zD,zE,zF,reduceCtorEq]
      refine aT (fun tS => ?_) (fun tS => ?_)
      ·have Jk : c < B.length := by simpa using tS
       have JX := aq c (by omega)
       obtain ⟨b, hb⟩ : ∃ b, B[c]? = some b := ⟨_, List.getElem?_eq_getElem Jk⟩
       have qE := hB.lt b (List.mem_of_getElem? hb)
       have DQ := vH qE
       have iB : (b : Int) < ((bP (ae p) p).length : Int) := by omega
       have gj := rH p hc
       have nu : c + 1 ≤ 34359738368 := by omega
       simp only [aP,hx,iL,List.getElem?_map,ay,aj,JX,hb,DQ,iB,nu,gj,dy,List.getElem?_map,iv,az,List.length_map,go_sem,reduceIte,zA,zB,zC,zD,zE,zF,reduceCtorEq]
       refine bR tt_ok aN [⟨.n, 0, [], [], []⟩, ⟨.r, 0, [], [0], []⟩, ⟨.n, 0, [], [], []⟩, ⟨.n, 0, [], [], []⟩, ⟨.n, 0, [], [], []⟩, ⟨.r, 0, [], [3,4], []⟩, ⟨.r, 0, [], [3,4,5], []⟩, ⟨.r, 0, [], [2,3,4,5,6], []⟩, ⟨.r, 0, [], [2,3,4,5,6,7], []⟩, ⟨.n, 0, [], [2,3,4,5,6,7,8], []⟩, ⟨.w, 0, [], [0,1,2,3,4,5,6,7,8,9], []⟩, ⟨.n, 0, [], [0,1,2,3,4,5,6,7,8,9,10], []⟩, ⟨.w, 1, [], [0,1,2,3,4,5,6,7,8,9,10,11], []⟩] 2 (by kernel_rfl) ?_
       simp only [aP,hx,iL,List.getElem?_map,ay,aj,JX,hb,DQ,iB,nu,gj,dy,List.getElem?_map,iv,az,List.length_map,go_sem,reduceIte,zA,zB,zC,zD,zE,zF,reduceCtorEq]
       refine QY _ ⟨c + 1, ?_, ?_, bz (by omega) (by (simp only [JX,Ai p hb,re,gj,go_sem,reduceIte,zA,zB,zC,zD,zE,zF,reduceCtorEq]))⟩
       ·exact Jk
       ·omega
      ·have Qg : c = B.length := by have := of_decide_eq_false tS; omega
       have gj := rH p hc
       subst Qg
       simp only [aP,hx,iL,List.getElem?_map,ay,aj,List.length_map,go_sem,reduceIte,zA,zB,zC,zD,zE,zF,reduceCtorEq]
       refine aT (fun tT => ?_) (fun tT => ?_)
       ·have qx : B.length ≠ 0 := by have := of_decide_eq_true tT; omega
        have Qh := (qc.resolve_left fun h => qx h.1).2
        obtain ⟨vI, EB⟩ : ∃ vI, vI = fl ++ [⟨a.id, B.map (fH p)⟩] := ⟨_, rfl⟩
        have ec : lG (ae p) v s (l.take i ++ [a]) vI := by rw [EB]; exact M6.pe Qh
        have nu : fl.length + 1 ≤ 34359738368 := by omega
        simp only [aP,hx,iL,List.getElem?_map,ay,aj,nu,dy,List.length_map,go_sem,reduceIte,zA,zB,zC,zD,zE,zF,reduceCtorEq]
        refine pY (k := 3) (vs' := [str a.id, .slice (Dz p B B.length)]) rfl (by simp [dx, dR, br, kP, gj, List.take_of_length_le]) ?_
        refine EG tt_ok ?_
        simp only [aP,hx,iL,List.getElem?_map,ay,aj,nu,dy,List.length_map,go_sem,reduceIte,zA,zB,zC,zD,zE,zF,reduceCtorEq]
        refine bX _ ⟨(i + 1, vI), ?_, ?_, bz (by omega) (by (simp only [aP,EB,re,List.length_map,DU,go_sem,reduceIte,zA,zB,zC,zD,zE,zF,reduceCtorEq]))⟩
        ·exact ⟨bD, by rw [qd]; exact ec⟩
        ·dsimp only; omega
       ·have qx : B.length = 0 := by have := of_decide_eq_false tT; omega
        have Qi := (qc.resolve_right fun h => h.1 qx).2
        obtain ⟨vI, EB⟩ : ∃ vI, vI = fl := ⟨_, rfl⟩
        have ec : lG (ae p) v s (l.take i ++ [a]) vI := by rw [EB]; exact M6.mr Qi
        simp only [aP,hx,iL,List.getElem?_map,ay,aj,List.length_map,go_sem,reduceIte,zA,zB,zC,zD,zE,zF,reduceCtorEq]
        refine bX _ ⟨(i + 1, vI), ?_, ?_, bz (by omega) (by (simp only [aP,EB,re,List.length_map,DU,go_sem,reduceIte,zA,zB,zC,zD,zE,zF,reduceCtorEq]))⟩
        ·exact ⟨bD, by rw [qd]; exact ec⟩
        ·dsimp only; omega
    ·have gw : i = l.length := by have := of_decide_eq_false Cu; omega
     rw [gw, List.take_length] at M6
     have ax : ((fun w => ∃ (F : V) (e : Int), w = V.ch [F, num e] ∧ e = mu (ae p) s l (mo, nm) ∧ ((e ≠ 0 ∧ F = V.slice []) ∨ (e = 0 ∧ ∃ v fl, leads (ae p) (mo, nm) = some v ∧ lG (ae p) v s l fl ∧ F = V.slice (fl.map bT))))) (.ch [.slice (fl.map bT), num 0]) := ⟨_, 0, rfl, (MV hA xq gW).symm, .inr ⟨rfl, v, fl, gW, M6, rfl⟩⟩
     simp only [List.length_map,go_sem,reduceIte,zA,zB,zC,zD,zE,zF,reduceCtorEq]
     refine o0 (v' := .slice (fl.map bT)) 17 (by decide) rfl (by first | (simp only [dR,br,List.getElem?_cons_succ,List.getElem?_cons_zero]; simp; exact List.take_of_length_le (by simp)) | (simp [lk, dR, br]; exact List.take_of_length_le (by simp)) | simp [lk, dR, br, List.take_of_length_le]) ?_
     refine Mw tt_ok [29,30] ?_
     simp only [List.length_map,go_sem,reduceIte,zA,zB,zC,zD,zE,zF,reduceCtorEq]
     exact hK _ ax
   ·have ax : ((fun w => ∃ (F : V) (e : Int), w = V.ch [F, num e] ∧ e = mu (ae p) s l (mo, nm) ∧ ((e ≠ 0 ∧ F = V.slice []) ∨ (e = 0 ∧ ∃ v fl, leads (ae p) (mo, nm) = some v ∧ lG (ae p) v s l fl ∧ F = V.slice (fl.map bT))))) (.ch [.slice [], num 6]) := ⟨_, 6, rfl, (MU hA xq gW).symm, .inl ⟨by decide, rfl⟩⟩
    simp only [List.length_map,go_sem,reduceIte,zA,zB,zC,zD,zE,zF,reduceCtorEq]
    refine cF (by obtain ⟨_, rfl, h⟩ := iq p (mo, nm) hl hw; rw [fw gW] at h; exact ⟨_, rfl, h⟩) ?_
    rintro _ rfl
    simp only [List.length_map,go_sem,reduceIte,zA,zB,zC,zD,zE,zF,reduceCtorEq]
    exact hK _ ax
theorem Aj (a b : List Ix) (hl : a.length ≤ 1048576) (hc : ∀ f ∈ a, f.chain.length ≤ 1048576) : ∃ r_, (fun w => a = b → w = bl true) r_ ∧ aR Tryz.prog 13 [.slice (a.map bT), .slice (b.map bT)] r_ := by
 refine eu tt_ok [] 42 [.tmp 4] (fn := Tryz.f13) Tryz.func13 rfl Tryz.call13 ⟨rfl, rfl, by simp⟩ fun K hK => ?_
 simp only [List.length_map,aJ,go_sem,reduceIte,zA,zB,zC,zD,zE,zF,reduceCtorEq]
 refine aT (fun fI => ?_) (fun fI => ?_)
 ·have bL : a ≠ b := fun e => by rw [e] at fI; simp at fI
  simp only [List.length_map,aJ,go_sem,reduceIte,zA,zB,zC,zD,zE,zF,reduceCtorEq]
  exact hK _ (fun e => by first | rfl | exact absurd e bL)
 ·have ob : a.length = b.length := by have := fI; simp at this; omega
  simp only [List.length_map,aJ,go_sem,reduceIte,zA,zB,zC,zD,zE,zF,reduceCtorEq]
  refine bk tt_ok [] [5] 0 [0,1,10] (fun vs => ((a.length : Int) - Go.Eng.intOf (vs.headD .undef)).toNat) (fun vs => ∃ i : Nat, vs = [num i] ∧ i ≤ a.length) (by omega) (by simp only [List.length_map,aJ,go_sem,reduceIte,zA,zB,zC,zD,zE,zF,reduceCtorEq]) (⟨0, rfl, Nat.zero_le _⟩) fun vs hI Z1 bX => ?_
  obtain ⟨i, rfl, hi⟩ := hI
  simp only [List.length_map,aJ,go_sem,reduceIte,zA,zB,zC,zD,zE,zF,reduceCtorEq]
  refine aT (fun il => ?_) (fun il => ?_)
  ·have bD : i < a.length := by simpa using il
   have aP := aq i (by omega)
   obtain ⟨x, hx⟩ : ∃ x, a[i]? = some x := ⟨_, List.getElem?_eq_getElem bD⟩
   obtain ⟨y, hy⟩ : ∃ y, b[i]? = some y := ⟨_, List.getElem?_eq_getElem (by omega)⟩
   simp only [aP,hx,hy,List.getElem?_map,bT,List.length_map,aJ,go_sem,reduceIte,zA,zB,zC,zD,zE,zF,reduceCtorEq]
   refine bR tt_ok aN [⟨.n, 0, [], [], []⟩, ⟨.n, 0, [], [], []⟩, ⟨.r, 0, [], [], []⟩, ⟨.n, 0, [], [], []⟩, ⟨.r, 0, [], [], []⟩, ⟨.n, 0, [], [], []⟩, ⟨.n, 0, [], [], []⟩, ⟨.r, 0, [], [], []⟩, ⟨.n, 0, [], [], []⟩, ⟨.r, 0, [], [], []⟩, ⟨.n, 0, [], [], []⟩, ⟨.n, 0, [], [], []⟩, ⟨.n, 0, [], [], []⟩, ⟨.n, 0, [], [], []⟩, ⟨.r, 0, [], [], []⟩, ⟨.n, 0, [], [], []⟩, ⟨.r, 0, [], [], []⟩, ⟨.n, 0, [], [], []⟩, ⟨.n, 0, [], [], []⟩, ⟨.r, 0, [], [], []⟩, ⟨.n, 0, [], [], []⟩, ⟨.r, 0, [], [], []⟩, ⟨.n, 0, [], [], []⟩, ⟨.n, 0, [], [], []⟩, ⟨.n, 0, [], [], []⟩] 0 (by kernel_rfl) ?_
   simp only [aP,hx,hy,List.getElem?_map,bT,List.length_map,aJ,go_sem,reduceIte,zA,zB,zC,zD,zE,zF,reduceCtorEq]
   refine aT (fun Jl => ?_) (fun Jl => ?_)
   ·have bL : a ≠ b := fun e => by rw [e, hy] at hx; cases hx; simp at Jl
    simp only [aP,hx,hy,List.getElem?_map,bT,List.length_map,aJ,go_sem,reduceIte,zA,zB,zC,zD,zE,zF,reduceCtorEq]
    exact hK _ (fun e => by first | rfl | exact absurd e bL)
   ·simp only [aP,hx,hy,List.getElem?_map,bT,List.length_map,aJ,go_sem,reduceIte,zA,zB,zC,zD,zE,zF,reduceCtorEq]
    refine cG (Fg x.chain y.chain (hc x (List.mem_of_getElem? hx))) ?_
    rintro _ rfl
    simp only [aP,hx,hy,List.getElem?_map,bT,List.length_map,aJ,go_sem,reduceIte,zA,zB,zC,zD,zE,zF,reduceCtorEq]
    refine aT (fun uy => ?_) (fun uy => ?_)
    ·have bL : a ≠ b := fun e => by rw [e, hy] at hx; cases hx; simp at uy
     simp only [aP,hx,hy,List.getElem?_map,bT,List.length_map,aJ,go_sem,reduceIte,zA,zB,zC,zD,zE,zF,reduceCtorEq]
     exact hK _ (fun e => by first | rfl | exact absurd e bL)
    ·simp only [aP,hx,hy,List.getElem?_map,bT,List.length_map,aJ,go_sem,reduceIte,zA,zB,zC,zD,zE,zF,reduceCtorEq]
     refine bX _ (b5 (by omega) (by simp only [aP,hx,hy,List.getElem?_map,bT,List.length_map,aJ,go_sem,reduceIte,zA,zB,zC,zD,zE,zF,reduceCtorEq]) ?_ ?_) <;> simp only [dY,lk,reduceIte,zE]
     ·exact ⟨i + 1, rfl, bD⟩
     ·simp only [Go.Eng.intOf,List.headD_cons]; omega
  ·have bL : True := trivial
   simp only [List.length_map,aJ,go_sem,reduceIte,zA,zB,zC,zD,zE,zF,reduceCtorEq]
   exact hK _ (fun e => by first | rfl | exact absurd e bL)
end Go.Proofs.YtefbaladomfccaaGreatDoor
end

section
namespace Go.Proofs.YtefbaladomfccaaGreatDoor
open Go.Eng
open Nat renaming reduceAdd → zA, reduceLT → zB, reduceLeDiff → zC, reduceMul → zD, reduceEqDiff → zE, reduceSub → zF
variable [aK]
set_option maxHeartbeats 4000000
set_option maxRecDepth 100000
theorem fN {α : Type} (g : α → Nat) : ∀ (l : List α) (j : Nat), ak g (l.take j) ≤ ak g l
 | [], j => by simp
 | a :: l, 0 => by simp [ak]
 | a :: l, j + 1 => by have := fN g l j; simp only [List.take_succ_cons,ak]; omega
theorem da {α : Type} (g : α → Nat) {l : List α} {i : Nat} {a : α} (h : l[i]? = some a) : ak g (l.take (i + 1)) = ak g (l.take i) + g a := by
 rw [List.take_add_one, h, ew]; simp [ak]
theorem Jm : ∀ l : List Pm, l.length + ak (fun p => p.bound.size) l ≤ ak Pm.wt l
 | [] => Nat.le_refl _
 | p :: l => by have := Jm l; have h1 := p.bound.b6; simp only [List.length_cons,ak,Pm.wt]; omega
theorem Jn : ∀ l : List Lb, ak Ty.size (l.map Lb.ty) ≤ ak Lb.wt l
 | [] => Nat.le_refl _
 | p :: l => by have := Jn l; have h1 := p.ty.b6; simp only [List.map_cons,ak,Lb.wt]; omega
theorem LU (e : Ex) : ak Ty.size e.own ≤ ak Ty.wt e.types + ak Lb.wt e.labels := by
 have h0 := sL Ty.b6 e.types
 unfold Ex.own pq; split
 ·rw [List.take_length, ew]; have := Jn e.labels; omega
 ·omega
theorem Ak (N : Nat) (ih : ∀ e : Ex, e.wt ≤ N → ∃ r_, (fun w => ∃ n : Nat, w = num (n : Int) ∧ e.Cy ≤ n ∧ n ≤ e.wt) r_ ∧ aR Tryz.prog 86 [iR e] r_) (e : Ex) (hN : e.wt ≤ N + 1) (hb : N + 1 ≤ 1048576) : ∃ r_, (fun w => ∃ n : Nat, w = num (n : Int) ∧ e.Cy ≤ n ∧ n ≤ e.wt) r_ ∧ aR Tryz.prog 86 [iR e] r_ := by
 refine eu tt_ok [] 38 [.tmp 2] (fn := Tryz.f86) Tryz.func86 rfl Tryz.call86 ⟨rfl, rfl, by simp⟩ fun K hK => ?_
 have U9 := e.mR
 have YJ := P9 e
 have Y7 := LU e
 have Zu := e.ij
 have YG := e.Qe
 rw [bJ]
 simp only [al]
 simp only [List.length_map,aw,go_sem,reduceIte,zA,zB,zC,zD,zE,zF,reduceCtorEq]
 refine cF (by have h := LO e (by omega); rw [bJ] at h; simp only [al] at h; exact h) ?_
 rintro _ rfl
 simp only [List.length_map,aw,go_sem,reduceIte,zA,zB,zC,zD,zE,zF,reduceCtorEq]
 refine bk tt_ok [] [5,3] 1 [1,2,4] (fun vs => ((e.own.length : Int) - Go.Eng.intOf (vs.headD .undef)).toNat) (fun vs => ∃ (i n : Nat), vs = [num (i : Int), num (n : Int)] ∧ i ≤ e.own.length ∧ 1 ≤ n ∧ n ≤ 1 + ak Ty.size (e.own.take i)) (by omega) (by simp only [List.length_map,aw,go_sem,reduceIte,zA,zB,zC,zD,zE,zF,reduceCtorEq]) (⟨0, 1, rfl, Nat.zero_le _, (by first | omega | (simp [ak]; done) | (simp [ak]; omega)), (by first | omega | (simp [ak]; done) | (simp [ak]; omega))⟩) fun vs hI Z1 bX => ?_
 obtain ⟨i, n, rfl, od, FP, CC⟩ := hI
 simp only [List.length_map,aw,go_sem,reduceIte,zA,zB,zC,zD,zE,zF,reduceCtorEq]
 refine aT (fun na => ?_) (fun na => ?_)
 ·have bD : i < e.own.length := by simpa using na
  have aP := aq i (by omega)
  obtain ⟨t, ht⟩ : ∃ t, e.own[i]? = some t := ⟨_, List.getElem?_eq_getElem bD⟩
  have ob := da Ty.size ht
  have qp := fN Ty.size e.own (i + 1)
  have XX := fu n t.size (by omega)
  simp only [aP,ht,XX,List.getElem?_map,bo,ai,List.length_map,aw,go_sem,reduceIte,zA,zB,zC,zD,zE,zF,reduceCtorEq]
  refine cF (by have h := gi 1048576 t (by have h1 := (t).b6; have h2 := Qa (List.mem_of_getElem? ht); omega) (Nat.le_refl _); simp only [bo,ai] at h; exact h) ?_
  rintro _ rfl
  simp only [aP,ht,XX,List.getElem?_map,bo,ai,List.length_map,aw,go_sem,reduceIte,zA,zB,zC,zD,zE,zF,reduceCtorEq]
  refine bX _ (b5 (by omega) (by simp only [aP,ht,XX,List.getElem?_map,bo,ai,List.length_map,aw,go_sem,reduceIte,zA,zB,zC,zD,zE,zF,reduceCtorEq]) ?_ ?_) <;> simp only [dY,lk,reduceIte,zE]
  ·exact ⟨i + 1, _, rfl, bD, by omega, by omega⟩
  ·simp only [Go.Eng.intOf,List.headD_cons]; omega
 ·have gw : i = e.own.length := by have := of_decide_eq_false na; omega
  rw [gw, List.take_length] at CC
  simp only [List.length_map,aw,go_sem,reduceIte,zA,zB,zC,zD,zE,zF,reduceCtorEq]
  refine bk tt_ok [] [6,3] 1 [1,2,12] (fun vs => ((e.kids.length : Int) - Go.Eng.intOf (vs.headD .undef)).toNat) (fun vs => ∃ (i n : Nat), vs = [num (i : Int), num (n : Int)] ∧ i ≤ e.kids.length ∧ 1 + ak Ex.Cy (e.kids.take i) ≤ n ∧ n ≤ 1 + ak Ty.size e.own + ak Ex.wt (e.kids.take i)) (by omega) (by simp only [List.length_map,aw,go_sem,reduceIte,zA,zB,zC,zD,zE,zF,reduceCtorEq]) (⟨0, n, rfl, Nat.zero_le _, (by first | omega | (simp [ak]; done) | (simp [ak]; omega)), (by first | omega | (simp [ak]; done) | (simp [ak]; omega))⟩) fun vs hI Z2 jD => ?_
  obtain ⟨i, n, rfl, od, FP, CC⟩ := hI
  simp only [List.length_map,aw,go_sem,reduceIte,zA,zB,zC,zD,zE,zF,reduceCtorEq]
  refine aT (fun mf => ?_) (fun mf => ?_)
  ·have bD : i < e.kids.length := by simpa using mf
   have aP := aq i (by omega)
   obtain ⟨y, hy⟩ : ∃ y, e.kids[i]? = some y := ⟨_, List.getElem?_eq_getElem bD⟩
   have ob := da Ex.Cy hy
   have ab2 := da Ex.wt hy
   have qp := fN Ex.wt e.kids (i + 1)
   obtain ⟨_, ⟨m, rfl, VR, Kc⟩, bO⟩ := ih y (by have h1 := Ex.sM (List.mem_of_getElem? hy); omega)
   rw [bJ] at bO
   simp only [al] at bO
   have XY := fu n m (by omega)
   simp only [aP,XY,hy,ez,bJ,al,List.length_map,aw,go_sem,reduceIte,zA,zB,zC,zD,zE,zF,reduceCtorEq]
   refine cF (⟨_, rfl, bO⟩) ?_
   rintro _ rfl
   simp only [aP,XY,hy,ez,bJ,al,List.length_map,aw,go_sem,reduceIte,zA,zB,zC,zD,zE,zF,reduceCtorEq]
   refine jD _ (b5 (by omega) (by simp only [aP,XY,hy,ez,bJ,al,List.length_map,aw,go_sem,reduceIte,zA,zB,zC,zD,zE,zF,reduceCtorEq]) ?_ ?_) <;> simp only [dY,lk,reduceIte,zE]
   ·exact ⟨i + 1, _, rfl, bD, by omega, by omega⟩
   ·simp only [Go.Eng.intOf,List.headD_cons]; omega
  ·have gw : i = e.kids.length := by have := of_decide_eq_false mf; omega
   rw [gw, List.take_length] at FP CC
   simp only [List.length_map,aw,go_sem,reduceIte,zA,zB,zC,zD,zE,zF,reduceCtorEq]
   exact hK _ ⟨_, rfl, by omega, by omega⟩
theorem FQ : ∀ (N : Nat) (e : Ex), e.wt ≤ N → N ≤ 1048576 → ∃ r_, (fun w => ∃ n : Nat, w = num (n : Int) ∧ e.Cy ≤ n ∧ n ≤ e.wt) r_ ∧ aR Tryz.prog 86 [iR e] r_ := by
 intro N
 induction N with
 | zero => intro e h; have := e.cO; omega
 | succ N ih => intro e h hb; exact Ak N (fun e he => ih e he (by omega)) e h hb
theorem FR (m : Md) (hw : m.wt ≤ 1048576) : ∃ r_, (fun w => ∃ n : Nat, w = num (n : Int) ∧ m.val ≤ n ∧ n ≤ m.wt) r_ ∧ aR Tryz.prog 37 [dv m] r_ := by
 refine eu tt_ok [] 78 [.tmp 2] (fn := Tryz.f37) Tryz.func37 rfl Tryz.call37 ⟨rfl, rfl, by simp⟩ fun K hK => ?_
 have oe := bs Im.wt Im.cO m.imports
 have Mc := bs Dc.wt Dc.cO m.decls
 have Xf : m.wt = 1 + m.path.size + ak Im.wt m.imports + ak Dc.wt m.decls := rfl
 have hmv : m.val = ak Dc.val m.decls := rfl
 have jt : IntKind.i64.wrap (1 + (m.imports.length : Int)) = ((1 + m.imports.length : Nat) : Int) := fu 1 _ (by omega)
 rw [aW]
 simp only [bm]
 simp only [List.length_map,jt,go_sem,reduceIte,zA,zB,zC,zD,zE,zF,reduceCtorEq]
 refine bk tt_ok [] [4,3] 1 [1,2] (fun vs => ((m.decls.length : Int) - Go.Eng.intOf (vs.headD .undef)).toNat) (fun vs => ∃ (i n : Nat), vs = [num (i : Int), num (n : Int)] ∧ i ≤ m.decls.length ∧ ak Dc.val (m.decls.take i) ≤ n ∧ n ≤ 1 + m.imports.length + ak Dc.wt (m.decls.take i)) (by omega) (by simp only [List.length_map,jt,go_sem,reduceIte,zA,zB,zC,zD,zE,zF,reduceCtorEq]) (⟨0, 1 + m.imports.length, rfl, Nat.zero_le _, (by first | omega | (simp [ak]; done) | (simp [ak]; omega)), (by first | omega | (simp [ak]; done) | (simp [ak]; omega))⟩) fun vs hI Z1 bX => ?_
 obtain ⟨i, n, rfl, od, FP, CC⟩ := hI
 simp only [List.length_map,jt,go_sem,reduceIte,zA,zB,zC,zD,zE,zF,reduceCtorEq]
 refine aT (fun me => ?_) (fun me => ?_)
 ·have bD : i < m.decls.length := by simpa using me
  have aP := aq i (by omega)
  obtain ⟨d, hx⟩ : ∃ d, m.decls[i]? = some d := ⟨_, List.getElem?_eq_getElem bD⟩
  have hdm := gS Dc.wt (List.mem_of_getElem? hx)
  have hd : 1 + d.params.length + d.lower.wt + d.upper.wt + d.type.wt + d.expr.wt + ak (fun p : Pm => p.bound.size) d.params ≤ d.wt := by have h0 := Jm d.params; unfold Dc.wt; omega
  have yb : 1 + d.lower.wt + d.upper.wt + d.type.wt + d.expr.wt + ak Pm.wt d.params ≤ d.wt := by unfold Dc.wt; omega
  have Vj := bs Pm.wt Pm.cO d.params
  have hsv := da Dc.val hx
  have hsw := da Dc.wt hx
  have qp := fN Dc.wt m.decls (i + 1)
  have Qp := d.type.b6
  have JL := d.lower.b6
  have hz3 := d.upper.b6
  have kI := aq n (by omega)
  have gq := fu (n + 1) d.params.length (by omega)
  simp only [aP,kI,gq,hx,List.getElem?_map,aD,aG,ai,al,List.cons_append,List.nil_append,List.length_map,jt,go_sem,reduceIte,zA,zB,zC,zD,zE,zF,reduceCtorEq]
  refine aT (fun fp => ?_) (fun fp => ?_)
  ·have dP : d.kind = 1 := of_decide_eq_true fp
   have XZ : d.val = 1 + d.expr.Cy := if_pos dP
   obtain ⟨n0, S8⟩ : ∃ n0, n0 = n := ⟨_, rfl⟩
   simp only [aP,kI,gq,hx,List.getElem?_map,aD,aG,ai,al,List.cons_append,List.nil_append,List.length_map,jt,go_sem,reduceIte,zA,zB,zC,zD,zE,zF,reduceCtorEq]
   refine bk tt_ok [] [6,3] 2 [1,2,4,5,11,12,13,14,15,18,19,20,21,22,23,24,25,26,27,28,29,30,31] (fun vs => ((d.params.length : Int) - Go.Eng.intOf (vs.headD .undef)).toNat) (fun vs => ∃ (i n : Nat), vs = [num (i : Int), num (n : Int)] ∧ i ≤ d.params.length ∧ n0 + 1 ≤ n ∧ n ≤ n0 + 1 + d.params.length + ak (fun p : Pm => p.bound.size) (d.params.take i)) (by omega) (by simp only [aP,kI,gq,hx,List.getElem?_map,aD,aG,ai,al,List.cons_append,List.nil_append,List.length_map,jt,go_sem,reduceIte,zA,zB,zC,zD,zE,zF,reduceCtorEq]) (⟨0, n + 1 + d.params.length, rfl, Nat.zero_le _, (by first | omega | (simp [ak]; done) | (simp [ak]; omega)), (by first | omega | (simp [ak]; done) | (simp [ak]; omega))⟩) fun vs hI Z2 jD => ?_
   obtain ⟨j, n2, rfl, qW, ab5, X0⟩ := hI
   simp only [aP,kI,gq,hx,List.getElem?_map,aD,aG,ai,al,List.cons_append,List.nil_append,List.length_map,jt,go_sem,reduceIte,zA,zB,zC,zD,zE,zF,reduceCtorEq]
   refine aT (fun nU => ?_) (fun nU => ?_)
   ·have iM : j < d.params.length := by simpa using nU
    have ml := aq j (by omega)
    obtain ⟨p, hp⟩ : ∃ p, d.params[j]? = some p := ⟨_, List.getElem?_eq_getElem iM⟩
    have rm := da (fun p : Pm => p.bound.size) hp
    have hsq := fN (fun p : Pm => p.bound.size) d.params (j + 1)
    have JI := fu n2 p.bound.size (by omega)
    simp only [aP,kI,gq,hx,List.getElem?_map,aD,aG,ai,al,List.cons_append,List.nil_append,ml,hp,JI,qP,List.length_map,jt,go_sem,reduceIte,zA,zB,zC,zD,zE,zF,reduceCtorEq]
    refine cF (by have h := gi 1048576 p.bound (by have h1 := (p.bound).b6; have h2 := Un hp; omega) (Nat.le_refl _); simp only [bo,ai] at h; exact h) ?_
    rintro _ rfl
    simp only [aP,kI,gq,hx,List.getElem?_map,aD,aG,ai,al,List.cons_append,List.nil_append,ml,hp,JI,qP,List.length_map,jt,go_sem,reduceIte,zA,zB,zC,zD,zE,zF,reduceCtorEq]
    refine jD _ (b5 (by omega) (by simp only [aP,kI,gq,hx,List.getElem?_map,aD,aG,ai,al,List.cons_append,List.nil_append,ml,hp,JI,qP,List.length_map,jt,go_sem,reduceIte,zA,zB,zC,zD,zE,zF,reduceCtorEq]) ?_ ?_) <;> simp only [dY,lk,reduceIte,zE]
    ·exact ⟨j + 1, _, rfl, iM, by omega, by omega⟩
    ·simp only [Go.Eng.intOf,List.headD_cons]; omega
   ·have th : j = d.params.length := by have := of_decide_eq_false nU; omega
    rw [th, List.take_length] at X0
    have xD := fu n2 d.type.size (by omega)
    obtain ⟨_, ⟨m2, rfl, VR, Kc⟩, bO⟩ := FQ 1048576 d.expr (by omega) (Nat.le_refl _)
    rw [bJ] at bO
    simp only [al] at bO
    have Ar := fu (n2 + d.type.size) m2 (by omega)
    simp only [aP,kI,gq,hx,List.getElem?_map,aD,aG,ai,al,List.cons_append,List.nil_append,xD,Ar,List.length_map,jt,go_sem,reduceIte,zA,zB,zC,zD,zE,zF,reduceCtorEq]
    refine bR tt_ok aN [⟨.n, 0, [], [], []⟩, ⟨.n, 0, [], [], []⟩, ⟨.r, 0, [], [], []⟩, ⟨.n, 0, [], [], []⟩, ⟨.n, 0, [], [], []⟩, ⟨.n, 0, [], [], []⟩, ⟨.r, 0, [], [], []⟩, ⟨.n, 0, [], [], []⟩, ⟨.n, 0, [], [], []⟩, ⟨.n, 0, [], [], []⟩] 0 (by kernel_rfl) ?_
    simp only [aP,kI,gq,hx,List.getElem?_map,aD,aG,ai,al,List.cons_append,List.nil_append,xD,Ar,List.length_map,jt,go_sem,reduceIte,zA,zB,zC,zD,zE,zF,reduceCtorEq]
    refine cG (by have h := gi 1048576 d.type (by have h1 := (d.type).b6; have h2 := hd; omega) (Nat.le_refl _); simp only [bo,ai] at h; exact h) ?_
    rintro _ rfl
    simp only [aP,kI,gq,hx,List.getElem?_map,aD,aG,ai,al,List.cons_append,List.nil_append,xD,Ar,List.length_map,jt,go_sem,reduceIte,zA,zB,zC,zD,zE,zF,reduceCtorEq]
    refine cG (⟨_, rfl, bO⟩) ?_
    rintro _ rfl
    simp only [aP,kI,gq,hx,List.getElem?_map,aD,aG,ai,al,List.cons_append,List.nil_append,xD,Ar,List.length_map,jt,go_sem,reduceIte,zA,zB,zC,zD,zE,zF,reduceCtorEq]
    refine aT (fun Jo => ?_) (fun Jo => ?_)
    ·have Kb : d.kind = 0 := of_decide_eq_true Jo
     simp only [aP,kI,gq,hx,List.getElem?_map,aD,aG,ai,al,List.cons_append,List.nil_append,xD,Ar,List.length_map,jt,go_sem,reduceIte,zA,zB,zC,zD,zE,zF,reduceCtorEq]
     refine cF (by have h := gi 1048576 d.type (by have h1 := (d.type).b6; have h2 := hd; omega) (Nat.le_refl _); simp only [bo,ai] at h; exact h) ?_
     rintro _ rfl
     simp only [aP,kI,gq,hx,List.getElem?_map,aD,aG,ai,al,List.cons_append,List.nil_append,xD,Ar,List.length_map,jt,go_sem,reduceIte,zA,zB,zC,zD,zE,zF,reduceCtorEq]
     refine cF (by have h := vD d (by omega); rw [aD] at h; simp only [kd,aG,ai,al] at h; exact h) ?_
     rintro _ ⟨b, rfl⟩
     simp only [aP,kI,gq,hx,List.getElem?_map,aD,aG,ai,al,List.cons_append,List.nil_append,xD,Ar,List.length_map,jt,go_sem,reduceIte,zA,zB,zC,zD,zE,zF,reduceCtorEq]
     refine aT (fun tJ => ?_) (fun tJ => ?_)
     ·simp only [aP,kI,gq,hx,List.getElem?_map,aD,aG,ai,al,List.cons_append,List.nil_append,xD,Ar,List.length_map,jt,go_sem,reduceIte,zA,zB,zC,zD,zE,zF,reduceCtorEq]
      refine bR tt_ok aN [⟨.n, 0, [], [], []⟩, ⟨.n, 0, [], [], []⟩, ⟨.r, 0, [], [], []⟩, ⟨.n, 0, [], [], []⟩, ⟨.n, 0, [], [], []⟩, ⟨.n, 0, [], [], []⟩, ⟨.r, 0, [], [], []⟩, ⟨.n, 0, [], [], []⟩, ⟨.n, 0, [], [], []⟩, ⟨.n, 0, [], [], []⟩] 0 (by kernel_rfl) ?_
      simp only [aP,kI,gq,hx,List.getElem?_map,aD,aG,ai,al,List.cons_append,List.nil_append,xD,Ar,List.length_map,jt,go_sem,reduceIte,zA,zB,zC,zD,zE,zF,reduceCtorEq]
      refine cG (by have h := gi 1048576 d.lower (by have h1 := (d.lower).b6; have h2 := hd; omega) (Nat.le_refl _); simp only [bo,ai] at h; exact h) ?_
      rintro _ rfl
      simp only [aP,kI,gq,hx,List.getElem?_map,aD,aG,ai,al,List.cons_append,List.nil_append,xD,Ar,List.length_map,jt,go_sem,reduceIte,zA,zB,zC,zD,zE,zF,reduceCtorEq]
      refine cG (by have h := gi 1048576 d.upper (by have h1 := (d.upper).b6; have h2 := hd; omega) (Nat.le_refl _); simp only [bo,ai] at h; exact h) ?_
      rintro _ rfl
      simp only [aP,kI,gq,hx,List.getElem?_map,aD,aG,ai,al,List.cons_append,List.nil_append,xD,Ar,List.length_map,jt,go_sem,reduceIte,zA,zB,zC,zD,zE,zF,reduceCtorEq]
      refine bX _ (b5 (by omega) (by simp only [aP,kI,gq,hx,List.getElem?_map,aD,aG,ai,al,List.cons_append,List.nil_append,xD,Ar,List.length_map,jt,go_sem,reduceIte,zA,zB,zC,zD,zE,zF,reduceCtorEq]) ?_ ?_) <;> simp only [dY,lk,reduceIte,zE]
      ·first | (exfalso; omega; done) | exact ⟨i + 1, _, rfl, bD, by omega, by omega⟩
      ·simp only [Go.Eng.intOf,List.headD_cons]; omega
     ·simp only [aP,kI,gq,hx,List.getElem?_map,aD,aG,ai,al,List.cons_append,List.nil_append,xD,Ar,List.length_map,jt,go_sem,reduceIte,zA,zB,zC,zD,zE,zF,reduceCtorEq]
      refine bX _ (b5 (by omega) (by simp only [aP,kI,gq,hx,List.getElem?_map,aD,aG,ai,al,List.cons_append,List.nil_append,xD,Ar,List.length_map,jt,go_sem,reduceIte,zA,zB,zC,zD,zE,zF,reduceCtorEq]) ?_ ?_) <;> simp only [dY,lk,reduceIte,zE]
      ·first | (exfalso; omega; done) | exact ⟨i + 1, _, rfl, bD, by omega, by omega⟩
      ·simp only [Go.Eng.intOf,List.headD_cons]; omega
    ·simp only [aP,kI,gq,hx,List.getElem?_map,aD,aG,ai,al,List.cons_append,List.nil_append,xD,Ar,List.length_map,jt,go_sem,reduceIte,zA,zB,zC,zD,zE,zF,reduceCtorEq]
     refine bX _ (b5 (by omega) (by simp only [aP,kI,gq,hx,List.getElem?_map,aD,aG,ai,al,List.cons_append,List.nil_append,xD,Ar,List.length_map,jt,go_sem,reduceIte,zA,zB,zC,zD,zE,zF,reduceCtorEq]) ?_ ?_) <;> simp only [dY,lk,reduceIte,zE]
     ·first | (exfalso; omega; done) | exact ⟨i + 1, _, rfl, bD, by omega, by omega⟩
     ·simp only [Go.Eng.intOf,List.headD_cons]; omega
  ·have dP : ¬ d.kind = 1 := of_decide_eq_false fp
   have XZ : d.val = 0 := if_neg dP
   have FT := fu (n + 1 + d.params.length) d.type.size (by omega)
   have FU := fu (n + 1 + d.params.length + d.type.size) d.lower.size (by omega)
   have FV := fu (n + 1 + d.params.length + d.type.size + d.lower.size) d.upper.size (by omega)
   simp only [aP,kI,gq,hx,List.getElem?_map,aD,aG,ai,al,List.cons_append,List.nil_append,FT,FU,FV,List.length_map,jt,go_sem,reduceIte,zA,zB,zC,zD,zE,zF,reduceCtorEq]
   refine aT (fun Jo => ?_) (fun Jo => ?_)
   ·have Kb : d.kind = 0 := of_decide_eq_true Jo
    simp only [aP,kI,gq,hx,List.getElem?_map,aD,aG,ai,al,List.cons_append,List.nil_append,FT,FU,FV,List.length_map,jt,go_sem,reduceIte,zA,zB,zC,zD,zE,zF,reduceCtorEq]
    refine cF (by have h := gi 1048576 d.type (by have h1 := (d.type).b6; have h2 := hd; omega) (Nat.le_refl _); simp only [bo,ai] at h; exact h) ?_
    rintro _ rfl
    simp only [aP,kI,gq,hx,List.getElem?_map,aD,aG,ai,al,List.cons_append,List.nil_append,FT,FU,FV,List.length_map,jt,go_sem,reduceIte,zA,zB,zC,zD,zE,zF,reduceCtorEq]
    refine cF (by have h := vD d (by omega); rw [aD] at h; simp only [kd,aG,ai,al] at h; exact h) ?_
    rintro _ ⟨b, rfl⟩
    simp only [aP,kI,gq,hx,List.getElem?_map,aD,aG,ai,al,List.cons_append,List.nil_append,FT,FU,FV,List.length_map,jt,go_sem,reduceIte,zA,zB,zC,zD,zE,zF,reduceCtorEq]
    refine aT (fun tJ => ?_) (fun tJ => ?_)
    ·simp only [aP,kI,gq,hx,List.getElem?_map,aD,aG,ai,al,List.cons_append,List.nil_append,FT,FU,FV,List.length_map,jt,go_sem,reduceIte,zA,zB,zC,zD,zE,zF,reduceCtorEq]
     refine bR tt_ok aN [⟨.n, 0, [], [], []⟩, ⟨.n, 0, [], [], []⟩, ⟨.r, 0, [], [], []⟩, ⟨.n, 0, [], [], []⟩, ⟨.n, 0, [], [], []⟩, ⟨.n, 0, [], [], []⟩, ⟨.r, 0, [], [], []⟩, ⟨.n, 0, [], [], []⟩, ⟨.n, 0, [], [], []⟩, ⟨.n, 0, [], [], []⟩] 0 (by kernel_rfl) ?_
     simp only [aP,kI,gq,hx,List.getElem?_map,aD,aG,ai,al,List.cons_append,List.nil_append,FT,FU,FV,List.length_map,jt,go_sem,reduceIte,zA,zB,zC,zD,zE,zF,reduceCtorEq]
     refine cG (by have h := gi 1048576 d.lower (by have h1 := (d.lower).b6; have h2 := hd; omega) (Nat.le_refl _); simp only [bo,ai] at h; exact h) ?_
     rintro _ rfl
     simp only [aP,kI,gq,hx,List.getElem?_map,aD,aG,ai,al,List.cons_append,List.nil_append,FT,FU,FV,List.length_map,jt,go_sem,reduceIte,zA,zB,zC,zD,zE,zF,reduceCtorEq]
     refine cG (by have h := gi 1048576 d.upper (by have h1 := (d.upper).b6; have h2 := hd; omega) (Nat.le_refl _); simp only [bo,ai] at h; exact h) ?_
     rintro _ rfl
     simp only [aP,kI,gq,hx,List.getElem?_map,aD,aG,ai,al,List.cons_append,List.nil_append,FT,FU,FV,List.length_map,jt,go_sem,reduceIte,zA,zB,zC,zD,zE,zF,reduceCtorEq]
     refine bX _ (b5 (by omega) (by simp only [aP,kI,gq,hx,List.getElem?_map,aD,aG,ai,al,List.cons_append,List.nil_append,FT,FU,FV,List.length_map,jt,go_sem,reduceIte,zA,zB,zC,zD,zE,zF,reduceCtorEq]) ?_ ?_) <;> simp only [dY,lk,reduceIte,zE]
     ·first | (exfalso; omega; done) | exact ⟨i + 1, _, rfl, bD, by omega, by omega⟩
     ·simp only [Go.Eng.intOf,List.headD_cons]; omega
    ·simp only [aP,kI,gq,hx,List.getElem?_map,aD,aG,ai,al,List.cons_append,List.nil_append,FT,FU,FV,List.length_map,jt,go_sem,reduceIte,zA,zB,zC,zD,zE,zF,reduceCtorEq]
     refine bX _ (b5 (by omega) (by simp only [aP,kI,gq,hx,List.getElem?_map,aD,aG,ai,al,List.cons_append,List.nil_append,FT,FU,FV,List.length_map,jt,go_sem,reduceIte,zA,zB,zC,zD,zE,zF,reduceCtorEq]) ?_ ?_) <;> simp only [dY,lk,reduceIte,zE]
     ·first | (exfalso; omega; done) | exact ⟨i + 1, _, rfl, bD, by omega, by omega⟩
     ·simp only [Go.Eng.intOf,List.headD_cons]; omega
   ·simp only [aP,kI,gq,hx,List.getElem?_map,aD,aG,ai,al,List.cons_append,List.nil_append,FT,FU,FV,List.length_map,jt,go_sem,reduceIte,zA,zB,zC,zD,zE,zF,reduceCtorEq]
    refine bX _ (b5 (by omega) (by simp only [aP,kI,gq,hx,List.getElem?_map,aD,aG,ai,al,List.cons_append,List.nil_append,FT,FU,FV,List.length_map,jt,go_sem,reduceIte,zA,zB,zC,zD,zE,zF,reduceCtorEq]) ?_ ?_) <;> simp only [dY,lk,reduceIte,zE]
    ·first | (exfalso; omega; done) | exact ⟨i + 1, _, rfl, bD, by omega, by omega⟩
    ·simp only [Go.Eng.intOf,List.headD_cons]; omega
 ·have gw : i = m.decls.length := by have := of_decide_eq_false me; omega
  rw [gw, List.take_length] at FP CC
  simp only [List.length_map,jt,go_sem,reduceIte,zA,zB,zC,zD,zE,zF,reduceCtorEq]
  exact hK _ ⟨_, rfl, by omega, by omega⟩
theorem FW (p : List Md) (hl : p.length ≤ 1048576) (hw : ∀ m ∈ p, m.wt ≤ 1048576) (hS : ak Md.wt p ≤ 1048576)  : ∃ r_, (fun w => ∃ b : Bool, w = bl b ∧ (b = true → ak Md.val p ≤ 400)) r_ ∧ aR Tryz.prog 9 [.slice (p.map dv)] r_ := by
 refine eu tt_ok [] 25 [.tmp 2] (fn := Tryz.f9) Tryz.func9 rfl Tryz.call9 ⟨rfl, rfl, by simp⟩ fun K hK => ?_
 simp only [List.length_map,go_sem,reduceIte,zA,zB,zC,zD,zE,zF,reduceCtorEq]
 refine bk tt_ok [] [4,3] 0 [0,2] (fun vs => ((p.length : Int) - Go.Eng.intOf (vs.headD .undef)).toNat) (fun vs => ∃ (i n : Nat), vs = [num (i : Int), num (n : Int)] ∧ i ≤ p.length ∧ ak Md.val (p.take i) ≤ n ∧ n ≤ ak Md.wt (p.take i)) (by omega) (by simp only [List.length_map,go_sem,reduceIte,zA,zB,zC,zD,zE,zF,reduceCtorEq]) (⟨0, 0, rfl, Nat.zero_le _, (by first | omega | (simp [ak]; done) | (simp [ak]; omega)), (by first | omega | (simp [ak]; done) | (simp [ak]; omega))⟩) fun vs hI Z1 bX => ?_
 obtain ⟨i, n, rfl, od, FP, CC⟩ := hI
 simp only [List.length_map,go_sem,reduceIte,zA,zB,zC,zD,zE,zF,reduceCtorEq]
 refine aT (fun Bx => ?_) (fun Bx => ?_)
 ·have bD : i < p.length := by simpa using Bx
  have aP := aq i (by omega)
  obtain ⟨m, hx⟩ : ∃ m, p[i]? = some m := ⟨_, List.getElem?_eq_getElem bD⟩
  have hsv := da Md.val hx
  have hsw := da Md.wt hx
  have qp := fN Md.wt p (i + 1)
  obtain ⟨_, ⟨n2, rfl, S2, hn2⟩, bO⟩ := FR m (hw m (List.mem_of_getElem? hx))
  rw [aW] at bO
  simp only [bm] at bO
  have kI := fu n n2 (by omega)
  simp only [aP,kI,hx,List.getElem?_map,aW,bm,List.length_map,go_sem,reduceIte,zA,zB,zC,zD,zE,zF,reduceCtorEq]
  refine cF (⟨_, rfl, bO⟩) ?_
  rintro _ rfl
  simp only [aP,kI,hx,List.getElem?_map,aW,bm,List.length_map,go_sem,reduceIte,zA,zB,zC,zD,zE,zF,reduceCtorEq]
  refine bX _ (b5 (by omega) (by simp only [aP,kI,hx,List.getElem?_map,aW,bm,List.length_map,go_sem,reduceIte,zA,zB,zC,zD,zE,zF,reduceCtorEq]) ?_ ?_) <;> simp only [dY,lk,reduceIte,zE]
  ·exact ⟨i + 1, _, rfl, bD, by omega, by omega⟩
  ·simp only [Go.Eng.intOf,List.headD_cons]; omega
 ·have gw : i = p.length := by have := of_decide_eq_false Bx; omega
  rw [gw, List.take_length] at FP CC
  simp only [List.length_map,go_sem,reduceIte,zA,zB,zC,zD,zE,zF,reduceCtorEq]
  refine aT (fun Ur => ?_) (fun Ur => ?_)
  ·simp only [List.length_map,go_sem,reduceIte,zA,zB,zC,zD,zE,zF,reduceCtorEq]
   refine hK _ ⟨_, rfl, fun hb => ?_⟩
   simp at hb <;> omega
  ·simp only [List.length_map,go_sem,reduceIte,zA,zB,zC,zD,zE,zF,reduceCtorEq]
   refine hK _ ⟨_, rfl, fun hb => ?_⟩
   simp at hb <;> omega
end Go.Proofs.YtefbaladomfccaaGreatDoor
end

section
namespace Go.Proofs.YtefbaladomfccaaGreatDoor
open Go.Eng
open Nat renaming reduceAdd → zA, reduceLT → zB, reduceLeDiff → zC, reduceMul → zD, reduceEqDiff → zE, reduceSub → zF
variable [aK]
set_option maxHeartbeats 4000000
set_option maxRecDepth 100000
def Al (s : ByteArray) : ByteArray := if bZ s = true then s.extract 0 (Lib.lastIndexByte s 47).toNat else ⟨#[]⟩
theorem Jp (hG : aK.g = some 0) (s : ByteArray) (hs : s.size ≤ 1048576) : ∃ r_, (fun w => w = .ch [str (Al s), num (cC s), num (bM s)]) r_ ∧ aR Tryz.prog 71 [str s] r_ := by
 refine eu tt_ok [] 24 [.tmp 2, .tmp 3, .tmp 4] (fn := Tryz.f71) Tryz.func71 rfl Tryz.call71 ⟨rfl, rfl, by simp⟩ fun K hK => ?_
 have gv : Tryz.prog.underlying 9 = some .string := by kernel_rfl
 have sl : ∀ (a : ByteArray) (ty : TypeId), dh Tryz.prog (Builtin.len_ #[9] ty) [.sc (.string a)] = some (num a.size) := fun a ty => cH (P := Tryz.prog) (tt := tt) (T := 9) a gv ty
 simp only [sl,go_sem,reduceIte,zA,zB,zC,zD,zE,zF,reduceCtorEq]
 refine cF (s7 hG s hs) ?_
 rintro _ rfl
 simp only [sl,go_sem,reduceIte,zA,zB,zC,zD,zE,zF,reduceCtorEq]
 refine cF (vi hG s hs) ?_
 rintro _ rfl
 simp only [sl,go_sem,reduceIte,zA,zB,zC,zD,zE,zF,reduceCtorEq]
 refine aT (fun H3 => ?_) (fun H3 => ?_)
 ·have cT : bZ s = false := by simp_all [bM]
  have e1 : cC s = 0 := by unfold cC; rw [cT]; rfl
  have e2 : bM s = 4 := by unfold bM; rw [cT]; rfl
  have ax : V.ch [str (Al s), num (cC s), num (bM s)] = .ch [str ⟨#[]⟩, num 0, num 4] := by unfold Al; rw [e1, e2, cT]; rfl
  simp only [sl,go_sem,reduceIte,zA,zB,zC,zD,zE,zF,reduceCtorEq]
  exact hK _ (by rw [ax] <;> rfl)
 ·simp only [sl,go_sem,reduceIte,zA,zB,zC,zD,zE,zF,reduceCtorEq]
  refine aT (fun Pb => ?_) (fun Pb => ?_)
  ·have cT : bZ s = false := by simp_all [bM]
   have e1 : cC s = 0 := by unfold cC; rw [cT]; rfl
   have e2 : bM s = 4 := by unfold bM; rw [cT]; rfl
   have ax : V.ch [str (Al s), num (cC s), num (bM s)] = .ch [str ⟨#[]⟩, num 0, num 4] := by unfold Al; rw [e1, e2, cT]; rfl
   simp only [sl,go_sem,reduceIte,zA,zB,zC,zD,zE,zF,reduceCtorEq]
   exact hK _ (by rw [ax] <;> rfl)
  ·have dc : bZ s = true := by cases h : bZ s <;> simp_all [bM]
   obtain ⟨j9, ua⟩ := zn dc
   have Pc : bE Tryz.prog (fun a h => Instr.sliceAt 9 a none (some h) none) (.sc (.string s)) (.sc (.int .i64 (Lib.lastIndexByte s 47))) = some (.sc (.string (s.extract 0 (Lib.lastIndexByte s 47).toNat))) := sh (P := Tryz.prog) (tt := tt) (mem := []) (T := 9) s gv .i64 (Lib.lastIndexByte s 47) j9 ua
   have e2 : bM s = 0 := by unfold bM; rw [dc]; rfl
   have ax : V.ch [str (Al s), num (cC s), num (bM s)] = .ch [str (s.extract 0 (Lib.lastIndexByte s 47).toNat), num (cC s), num 0] := by unfold Al; rw [e2, dc]; rfl
   simp only [Pc,sl,go_sem,reduceIte,zA,zB,zC,zD,zE,zF,reduceCtorEq]
   refine cF (⟨_, rfl, u9 hG s (by omega)⟩) ?_
   rintro _ rfl
   simp only [Pc,sl,go_sem,reduceIte,zA,zB,zC,zD,zE,zF,reduceCtorEq]
   exact hK _ (by rw [ax] <;> rfl)
end Go.Proofs.YtefbaladomfccaaGreatDoor
end
