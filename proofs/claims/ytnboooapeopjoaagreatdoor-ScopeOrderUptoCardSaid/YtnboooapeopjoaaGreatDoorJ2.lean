/-
  READINGS: what the reading of an argument (DataW.trod) says of its cells, for types made of truth values, integers, strings, slices, structures.
  READINGS, B: the abstract values that a reading gives.
  PLAIN LAWS of chapter 32: sets of places, releases, what roots reach, canonical bytes. No program in sight.
  ENCODINGS of chapter 32's data.
  CONTRACTS: bytes of names, exactly.
  STRINGS compared; lists of which an element has a property.
-/
import Derived.Test.YtnboooapeopjoaaGreatDoorJ1
import Derived.Test.YtnboooapeopjoaaGreatDoorRows
import Derived.Sort.Walk0
set_option linter.all false
section
namespace Go.Proofs.YtnboooapeopjoaaGreatDoor
open Go.Eng
variable [aA]
section
variable {H : Type} {enc : TypeId × Value → H} {P : Program} {w : World} {sp : Nat → Bool} {held : Bool} {f : Nat} {T : TypeId} {cs : List Value} {d : DataW H} {p : List MemPlace}
theorem trod_string (hT : P.underlying T = some .string) (h : DataW.trod enc P w 0 sp held (f + 1) T cs = some (d, p)) : ∃ s, cs = [.string s] ∧ d = .lit (.string s.data.toList) := by
 unfold DataW.trod at h
 rw [hT] at h
 split at h <;> simp_all
end
end Go.Proofs.YtnboooapeopjoaaGreatDoor
end

section
namespace Go.Proofs.YtnboooapeopjoaaGreatDoor
open Go.Eng
variable [aA]
def Rd (F : Addr → Option Value) (hg : Gl F) (vs : List V) (cs : List Value) : Prop := bo ⟨F, fun _ _ => none, hg⟩ vs cs ∧ ∀ c ∈ cs, c.oneCell' = true
section
variable {F : Addr → Option Value} {hg : Gl F}
theorem QA {v : Value} (h : v.oneCell' = true) : Rd F hg [.sc v] [v] := ⟨.cons (.sc _ _) (.nil _), by simpa using h⟩
end
end Go.Proofs.YtnboooapeopjoaaGreatDoor
end

section
namespace Go.Proofs.YtnboooapeopjoaaGreatDoor
structure Oo where
 lo : Int
 hi : Int
structure Oq where
 mj : Int
 mn : Int
 pt : Int
structure Rq where
 path : ByteArray
 set : List Oo
structure Rl where
 path : ByteArray
 b7 : Oq
 reqs : List Rq
 ar : ByteArray
 itf : ByteArray
 ce : ByteArray
 yk : Bool
structure QB where
 path : ByteArray
 b7 : Oq
theorem Oq.ext' {a b : Oq} (h1 : a.mj = b.mj) (h2 : a.mn = b.mn) (h3 : a.pt = b.pt) : a = b := by cases a; cases b; simp_all
theorem Oo.ext' {a b : Oo} (h1 : a.lo = b.lo) (h2 : a.hi = b.hi) : a = b := by cases a; cases b; simp_all
instance : DecidableEq Oo := fun a b => if h : a.lo = b.lo ∧ a.hi = b.hi then .isTrue (Oo.ext' h.1 h.2) else .isFalse fun e => h (by subst e; exact ⟨rfl, rfl⟩)
theorem QB.ext' {a b : QB} (h1 : a.path = b.path) (h2 : a.b7 = b.b7) : a = b := by cases a; cases b; simp_all
instance : DecidableEq Oq := fun a b => if h : a.mj = b.mj ∧ a.mn = b.mn ∧ a.pt = b.pt then .isTrue (Oq.ext' h.1 h.2.1 h.2.2) else .isFalse fun e => h (by subst e; exact ⟨rfl, rfl, rfl⟩)
instance : DecidableEq QB := fun a b => if h : a.path = b.path ∧ a.b7 = b.b7 then .isTrue (QB.ext' h.1 h.2) else .isFalse fun e => h (by subst e; exact ⟨rfl, rfl⟩)
def Rl.key (r : Rl) : QB := ⟨r.path, r.b7⟩
def Oq.place (v : Oq) : Int := 1000 * v.mn + v.pt
def has (s : List Oo) (p : Int) : Bool := decide (0 ≤ p) && decide (p < 1000000) && s.any fun x => decide (x.lo ≤ p) && decide (p < x.hi)
def Um (q : Rq) (r : Rl) : Bool := decide (q.path = r.path) && has q.set r.b7.place
inductive IJ (l : List Rl) (roots : List Rq) : Rl → Prop
 | root (q : Rq) (r : Rl) (hq : q ∈ roots) (hr : r ∈ l) (h : Um q r = true) : IJ l roots r
 | step (a : Rl) (q : Rq) (r : Rl) (ha : IJ l roots a) (hq : q ∈ a.reqs) (hr : r ∈ l) (h : Um q r = true) : IJ l roots r
theorem IJ.mem {l : List Rl} {roots : List Rq} {r : Rl} (h : IJ l roots r) : r ∈ l := by cases h <;> assumption
theorem IJ.mono {l : List Rl} {roots more : List Rq} (hm : ∀ q ∈ roots, q ∈ more) {r : Rl} (h : IJ l roots r) : IJ l more r := by
 induction h with
 | root q r hq hr h => exact .root q r (hm q hq) hr h
 | step a q r _ hq hr h ih => exact .step a q r ih hq hr h
inductive QC (l : List Rl) (roots : List Rq) : ByteArray → Prop
 | root (q : Rq) (hq : q ∈ roots) : QC l roots q.path
 | step (a : Rl) (q : Rq) (ha : a ∈ l) (hn : QC l roots a.path) (hq : q ∈ a.reqs) : QC l roots q.path
theorem IJ.sub {l m : List Rl} {roots : List Rq} (hlm : ∀ r ∈ l, r ∈ m) {r : Rl} (h : IJ l roots r) : IJ m roots r := by
 induction h with
 | root q r hq hr h => exact .root q r hq (hlm r hr) h
 | step a q r _ hq hr h ih => exact .step a q r ih hq (hlm r hr) h
def nF (s : ByteArray) : List UInt8 := s.data.toList
end Go.Proofs.YtnboooapeopjoaaGreatDoor
end

section
namespace Go.Proofs.YtnboooapeopjoaaGreatDoor
open Go.Eng
variable [aA]
def QD (s : Oo) : V := .agg [num s.lo, num s.hi]
def IK (l : List Oo) : V := .slice (l.map QD)
def Un (q : Rq) : V := .agg [str q.path, IK q.set]
def IL (l : List Rq) : V := .slice (l.map Un)
def QE (s : QB) : V := .agg [str s.path, num s.b7.mj, num s.b7.mn, num s.b7.pt]
def ME (l : List QB) : V := .slice (l.map QE)
def MF (r : Rl) : List V := [str r.path, num r.b7.mj, num r.b7.mn, num r.b7.pt, IL r.reqs, str r.ar, str r.itf, str r.ce, bl r.yk]
def Uo (r : Rl) : V := .agg (MF r)
def QF (l : List Rl) : V := .slice (l.map Uo)
attribute [go_sem] IK IL ME QF
end Go.Proofs.YtnboooapeopjoaaGreatDoor
end

section
namespace Go.Proofs.YtnboooapeopjoaaGreatDoor
open Go.Eng
open Nat renaming reduceAdd → zA, reduceLT → zB, reduceLeDiff → zC, reduceMul → zD, reduceEqDiff → zE, reduceSub → zF
variable [aA]
set_option maxHeartbeats 4000000
set_option maxRecDepth 100000
theorem QG {s e : ByteArray} (he : e.size = 0) (h : (!(s.toList == e.toList)) = true) : ∃ c, s[0]? = some c := by
 refine eQ (s := s) (i := 0) ?_
 rcases Nat.eq_zero_or_pos s.size with hz | hz
 ·exfalso
  have e1 : s.toList = e.toList := by
   rw [ByteArray.toList_eq, ByteArray.toList_eq]
   have a1 : s.data.toList = [] := by simpa [← List.length_eq_zero_iff, Array.length_toList] using hz
   have a2 : e.data.toList = [] := by simpa [← List.length_eq_zero_iff, Array.length_toList] using he
   rw [a1, a2]
  rw [e1] at h; simp at h
 ·exact hz
def wu (c : Int) : Bool := decide (97 ≤ c) && decide (c ≤ 122)
def Ay (c : Int) : Bool := decide (65 ≤ c) && decide (c ≤ 90)
def mM (c : Int) : Bool := decide (48 ≤ c) && decide (c ≤ 57)
def ld (c : Int) : Bool := wu c || Ay c || mM c || decide (c = 95)
def IN (c : Int) : Bool := wu c || mM c
def lf (p : Int → Bool) (s : ByteArray) : Bool := s.data.toList.all fun b => p b.toNat
def gx (s : ByteArray) (i : Nat) : Int := match s[i]? with | some c => c.toNat | none => 0
theorem uV {s : ByteArray} {i : Nat} {c : UInt8} (h : s[i]? = some c) : s.data.toList[i]? = some c := by
 obtain ⟨h1, h2⟩ := getElem?_eq_some_iff.1 h
 have h3 : i < s.data.toList.length := by simpa using h1
 rw [List.getElem?_eq_getElem h3]
 exact congrArg some (by rw [Array.getElem_toList]; exact h2)
theorem gp {s : ByteArray} {i : Nat} {c : UInt8} (h : s[i]? = some c) : gx s i = c.toNat := by unfold gx; rw [h]
theorem w4 {p : Int → Bool} {s : ByteArray} (h : ∀ j < s.size, ∀ b, s[j]? = some b → p b.toNat = true) : lf p s = true := by
 refine List.all_eq_true.2 fun b hb => ?_
 obtain ⟨j, hj⟩ := List.mem_iff_getElem?.1 hb
 have h1 : j < s.size := by have := (List.getElem?_eq_some_iff.1 hj).1; simpa using this
 obtain ⟨c, hc⟩ := eQ h1
 have := uV hc
 rw [hj] at this; cases this
 exact h j h1 b hc
theorem uW {p : Int → Bool} {s : ByteArray} {j : Nat} {b : UInt8} (h : s[j]? = some b) (hp : p b.toNat = false) : lf p s = false := by
 have hm := List.mem_of_getElem? (uV h)
 cases ha : lf p s with
 | false => rfl
 | true => have := List.all_eq_true.1 ha b hm; rw [hp] at this; cases this
def lg (s : ByteArray) : Bool := decide (1 ≤ s.size) && decide (s.size ≤ 32) && Ay (gx s 0) && lf ld s
theorem yq {s e : ByteArray} (he : e.size = 0) (h : (!(s.toList == e.toList)) = true) : 1 ≤ s.size := by
 obtain ⟨c, hc⟩ := QG he h
 exact (getElem?_eq_some_iff.1 hc).1
theorem uX {s e : ByteArray} (he : e.size = 0) (h : (!(s.toList == e.toList)) = false) : s.size = 0 := by
 have e1 : s.toList = e.toList := by simpa using h
 rw [ByteArray.toList_eq, ByteArray.toList_eq] at e1
 have := congrArg List.length e1
 simp only [Array.length_toList] at this
 exact Eq.trans this he
theorem uY (c : Int) : ∃ r_, (fun w => w = bl (wu c)) r_ ∧ aT Tryz.prog 178 [.sc (.int .u8 c)] r_ := by
 refine gG tt_ok [] 9 [.tmp 2] (fn := Tryz.f178) Tryz.func178 rfl Tryz.call178 ⟨rfl, rfl, by simp⟩ fun K hK => ?_
 simp only [go_sem]
 refine aV (fun dQ => ?_) (fun dQ => ?_)
 ·simp only [go_sem]
  exact hK _ (congrArg bl (by simp_all [wu] <;> (intros; omega)))
 ·simp only [go_sem]
  exact hK _ (congrArg bl (by simp_all [wu] <;> (intros; omega)))
theorem uZ (c : Int) : ∃ r_, (fun w => w = bl (Ay c)) r_ ∧ aT Tryz.prog 168 [.sc (.int .u8 c)] r_ := by
 refine gG tt_ok [] 9 [.tmp 2] (fn := Tryz.f168) Tryz.func168 rfl Tryz.call168 ⟨rfl, rfl, by simp⟩ fun K hK => ?_
 simp only [go_sem]
 refine aV (fun dQ => ?_) (fun dQ => ?_)
 ·simp only [go_sem]
  exact hK _ (congrArg bl (by simp_all [Ay] <;> (intros; omega)))
 ·simp only [go_sem]
  exact hK _ (congrArg bl (by simp_all [Ay] <;> (intros; omega)))
theorem qG (c : Int) : ∃ r_, (fun w => w = bl (mM c)) r_ ∧ aT Tryz.prog 198 [.sc (.int .u8 c)] r_ := by
 refine gG tt_ok [] 9 [.tmp 2] (fn := Tryz.f198) Tryz.func198 rfl Tryz.call198 ⟨rfl, rfl, by simp⟩ fun K hK => ?_
 simp only [go_sem]
 refine aV (fun dQ => ?_) (fun dQ => ?_)
 ·simp only [go_sem]
  exact hK _ (congrArg bl (by simp_all [mM] <;> (intros; omega)))
 ·simp only [go_sem]
  exact hK _ (congrArg bl (by simp_all [mM] <;> (intros; omega)))
theorem w5 (c : Int) : ∃ r_, (fun w => w = bl (wu c)) r_ ∧ aT Tryz.prog 58 [.sc (.int .u8 c)] r_ := by
 refine gG tt_ok [] 9 [.tmp 2] (fn := Tryz.f58) Tryz.func58 rfl Tryz.call58 ⟨rfl, rfl, by simp⟩ fun K hK => ?_
 simp only [go_sem]
 refine aV (fun dQ => ?_) (fun dQ => ?_)
 ·simp only [go_sem]
  exact hK _ (congrArg bl (by simp_all [wu] <;> (intros; omega)))
 ·simp only [go_sem]
  exact hK _ (congrArg bl (by simp_all [wu] <;> (intros; omega)))
theorem Az (c : Int) : ∃ r_, (fun w => w = bl (Ay c)) r_ ∧ aT Tryz.prog 154 [.sc (.int .u8 c)] r_ := by
 refine gG tt_ok [] 9 [.tmp 2] (fn := Tryz.f154) Tryz.func154 rfl Tryz.call154 ⟨rfl, rfl, by simp⟩ fun K hK => ?_
 simp only [go_sem]
 refine aV (fun dQ => ?_) (fun dQ => ?_)
 ·simp only [go_sem]
  exact hK _ (congrArg bl (by simp_all [Ay] <;> (intros; omega)))
 ·simp only [go_sem]
  exact hK _ (congrArg bl (by simp_all [Ay] <;> (intros; omega)))
theorem FL (c : Int) : ∃ r_, (fun w => w = bl (mM c)) r_ ∧ aT Tryz.prog 153 [.sc (.int .u8 c)] r_ := by
 refine gG tt_ok [] 9 [.tmp 2] (fn := Tryz.f153) Tryz.func153 rfl Tryz.call153 ⟨rfl, rfl, by simp⟩ fun K hK => ?_
 simp only [go_sem]
 refine aV (fun dQ => ?_) (fun dQ => ?_)
 ·simp only [go_sem]
  exact hK _ (congrArg bl (by simp_all [mM] <;> (intros; omega)))
 ·simp only [go_sem]
  exact hK _ (congrArg bl (by simp_all [mM] <;> (intros; omega)))
theorem EG (c : Int) : ∃ r_, (fun w => w = bl (ld c)) r_ ∧ aT Tryz.prog 170 [.sc (.int .u8 c)] r_ := by
 refine gG tt_ok [] 17 [.tmp 2] (fn := Tryz.f170) Tryz.func170 rfl Tryz.call170 ⟨rfl, rfl, by simp⟩ fun K hK => ?_
 simp only [go_sem]
 refine cF (uY _) ?_
 rintro _ rfl
 simp only [go_sem]
 refine aV (fun dQ => ?_) (fun dQ => ?_)
 ·simp only [go_sem]
  exact hK _ (congrArg bl (by simp_all [ld]))
 ·simp only [go_sem]
  refine cF (uZ _) ?_
  rintro _ rfl
  simp only [go_sem]
  refine aV (fun qH => ?_) (fun qH => ?_)
  ·simp only [go_sem]
   exact hK _ (congrArg bl (by simp_all [ld]))
  ·simp only [go_sem]
   refine cF (qG _) ?_
   rintro _ rfl
   simp only [go_sem]
   refine aV (fun C0 => ?_) (fun C0 => ?_)
   ·simp only [go_sem]
    exact hK _ (congrArg bl (by simp_all [ld]))
   ·simp only [go_sem]
    exact hK _ (congrArg bl (by simp_all [ld]))
theorem IP (c : Int) : ∃ r_, (fun w => w = bl (ld c)) r_ ∧ aT Tryz.prog 107 [.sc (.int .u8 c)] r_ := by
 refine gG tt_ok [] 17 [.tmp 2] (fn := Tryz.f107) Tryz.func107 rfl Tryz.call107 ⟨rfl, rfl, by simp⟩ fun K hK => ?_
 simp only [go_sem]
 refine cF (w5 _) ?_
 rintro _ rfl
 simp only [go_sem]
 refine aV (fun dQ => ?_) (fun dQ => ?_)
 ·simp only [go_sem]
  exact hK _ (congrArg bl (by simp_all [ld]))
 ·simp only [go_sem]
  refine cF (Az _) ?_
  rintro _ rfl
  simp only [go_sem]
  refine aV (fun qH => ?_) (fun qH => ?_)
  ·simp only [go_sem]
   exact hK _ (congrArg bl (by simp_all [ld]))
  ·simp only [go_sem]
   refine cF (FL _) ?_
   rintro _ rfl
   simp only [go_sem]
   refine aV (fun C0 => ?_) (fun C0 => ?_)
   ·simp only [go_sem]
    exact hK _ (congrArg bl (by simp_all [ld]))
   ·simp only [go_sem]
    exact hK _ (congrArg bl (by simp_all [ld]))
theorem Up (c : Int) : ∃ r_, (fun w => w = bl (IN c)) r_ ∧ aT Tryz.prog 197 [.sc (.int .u8 c)] r_ := by
 refine gG tt_ok [] 9 [.tmp 2] (fn := Tryz.f197) Tryz.func197 rfl Tryz.call197 ⟨rfl, rfl, by simp⟩ fun K hK => ?_
 simp only [go_sem]
 refine cF (uY _) ?_
 rintro _ rfl
 simp only [go_sem]
 refine aV (fun dQ => ?_) (fun dQ => ?_)
 ·simp only [go_sem]
  exact hK _ (congrArg bl (by simp_all [IN]))
 ·simp only [go_sem]
  refine cF (qG _) ?_
  rintro _ rfl
  simp only [go_sem]
  exact hK _ (congrArg bl (by simp_all [IN]))
theorem u0 (g : FuncId) (p : Int → Bool) (hg : ∀ c : Int, ∃ r, (fun v => v = bl (p c)) r ∧ aT Tryz.prog g [.sc (.int .u8 c)] r) (s : ByteArray) (hs : s.size ≤ 1048576) : ∃ r_, (fun w => w = bl (lf p s)) r_ ∧ aT Tryz.prog 169 [str s, .sc (.func (.func g) #[] #[])] r_ := by
 refine gG tt_ok [] 18 [.tmp 4] (fn := Tryz.f169) Tryz.func169 rfl Tryz.call169 ⟨rfl, rfl, by simp⟩ fun K hK => ?_
 have oQ : Tryz.prog.underlying 9 = some .string := by kernel_rfl
 have sl : ∀ (a : ByteArray) (ty : TypeId), ib Tryz.prog (Builtin.len_ #[9] ty) [.sc (.string a)] = some (num a.size) := fun a ty => iF (P := Tryz.prog) (tt := tt) (T := 9) a oQ ty
 simp only [sl,go_sem]
 refine eA tt_ok [] [8] 0 [0,1,7] (fun vs => ((s.size : Int) - Go.Eng.intOf (vs.headD .undef)).toNat) (fun vs => ∃ i : Nat, vs = [num i] ∧ i ≤ s.size ∧ ∀ j < i, ∀ b, s[j]? = some b → p b.toNat = true) (by omega) (by simp only [sl,go_sem]) (⟨0, rfl, Nat.zero_le _, fun j hj => absurd hj (Nat.not_lt_zero j)⟩) fun vs hI Z1 cJ => ?_
 obtain ⟨i, rfl, hi, mH⟩ := hI
 simp only [sl,go_sem]
 refine aV (fun jh => ?_) (fun jh => ?_)
 ·have aZ : i < s.size := by simpa using jh
  have hw := aU i (by omega)
  obtain ⟨c, C1⟩ := eQ (s := s) (i := i) aZ
  have AA := gE (P := Tryz.prog) s oQ .i64 (i : Int) (by omega) (c := c) (show s[((i : Nat) : Int).toNat]? = some c from C1)
  simp only [hw,AA,sl,go_sem]
  refine cF (hg _) ?_
  rintro _ rfl
  simp only [hw,AA,sl,go_sem]
  refine aV (fun dG => ?_) (fun dG => ?_)
  ·have ba : false = lf p s := (uW C1 (by simpa using dG)).symm
   simp only [hw,AA,sl,go_sem]
   exact hK _ (congrArg bl ba)
  ·simp only [hw,AA,sl,go_sem]
   refine cJ _ (kB (by omega) (by simp only [hw,AA,sl,go_sem]) ?_ ?_) <;> simp only [dr,lk,reduceIte,zE]
   ·refine ⟨i + 1, rfl, aZ, fun j hj b hb => ?_⟩
    rcases Nat.lt_or_ge j i with h | h
    ·exact mH j h b hb
    ·obtain rfl : j = i := by omega
     rw [C1] at hb; cases hb; simpa using dG
   ·simp only [Go.Eng.intOf,List.headD_cons]; omega
 ·have gv : ¬ i < s.size := by simpa using jh
  have ba : true = lf p s := (w4 fun j hj b hb => mH j (by omega) b hb).symm
  simp only [sl,go_sem]
  exact hK _ (congrArg bl ba)
theorem IQ (s : ByteArray) (hs : s.size ≤ 1048576) : ∃ r_, (fun w => w = bl (lf ld s)) r_ ∧ aT Tryz.prog 59 [str s] r_ := by
 refine gG tt_ok [] 15 [.tmp 2] (fn := Tryz.f59) Tryz.func59 rfl Tryz.call59 ⟨rfl, rfl, by simp⟩ fun K hK => ?_
 have oQ : Tryz.prog.underlying 9 = some .string := by kernel_rfl
 have sl : ∀ (a : ByteArray) (ty : TypeId), ib Tryz.prog (Builtin.len_ #[9] ty) [.sc (.string a)] = some (num a.size) := fun a ty => iF (P := Tryz.prog) (tt := tt) (T := 9) a oQ ty
 simp only [sl,go_sem]
 refine eA tt_ok [] [3] 0 [0] (fun vs => ((s.size : Int) - Go.Eng.intOf (vs.headD .undef)).toNat) (fun vs => ∃ i : Nat, vs = [num i] ∧ i ≤ s.size ∧ ∀ j < i, ∀ b, s[j]? = some b → ld b.toNat = true) (by omega) (by simp only [sl,go_sem]) (⟨0, rfl, Nat.zero_le _, fun j hj => absurd hj (Nat.not_lt_zero j)⟩) fun vs hI Z1 cJ => ?_
 obtain ⟨i, rfl, hi, mH⟩ := hI
 simp only [sl,go_sem]
 refine aV (fun yr => ?_) (fun yr => ?_)
 ·have aZ : i < s.size := by simpa using yr
  have hw := aU i (by omega)
  obtain ⟨c, C1⟩ := eQ (s := s) (i := i) aZ
  have AA := gE (P := Tryz.prog) s oQ .i64 (i : Int) (by omega) (c := c) (show s[((i : Nat) : Int).toNat]? = some c from C1)
  simp only [hw,AA,sl,go_sem]
  refine cF (IP _) ?_
  rintro _ rfl
  simp only [hw,AA,sl,go_sem]
  refine aV (fun po => ?_) (fun po => ?_)
  ·have ba : false = lf ld s := (uW C1 (by simpa using po)).symm
   simp only [hw,AA,sl,go_sem]
   exact hK _ (congrArg bl ba)
  ·simp only [hw,AA,sl,go_sem]
   refine cJ _ (kB (by omega) (by simp only [hw,AA,sl,go_sem]) ?_ ?_) <;> simp only [dr,lk,reduceIte,zE]
   ·refine ⟨i + 1, rfl, aZ, fun j hj b hb => ?_⟩
    rcases Nat.lt_or_ge j i with h | h
    ·exact mH j h b hb
    ·obtain rfl : j = i := by omega
     rw [C1] at hb; cases hb; simpa using po
   ·simp only [Go.Eng.intOf,List.headD_cons]; omega
 ·have gv : ¬ i < s.size := by simpa using yr
  have ba : true = lf ld s := (w4 fun j hj b hb => mH j (by omega) b hb).symm
  simp only [sl,go_sem]
  exact hK _ (congrArg bl ba)
end Go.Proofs.YtnboooapeopjoaaGreatDoor
end

section
namespace Go.Proofs.YtnboooapeopjoaaGreatDoor
open Go.Eng
variable [aA]
def MG (a b : ByteArray) : Bool := Op.bytesLess a.toList b.toList
theorem ag (a b : ByteArray) : (a.toList == b.toList) = decide (a = b) := by
 rw [Bool.eq_iff_iff, beq_iff_eq, decide_eq_true_eq]
 refine ⟨fun h => ?_, fun h => by rw [h]⟩
 rw [ByteArray.toList_eq, ByteArray.toList_eq] at h
 cases a; cases b; congr 1; exact Array.toList_inj.1 h
theorem IT (a b : ByteArray) : MG a b = decide (a.data.toList < b.data.toList) := by
 unfold MG
 rw [Proofs.bytesLess_eq, ByteArray.toList_eq, ByteArray.toList_eq]
def r5 (a b : ByteArray) : Int := if MG a b = true then -1 else if a = b then 0 else 1
theorem r6 {α : Type} {q : α → Bool} {l : List α} {i : Nat} {x : α} (h : l[i]? = some x) (hq : q x = true) : l.any q = true := List.any_eq_true.2 ⟨x, List.mem_of_getElem? h, hq⟩
theorem any_none {α : Type} {q : α → Bool} {l : List α} (h : ∀ j < l.length, ∀ x, l[j]? = some x → q x = false) : l.any q = false := by
 rw [List.any_eq_false]
 intro x hx
 obtain ⟨j, hj⟩ := List.mem_iff_getElem?.1 hx
 rw [h j (List.getElem?_eq_some_iff.1 hj).1 x hj]; simp
def iP (s : ByteArray) (l : List ByteArray) : Bool := l.any fun b => decide (s = b)
theorem tB {s : ByteArray} {l : List ByteArray} : iP s l = true ↔ s ∈ l := by unfold iP; simp
end Go.Proofs.YtnboooapeopjoaaGreatDoor
end
