/-
  CONTRACTS: nodes of types, by the program.
  CONTRACTS: shapes of types, by the program.
  CONTRACTS: nodes of types, by the program.
  CONTRACTS: an expression against its form, by the program.
  CONTRACTS: an expression against its form, by the program: fits.
  CONTRACTS: an expression against its form, by the program: names.
  CONTRACTS: the range over the nodes of a type, with what is known of each node.
  CONTRACTS: CheckType of the program.
  THE FORMS OF EXPRESSIONS: the map that the program makes of them.
  CONTRACTS: the node of an expression, by the program.
  CONTRACTS: parameters, declarations and imports before.
  CONTRACTS: what belongs to a declaration, by the program.
  CONTRACTS: names of a declaration, by the program.
  CONTRACTS: the forms of all kinds; CheckExpr.
  CONTRACTS: CheckExpr of the program.
  CONTRACTS: a declaration behind others, by the program.
  CONTRACTS: ModuleSize: the program's.
-/
import Derived.Test.YtnboooapeopjoaaGreatDoorJ4
set_option linter.all false
section
namespace Go.Proofs.YtnboooapeopjoaaGreatDoor
open Go.Eng
open Nat renaming reduceAdd → zA, reduceLT → zB, reduceLeDiff → zC, reduceMul → zD, reduceEqDiff → zE, reduceSub → zF
variable [aA]
set_option maxHeartbeats 4000000
set_option maxRecDepth 100000
theorem pF (a b : ByteArray) : (MG a b = true ∧ a ≠ b ∧ MG b a = false ∧ r5 a b = -1) ∨ (a = b ∧ MG b a = false ∧ r5 a b = 0) ∨ (MG b a = true ∧ a ≠ b ∧ r5 a b = 1) := by
 unfold r5
 rw [IT, IT]
 by_cases h1 : a.data.toList < b.data.toList
 ·have ch : a ≠ b := fun e => by subst e; exact List.lt_irrefl _ h1
  have h2 : ¬ b.data.toList < a.data.toList := fun h2 => List.lt_irrefl _ (List.lt_trans h1 h2)
  exact .inl ⟨decide_eq_true h1, ch, decide_eq_false h2, by rw [if_pos (decide_eq_true h1)]⟩
 ·by_cases he : a = b
  ·subst he
   exact .inr (.inl ⟨rfl, decide_eq_false h1, by rw [if_neg (by simpa using h1), if_pos rfl]⟩)
  ·have ch : a.data.toList ≠ b.data.toList := fun e => he (by cases a; cases b; congr 1; exact Array.toList_inj.1 e)
   have h2 : b.data.toList < a.data.toList := Std.lt_of_le_of_ne h1 ch.symm
   exact .inr (.inr ⟨decide_eq_true h2, he, by rw [if_neg (by simpa using h1), if_neg he]⟩)
theorem UO {a b : ByteArray} (h : r5 a b = 0) : B5 a b = 5 := by
 rcases pF a b with ⟨-, -, -, h4⟩ | ⟨h1, -, -⟩ | ⟨-, -, h4⟩
 ·rw [h] at h4; cases h4
 ·unfold B5; rw [if_pos h1]
 ·rw [h] at h4; cases h4
theorem UP {a b : ByteArray} (h : 0 < r5 a b) : B5 a b = 1 := by
 rcases pF a b with ⟨-, -, -, h4⟩ | ⟨-, -, h4⟩ | ⟨h1, h2, -⟩
 ·rw [h4] at h; exact absurd h (by decide)
 ·rw [h4] at h; exact absurd h (by decide)
 ·unfold B5; rw [if_neg h2, if_pos h1]
theorem UQ {a b : ByteArray} (h : ¬ r5 a b = 0) (h' : ¬ 0 < r5 a b) : B5 a b = 0 := by
 rcases pF a b with ⟨-, h2, h3, -⟩ | ⟨-, -, h4⟩ | ⟨-, -, h4⟩
 ·unfold B5; rw [if_neg h2, if_neg (by rw [h3]; simp)]
 ·exact absurd h4 h
 ·rw [h4] at h'; exact absurd (by decide) h'
theorem JO {ns : List ByteArray} {i : Nat} {a b : ByteArray} (hi : 1 ≤ i) (ha : ns[i - 1]? = some a) (hb : ns[i]? = some b) : ix (ns.drop (i - 1)) = if B5 a b = 0 then ix (ns.drop i) else B5 a b := by
 have h1 := (List.getElem?_eq_some_iff.1 ha)
 have h2 := (List.getElem?_eq_some_iff.1 hb)
 rw [List.drop_eq_getElem_cons h1.1, h1.2, show i - 1 + 1 = i by omega, List.drop_eq_getElem_cons h2.1, h2.2]
 rfl
theorem EU {ns : List ByteArray} {i : Nat} (h : ns.length ≤ i + 1) : ix (ns.drop i) = 0 := by
 cases hd : ns.drop i with
 | nil => rfl
 | cons a r =>
  have := congrArg List.length hd
  rw [List.length_drop, List.length_cons] at this
  have : r = [] := List.length_eq_zero_iff.1 (by omega)
  subst this; rfl
theorem s9 : ∀ (a b : List UInt8), Lib.compareBytes a b = if Op.bytesLess a b = true then -1 else if a = b then 0 else 1
 | [], [] => by simp [Lib.compareBytes, Op.bytesLess]
 | [], _ :: _ => by simp [Lib.compareBytes, Op.bytesLess]
 | _ :: _, [] => by simp [Lib.compareBytes, Op.bytesLess]
 | a :: l1, b :: l2 => by
  have ih := s9 l1 l2
  unfold Lib.compareBytes Op.bytesLess
  by_cases h1 : a < b
  ·simp [h1]
  ·by_cases h2 : b < a
   ·have ch : a ≠ b := fun e => by subst e; exact UInt8.lt_irrefl _ h2
    simp [h1, h2, ch]
   ·have e : a = b := UInt8.le_antisymm (UInt8.not_lt.1 h2) (UInt8.not_lt.1 h1)
    subst e
    simp [h1, ih]
theorem Nh (s t : ByteArray) : ∃ r, (fun v => v = num (r5 s t)) r ∧ m9 Tryz.prog 320 [str s, str t] r := by
 refine ⟨_, rfl, (show m9 Tryz.prog 320 [str s, str t] (gO (.int .i64 (r5 s t))) from Ik (P := Tryz.prog) (fn := Tryz.f320) (ext := Extern.BytealgCompare.compare) Tryz.func320 (by kernel_rfl) rfl (by kernel_rfl) (by kernel_rfl) (l := [.string s, .string t]) rfl fun w => ?_)⟩
 have h := Lib.run_compareString (P := Tryz.prog) s t w
 rw [h]
 congr 2
 rw [s9]
 unfold r5 MG
 rw [← ByteArray.toList_eq, ← ByteArray.toList_eq]
 by_cases hl : Op.bytesLess s.toList t.toList = true
 ·rw [if_pos hl, if_pos hl]
 ·rw [if_neg hl, if_neg hl]
  by_cases he : s = t
  ·rw [if_pos he, if_pos (by rw [he])]
  ·rw [if_neg he, if_neg fun e => he (by have h := ag s t; rw [e] at h; simpa using h)]
theorem Ni (s t : ByteArray) : ∃ r_, (fun w => w = num (r5 s t)) r_ ∧ aT Tryz.prog 302 [str s, str t] r_ := by
 refine gG tt_ok [] 8 [.tmp 4] (fn := Tryz.f302) Tryz.func302 rfl Tryz.call302 ⟨rfl, rfl, by simp⟩ fun K hK => ?_
 simp only [go_sem]
 refine cN (Nh _ _) ?_
 rintro _ rfl
 simp only [go_sem]
 exact hK _ rfl
theorem vJ (s t : ByteArray) : ∃ r_, (fun w => w = num (r5 s t)) r_ ∧ aT Tryz.prog 273 [str s, str t] r_ := by
 refine gG tt_ok [] 8 [.tmp 4] (fn := Tryz.f273) Tryz.func273 rfl Tryz.call273 ⟨rfl, rfl, by simp⟩ fun K hK => ?_
 simp only [go_sem]
 refine cF (Ni _ _) ?_
 rintro _ rfl
 simp only [go_sem]
 exact hK _ rfl
theorem Gk (hG : aA.g = some 1) (x : Fd) : ∃ r_, (fun w => w = bl (!bM x.name)) r_ ∧ aT Tryz.prog 239 [jA x] r_ := by
 refine gG tt_ok [] 7 [.tmp 2] (fn := Tryz.f239) Tryz.func239 rfl Tryz.call239 ⟨rfl, rfl, by simp⟩ fun K hK => ?_
 simp only [ck,bE,aj]
 simp only [go_sem]
 refine cF (eR hG _) ?_
 rintro _ rfl
 simp only [go_sem]
 exact hK _ rfl
theorem Dz (x : Fd) : ∃ r_, (fun w => w = bl (x.opt)) r_ ∧ aT Tryz.prog 271 [jA x] r_ := by
 refine gG tt_ok [] 5 [.tmp 2] (fn := Tryz.f271) Tryz.func271 rfl Tryz.call271 ⟨rfl, rfl, by simp⟩ fun K hK => ?_
 simp only [ck,bE,aj]
 simp only [go_sem]
 exact hK _ rfl
theorem Gm (x : Fd) : ∃ r_, (fun v => v = str x.name) r_ ∧ aT Tryz.prog 241 [jA x] r_ := by
 refine gG tt_ok [] 5 [.tmp 2] (fn := Tryz.f241) Tryz.func241 rfl Tryz.call241 ⟨rfl, rfl, by simp⟩ fun K hK => ?_
 simp only [ck,bE,aj]
 simp only [go_sem]
 exact hK _ rfl
theorem JP (g : FuncId) (q : Fd → Bool) (l : List Fd) (hg : ∀ x ∈ l, ∃ r, (fun v => v = bl (q x)) r ∧ aT Tryz.prog g [jA x] r) (hl : l.length ≤ 1048576) : ∃ r_, (fun w => ∃ k : Int, w = num k ∧ decide (0 ≤ k) = l.any q) r_ ∧ aT Tryz.prog 272 [.slice (a6 l), .sc (.func (.func g) #[] #[])] r_ := by
 refine gG tt_ok [] 19 [.tmp 4] (fn := Tryz.f272) Tryz.func272 rfl Tryz.call272 ⟨rfl, rfl, by simp⟩ fun K hK => ?_
 simp only [af,go_sem]
 refine eA tt_ok [] [8] 0 [0,1,7] (fun vs => ((l.length : Int) - Go.Eng.intOf (vs.headD .undef)).toNat) (fun vs => ∃ i : Nat, vs = [num i] ∧ i ≤ l.length ∧ ∀ j < i, ∀ x, l[j]? = some x → q x = false) (by omega) (by simp only [af,go_sem]) (⟨0, rfl, Nat.zero_le _, fun j hj => absurd hj (Nat.not_lt_zero j)⟩) fun vs hI Z1 cJ => ?_
 obtain ⟨i, rfl, hi, cK⟩ := hI
 simp only [af,go_sem]
 refine aV (fun jh => ?_) (fun jh => ?_)
 ·have aZ : i < l.length := by simpa using jh
  have hw := aU i (by omega)
  obtain ⟨x, hx⟩ : ∃ x, l[i]? = some x := ⟨_, List.getElem?_eq_getElem aZ⟩
  simp only [ck,hw,bJ,hx,bE,aj,af,go_sem]
  refine cF (by have h := hg x (List.mem_of_getElem? hx); simp only [ck,bE,aj] at h; exact h) ?_
  rintro _ rfl
  simp only [ck,hw,bJ,hx,bE,aj,af,go_sem]
  refine aV (fun dG => ?_) (fun dG => ?_)
  ·have ba : decide (0 ≤ (i : Int)) = l.any q := by rw [r6 hx dG]; exact decide_eq_true (Int.natCast_nonneg i)
   simp only [ck,hw,bJ,hx,bE,aj,af,go_sem]
   exact hK _ ⟨_, rfl, ba⟩
  ·simp only [ck,hw,bJ,hx,bE,aj,af,go_sem]
   refine cJ _ (kB (by omega) (by simp only [ck,hw,bJ,hx,bE,aj,af,go_sem]) ?_ ?_) <;> simp only [dr,lk,reduceIte,zE]
   ·refine ⟨i + 1, rfl, aZ, fun j hj => ?_⟩
    rcases Nat.lt_or_ge j i with h | h
    ·exact cK j h
    ·obtain rfl : j = i := by omega
     intro y hy
     rw [hx] at hy; cases hy; exact dG
   ·simp only [Go.Eng.intOf,List.headD_cons]; omega
 ·have gv : ¬ i < l.length := by simpa using jh
  have ba : decide (0 ≤ (-1 : Int)) = l.any q := (any_none fun j hj => cK j (by omega)).symm ▸ rfl
  simp only [af,go_sem]
  exact hK _ ⟨_, rfl, ba⟩
theorem BB (g : FuncId) (q : Fd → Bool) (l : List Fd) (hg : ∀ x ∈ l, ∃ r, (fun v => v = bl (q x)) r ∧ aT Tryz.prog g [jA x] r) (hl : l.length ≤ 1048576) : ∃ r_, (fun w => w = bl (l.any q)) r_ ∧ aT Tryz.prog 238 [.slice (a6 l), .sc (.func (.func g) #[] #[])] r_ := by
 refine gG tt_ok [] 9 [.tmp 4] (fn := Tryz.f238) Tryz.func238 rfl Tryz.call238 ⟨rfl, rfl, by simp⟩ fun K hK => ?_
 simp only [go_sem]
 refine cF (JP g q l hg hl) ?_
 rintro _ ⟨k, rfl, hk⟩
 simp only [go_sem]
 exact hK _ (congrArg bl hk)
theorem JQ (g : FuncId) (l : List Fd) (hg : ∀ x ∈ l, ∃ r, (fun v => v = str (Fd.name x)) r ∧ aT Tryz.prog g [jA x] r) (hl : l.length ≤ 1048576) : ∃ r_, (fun w => w = num (ix (l.map Fd.name))) r_ ∧ aT Tryz.prog 240 [.slice (a6 l), .sc (.func (.func g) #[] #[])] r_ := by
 refine gG tt_ok [] 33 [.tmp 4] (fn := Tryz.f240) Tryz.func240 rfl Tryz.call240 ⟨rfl, rfl, by simp⟩ fun K hK => ?_
 simp only [af,go_sem]
 refine eA tt_ok [] [5] 0 [0,1] (fun vs => ((l.length : Int) - Go.Eng.intOf (vs.headD .undef)).toNat) (fun vs => ∃ i : Nat, vs = [num i] ∧ 1 ≤ i ∧ (1 < i → i ≤ l.length) ∧ ix (l.map Fd.name) = ix ((l.map Fd.name).drop (i - 1))) (by omega) (by simp only [af,go_sem]) (⟨1, rfl, Nat.le_refl _, fun h => absurd h (by decide), rfl⟩) fun vs hI Z1 cJ => ?_
 obtain ⟨i, rfl, hi, hle, hinv⟩ := hI
 simp only [af,go_sem]
 refine aV (fun mq => ?_) (fun mq => ?_)
 ·have aZ : i < l.length := by simpa using mq
  obtain ⟨x, hx⟩ : ∃ x, l[i - 1]? = some x := ⟨_, List.getElem?_eq_getElem (by omega)⟩
  obtain ⟨y, hy⟩ : ∃ y, l[i]? = some y := ⟨_, List.getElem?_eq_getElem aZ⟩
  have hw := aU i (by omega)
  have eM : IntKind.i64.wrap ((i : Int) - 1) = ((i - 1 : Nat) : Int) := by rw [IntWalk.i64_in _ (by omega)]; omega
  have ig : ix ((l.map Fd.name).drop (i - 1)) = if B5 (Fd.name x) (Fd.name y) = 0 then ix ((l.map Fd.name).drop i) else B5 (Fd.name x) (Fd.name y) := JO hi (by rw [List.getElem?_map, hx]; rfl) (by rw [List.getElem?_map, hy]; rfl)
  simp only [ck,hw,eM,bJ,hx,hy,bE,aj,af,go_sem]
  refine de tt_ok bj [⟨.n, 0, [], [], []⟩, ⟨.n, 0, [], [], []⟩, ⟨.n, 0, [], [], []⟩, ⟨.n, 0, [], [], []⟩, ⟨.r, 0, [], [], []⟩, ⟨.r, 0, [], [], []⟩, ⟨.n, 0, [], [], []⟩, ⟨.n, 0, [], [], []⟩, ⟨.n, 0, [], [], []⟩, ⟨.n, 0, [], [], []⟩, ⟨.r, 0, [], [], []⟩, ⟨.r, 0, [], [], []⟩, ⟨.n, 0, [], [], []⟩, ⟨.n, 0, [], [], []⟩, ⟨.n, 0, [], [], []⟩] 0 (by kernel_rfl) ?_
  simp only [ck,hw,eM,bJ,hx,hy,bE,aj,af,go_sem]
  refine cG (by have h := hg x (List.mem_of_getElem? hx); simp only [ck,bE,aj] at h; exact h) ?_
  rintro _ rfl
  simp only [ck,hw,eM,bJ,hx,hy,bE,aj,af,go_sem]
  refine cG (by have h := hg y (List.mem_of_getElem? hy); simp only [ck,bE,aj] at h; exact h) ?_
  rintro _ rfl
  simp only [ck,hw,eM,bJ,hx,hy,bE,aj,af,go_sem]
  refine cG (vJ _ _) ?_
  rintro _ rfl
  simp only [ck,hw,eM,bJ,hx,hy,bE,aj,af,go_sem]
  refine aV (fun my => ?_) (fun my => ?_)
  ·have ba : 5 = ix (l.map Fd.name) := by rw [hinv, ig, UO (of_decide_eq_true my)]; rfl
   simp only [ck,hw,eM,bJ,hx,hy,bE,aj,af,go_sem]
   exact hK _ (congrArg num ba)
  ·simp only [ck,hw,eM,bJ,hx,hy,bE,aj,af,go_sem]
   refine aV (fun nU => ?_) (fun nU => ?_)
   ·have ba : 1 = ix (l.map Fd.name) := by rw [hinv, ig, UP (of_decide_eq_true nU)]; rfl
    simp only [ck,hw,eM,bJ,hx,hy,bE,aj,af,go_sem]
    exact hK _ (congrArg num ba)
   ·have rv : B5 (Fd.name x) (Fd.name y) = 0 := UQ (of_decide_eq_false my) (of_decide_eq_false nU)
    simp only [ck,hw,eM,bJ,hx,hy,bE,aj,af,go_sem]
    refine cJ _ (kB (by omega) (by simp only [ck,hw,eM,bJ,hx,hy,bE,aj,af,go_sem]) ?_ ?_) <;> simp only [dr,lk,reduceIte,zE]
    ·exact ⟨i + 1, rfl, by omega, fun _ => aZ, by rw [hinv, ig, if_pos rv]; rfl⟩
    ·simp only [Go.Eng.intOf,List.headD_cons]; omega
 ·have gv : ¬ i < l.length := by simpa using mq
  have ba : (0 : Int) = ix (l.map Fd.name) := by rw [hinv]; exact (EU (by rw [List.length_map]; omega)).symm
  simp only [af,go_sem]
  exact hK _ (congrArg num ba)
end Go.Proofs.YtnboooapeopjoaaGreatDoor
end

section
namespace Go.Proofs.YtnboooapeopjoaaGreatDoor
open Go.Eng
variable [aA]
set_option maxHeartbeats 4000000
set_option maxRecDepth 100000
theorem fc (n : Nat) : ((n : Int) = 0) = (n = 0) := by rw [eq_iff_iff]; omega
theorem fw (n : Nat) : ((n : Int) = 1) = (n = 1) := by rw [eq_iff_iff]; omega
def UR (t : Ty) (ao : Bool) : Bool :=
  (decide (t.kind = 8) || !ao) &&
  (if t.kind = 0 ∨ t.kind = 1 ∨ t.kind = 2 ∨ t.kind = 3 ∨ t.kind = 4 then fg t.mod && fg t.name && decide (t.args.length = 0) && decide (t.aJ.length = 0)
   else if t.kind = 5 then fg t.mod && fg t.name && decide (t.args.length = 1) && decide (t.aJ.length = 0)
   else if t.kind = 6 ∨ t.kind = 7 then fg t.mod && fg t.name && decide (t.args.length = 0)
   else if t.kind = 8 then fg t.mod && fg t.name && decide (t.args.length = 1)
   else if t.kind = 9 then fg t.mod && decide (t.args.length = 0) && decide (t.aJ.length = 0)
   else if t.kind = 10 then decide (t.aJ.length = 0) else false)
theorem Rf (t : Ty) : UB t = UR t (t.aJ.any Fd.opt) := rfl
theorem Gn (t : Ty) (hl : t.aJ.length ≤ 1048576) : ∃ r_, (fun w => w = bl (UB t)) r_ ∧ aT Tryz.prog 236 [bg t] r_ := by
  refine gG tt_ok [] 106 [.tmp 2] (fn := Tryz.f236) Tryz.func236 rfl Tryz.call236 ⟨rfl, rfl, by simp⟩ fun K hK => ?_
  have Sx := Rf t
  have b9 := BB 271 Fd.opt t.aJ (fun x _ => Dz x) hl
  obtain ⟨ao, hao⟩ : ∃ b, t.aJ.any Fd.opt = b := ⟨_, rfl⟩
  obtain ⟨em, bz⟩ : ∃ b, decide (t.mod = ⟨#[]⟩) = b := ⟨_, rfl⟩
  obtain ⟨en, bk⟩ : ∃ b, decide (t.name = ⟨#[]⟩) = b := ⟨_, rfl⟩
  obtain ⟨na, bh⟩ : ∃ b, t.args.length = b := ⟨_, rfl⟩
  obtain ⟨nf, bu⟩ : ∃ b, t.aJ.length = b := ⟨_, rfl⟩
  rw [hao] at Sx b9
  unfold UR fg at Sx
  rw [bz, bk, bh, bu] at Sx
  obtain ⟨k, hk⟩ : ∃ k, t.kind = k := ⟨_, rfl⟩
  rw [hk] at Sx
  rw [Sx] at hK
  clear hao Sx
  simp only [ay,aj]
  rw [hk]
  clear hk
  simp only [af,ab,ag,bz,bk,bh,bu,go_sem]
  refine de tt_ok bj [⟨.n, 0, [], [], []⟩, ⟨.r, 0, [], [], []⟩, ⟨.n, 0, [], [], []⟩, ⟨.n, 0, [], [], []⟩, ⟨.r, 0, [], [], []⟩, ⟨.n, 0, [], [], []⟩, ⟨.n, 0, [], [], []⟩, ⟨.r, 0, [], [], []⟩, ⟨.n, 0, [], [], []⟩, ⟨.n, 0, [], [], []⟩, ⟨.r, 0, [], [], []⟩, ⟨.n, 0, [], [], []⟩, ⟨.n, 0, [], [], []⟩, ⟨.n, 0, [], [], []⟩, ⟨.n, 0, [], [], []⟩, ⟨.n, 0, [], [], []⟩] 0 (by kernel_rfl) ?_
  simp only [af,ab,ag,bz,bk,bh,bu,go_sem]
  refine aV (fun US => ?_) (fun US => ?_)
  · skip
    simp only [af,ab,ag,bz,bk,bh,bu,go_sem]
    refine cF (b9) ?_
    rintro _ rfl
    simp only [af,ab,ag,bz,bk,bh,bu,go_sem]
    refine aV (fun aaw => ?_) (fun aaw => ?_)
    · skip
      simp only [af,ab,ag,bz,bk,bh,bu,go_sem]
      exact hK _ (congrArg bl (by clear hK b9 bz bk bh bu; simp_all [fc, fw]))
    · skip
      simp only [af,ab,ag,bz,bk,bh,bu,go_sem]
      refine aV (fun hH => ?_) (fun hH => ?_)
      · skip
        simp only [af,ab,ag,bz,bk,bh,bu,go_sem]
        refine aV (fun eD => ?_) (fun eD => ?_)
        · skip
          simp only [af,ab,ag,bz,bk,bh,bu,go_sem]
          refine aV (fun fe => ?_) (fun fe => ?_)
          · skip
            simp only [af,ab,ag,bz,bk,bh,bu,go_sem]
            refine aV (fun dI => ?_) (fun dI => ?_)
            · skip
              simp only [af,ab,ag,bz,bk,bh,bu,go_sem]
              exact hK _ (congrArg bl (by clear hK b9 bz bk bh bu; simp_all [fc, fw]))
            · skip
              simp only [af,ab,ag,bz,bk,bh,bu,go_sem]
              exact hK _ (congrArg bl (by clear hK b9 bz bk bh bu; simp_all [fc, fw]))
          · skip
            simp only [af,ab,ag,bz,bk,bh,bu,go_sem]
            exact hK _ (congrArg bl (by clear hK b9 bz bk bh bu; simp_all [fc, fw]))
        · skip
          simp only [af,ab,ag,bz,bk,bh,bu,go_sem]
          exact hK _ (congrArg bl (by clear hK b9 bz bk bh bu; simp_all [fc, fw]))
      · skip
        simp only [af,ab,ag,bz,bk,bh,bu,go_sem]
        refine aV (fun hH => ?_) (fun hH => ?_)
        · skip
          simp only [af,ab,ag,bz,bk,bh,bu,go_sem]
          refine aV (fun eD => ?_) (fun eD => ?_)
          · skip
            simp only [af,ab,ag,bz,bk,bh,bu,go_sem]
            refine aV (fun fe => ?_) (fun fe => ?_)
            · skip
              simp only [af,ab,ag,bz,bk,bh,bu,go_sem]
              refine aV (fun dI => ?_) (fun dI => ?_)
              · skip
                simp only [af,ab,ag,bz,bk,bh,bu,go_sem]
                exact hK _ (congrArg bl (by clear hK b9 bz bk bh bu; simp_all [fc, fw]))
              · skip
                simp only [af,ab,ag,bz,bk,bh,bu,go_sem]
                exact hK _ (congrArg bl (by clear hK b9 bz bk bh bu; simp_all [fc, fw]))
            · skip
              simp only [af,ab,ag,bz,bk,bh,bu,go_sem]
              exact hK _ (congrArg bl (by clear hK b9 bz bk bh bu; simp_all [fc, fw]))
          · skip
            simp only [af,ab,ag,bz,bk,bh,bu,go_sem]
            exact hK _ (congrArg bl (by clear hK b9 bz bk bh bu; simp_all [fc, fw]))
        · skip
          simp only [af,ab,ag,bz,bk,bh,bu,go_sem]
          refine aV (fun hH => ?_) (fun hH => ?_)
          · skip
            simp only [af,ab,ag,bz,bk,bh,bu,go_sem]
            refine aV (fun eD => ?_) (fun eD => ?_)
            · skip
              simp only [af,ab,ag,bz,bk,bh,bu,go_sem]
              refine aV (fun fe => ?_) (fun fe => ?_)
              · skip
                simp only [af,ab,ag,bz,bk,bh,bu,go_sem]
                refine aV (fun dI => ?_) (fun dI => ?_)
                · skip
                  simp only [af,ab,ag,bz,bk,bh,bu,go_sem]
                  exact hK _ (congrArg bl (by clear hK b9 bz bk bh bu; simp_all [fc, fw]))
                · skip
                  simp only [af,ab,ag,bz,bk,bh,bu,go_sem]
                  exact hK _ (congrArg bl (by clear hK b9 bz bk bh bu; simp_all [fc, fw]))
              · skip
                simp only [af,ab,ag,bz,bk,bh,bu,go_sem]
                exact hK _ (congrArg bl (by clear hK b9 bz bk bh bu; simp_all [fc, fw]))
            · skip
              simp only [af,ab,ag,bz,bk,bh,bu,go_sem]
              exact hK _ (congrArg bl (by clear hK b9 bz bk bh bu; simp_all [fc, fw]))
          · skip
            simp only [af,ab,ag,bz,bk,bh,bu,go_sem]
            refine aV (fun hH => ?_) (fun hH => ?_)
            · skip
              simp only [af,ab,ag,bz,bk,bh,bu,go_sem]
              refine aV (fun eD => ?_) (fun eD => ?_)
              · skip
                simp only [af,ab,ag,bz,bk,bh,bu,go_sem]
                refine aV (fun fe => ?_) (fun fe => ?_)
                · skip
                  simp only [af,ab,ag,bz,bk,bh,bu,go_sem]
                  refine aV (fun dI => ?_) (fun dI => ?_)
                  · skip
                    simp only [af,ab,ag,bz,bk,bh,bu,go_sem]
                    exact hK _ (congrArg bl (by clear hK b9 bz bk bh bu; simp_all [fc, fw]))
                  · skip
                    simp only [af,ab,ag,bz,bk,bh,bu,go_sem]
                    exact hK _ (congrArg bl (by clear hK b9 bz bk bh bu; simp_all [fc, fw]))
                · skip
                  simp only [af,ab,ag,bz,bk,bh,bu,go_sem]
                  exact hK _ (congrArg bl (by clear hK b9 bz bk bh bu; simp_all [fc, fw]))
              · skip
                simp only [af,ab,ag,bz,bk,bh,bu,go_sem]
                exact hK _ (congrArg bl (by clear hK b9 bz bk bh bu; simp_all [fc, fw]))
            · skip
              simp only [af,ab,ag,bz,bk,bh,bu,go_sem]
              refine aV (fun hH => ?_) (fun hH => ?_)
              · skip
                simp only [af,ab,ag,bz,bk,bh,bu,go_sem]
                refine aV (fun eD => ?_) (fun eD => ?_)
                · skip
                  simp only [af,ab,ag,bz,bk,bh,bu,go_sem]
                  refine aV (fun fe => ?_) (fun fe => ?_)
                  · skip
                    simp only [af,ab,ag,bz,bk,bh,bu,go_sem]
                    refine aV (fun dI => ?_) (fun dI => ?_)
                    · skip
                      simp only [af,ab,ag,bz,bk,bh,bu,go_sem]
                      exact hK _ (congrArg bl (by clear hK b9 bz bk bh bu; simp_all [fc, fw]))
                    · skip
                      simp only [af,ab,ag,bz,bk,bh,bu,go_sem]
                      exact hK _ (congrArg bl (by clear hK b9 bz bk bh bu; simp_all [fc, fw]))
                  · skip
                    simp only [af,ab,ag,bz,bk,bh,bu,go_sem]
                    exact hK _ (congrArg bl (by clear hK b9 bz bk bh bu; simp_all [fc, fw]))
                · skip
                  simp only [af,ab,ag,bz,bk,bh,bu,go_sem]
                  exact hK _ (congrArg bl (by clear hK b9 bz bk bh bu; simp_all [fc, fw]))
              · skip
                simp only [af,ab,ag,bz,bk,bh,bu,go_sem]
                refine aV (fun Rg => ?_) (fun Rg => ?_)
                · skip
                  simp only [af,ab,ag,bz,bk,bh,bu,go_sem]
                  refine aV (fun DA => ?_) (fun DA => ?_)
                  · skip
                    simp only [af,ab,ag,bz,bk,bh,bu,go_sem]
                    refine aV (fun DB => ?_) (fun DB => ?_)
                    · skip
                      simp only [af,ab,ag,bz,bk,bh,bu,go_sem]
                      refine aV (fun yN => ?_) (fun yN => ?_)
                      · skip
                        simp only [af,ab,ag,bz,bk,bh,bu,go_sem]
                        exact hK _ (congrArg bl (by clear hK b9 bz bk bh bu; simp_all [fc, fw]))
                      · skip
                        simp only [af,ab,ag,bz,bk,bh,bu,go_sem]
                        exact hK _ (congrArg bl (by clear hK b9 bz bk bh bu; simp_all [fc, fw]))
                    · skip
                      simp only [af,ab,ag,bz,bk,bh,bu,go_sem]
                      exact hK _ (congrArg bl (by clear hK b9 bz bk bh bu; simp_all [fc, fw]))
                  · skip
                    simp only [af,ab,ag,bz,bk,bh,bu,go_sem]
                    exact hK _ (congrArg bl (by clear hK b9 bz bk bh bu; simp_all [fc, fw]))
                · skip
                  simp only [af,ab,ag,bz,bk,bh,bu,go_sem]
                  refine aV (fun sh => ?_) (fun sh => ?_)
                  · skip
                    simp only [af,ab,ag,bz,bk,bh,bu,go_sem]
                    refine aV (fun pG => ?_) (fun pG => ?_)
                    · skip
                      simp only [af,ab,ag,bz,bk,bh,bu,go_sem]
                      refine aV (fun pH => ?_) (fun pH => ?_)
                      · skip
                        simp only [af,ab,ag,bz,bk,bh,bu,go_sem]
                        exact hK _ (congrArg bl (by clear hK b9 bz bk bh bu; simp_all [fc, fw]))
                      · skip
                        simp only [af,ab,ag,bz,bk,bh,bu,go_sem]
                        exact hK _ (congrArg bl (by clear hK b9 bz bk bh bu; simp_all [fc, fw]))
                    · skip
                      simp only [af,ab,ag,bz,bk,bh,bu,go_sem]
                      exact hK _ (congrArg bl (by clear hK b9 bz bk bh bu; simp_all [fc, fw]))
                  · skip
                    simp only [af,ab,ag,bz,bk,bh,bu,go_sem]
                    refine aV (fun sh => ?_) (fun sh => ?_)
                    · skip
                      simp only [af,ab,ag,bz,bk,bh,bu,go_sem]
                      refine aV (fun pG => ?_) (fun pG => ?_)
                      · skip
                        simp only [af,ab,ag,bz,bk,bh,bu,go_sem]
                        refine aV (fun pH => ?_) (fun pH => ?_)
                        · skip
                          simp only [af,ab,ag,bz,bk,bh,bu,go_sem]
                          exact hK _ (congrArg bl (by clear hK b9 bz bk bh bu; simp_all [fc, fw]))
                        · skip
                          simp only [af,ab,ag,bz,bk,bh,bu,go_sem]
                          exact hK _ (congrArg bl (by clear hK b9 bz bk bh bu; simp_all [fc, fw]))
                      · skip
                        simp only [af,ab,ag,bz,bk,bh,bu,go_sem]
                        exact hK _ (congrArg bl (by clear hK b9 bz bk bh bu; simp_all [fc, fw]))
                    · skip
                      simp only [af,ab,ag,bz,bk,bh,bu,go_sem]
                      refine aV (fun DC => ?_) (fun DC => ?_)
                      · skip
                        simp only [af,ab,ag,bz,bk,bh,bu,go_sem]
                        refine aV (fun DD => ?_) (fun DD => ?_)
                        · skip
                          simp only [af,ab,ag,bz,bk,bh,bu,go_sem]
                          refine aV (fun DE => ?_) (fun DE => ?_)
                          · skip
                            simp only [af,ab,ag,bz,bk,bh,bu,go_sem]
                            exact hK _ (congrArg bl (by clear hK b9 bz bk bh bu; simp_all [fc, fw]))
                          · skip
                            simp only [af,ab,ag,bz,bk,bh,bu,go_sem]
                            exact hK _ (congrArg bl (by clear hK b9 bz bk bh bu; simp_all [fc, fw]))
                        · skip
                          simp only [af,ab,ag,bz,bk,bh,bu,go_sem]
                          exact hK _ (congrArg bl (by clear hK b9 bz bk bh bu; simp_all [fc, fw]))
                      · skip
                        simp only [af,ab,ag,bz,bk,bh,bu,go_sem]
                        refine aV (fun Rh => ?_) (fun Rh => ?_)
                        · skip
                          simp only [af,ab,ag,bz,bk,bh,bu,go_sem]
                          refine aV (fun DF => ?_) (fun DF => ?_)
                          · skip
                            simp only [af,ab,ag,bz,bk,bh,bu,go_sem]
                            refine aV (fun DG => ?_) (fun DG => ?_)
                            · skip
                              simp only [af,ab,ag,bz,bk,bh,bu,go_sem]
                              exact hK _ (congrArg bl (by clear hK b9 bz bk bh bu; simp_all [fc, fw]))
                            · skip
                              simp only [af,ab,ag,bz,bk,bh,bu,go_sem]
                              exact hK _ (congrArg bl (by clear hK b9 bz bk bh bu; simp_all [fc, fw]))
                          · skip
                            simp only [af,ab,ag,bz,bk,bh,bu,go_sem]
                            exact hK _ (congrArg bl (by clear hK b9 bz bk bh bu; simp_all [fc, fw]))
                        · skip
                          simp only [af,ab,ag,bz,bk,bh,bu,go_sem]
                          refine aV (fun JR => ?_) (fun JR => ?_)
                          · skip
                            simp only [af,ab,ag,bz,bk,bh,bu,go_sem]
                            exact hK _ (congrArg bl (by clear hK b9 bz bk bh bu; simp_all [fc, fw]))
                          · skip
                            simp only [af,ab,ag,bz,bk,bh,bu,go_sem]
                            exact hK _ (congrArg bl (by clear hK b9 bz bk bh bu; simp_all [fc, fw]))
  · skip
    simp only [af,ab,ag,bz,bk,bh,bu,go_sem]
    refine aV (fun hH => ?_) (fun hH => ?_)
    · skip
      simp only [af,ab,ag,bz,bk,bh,bu,go_sem]
      refine aV (fun eD => ?_) (fun eD => ?_)
      · skip
        simp only [af,ab,ag,bz,bk,bh,bu,go_sem]
        refine aV (fun fe => ?_) (fun fe => ?_)
        · skip
          simp only [af,ab,ag,bz,bk,bh,bu,go_sem]
          refine aV (fun dI => ?_) (fun dI => ?_)
          · skip
            simp only [af,ab,ag,bz,bk,bh,bu,go_sem]
            exact hK _ (congrArg bl (by clear hK b9 bz bk bh bu; simp_all [fc, fw]))
          · skip
            simp only [af,ab,ag,bz,bk,bh,bu,go_sem]
            exact hK _ (congrArg bl (by clear hK b9 bz bk bh bu; simp_all [fc, fw]))
        · skip
          simp only [af,ab,ag,bz,bk,bh,bu,go_sem]
          exact hK _ (congrArg bl (by clear hK b9 bz bk bh bu; simp_all [fc, fw]))
      · skip
        simp only [af,ab,ag,bz,bk,bh,bu,go_sem]
        exact hK _ (congrArg bl (by clear hK b9 bz bk bh bu; simp_all [fc, fw]))
    · skip
      simp only [af,ab,ag,bz,bk,bh,bu,go_sem]
      refine aV (fun hH => ?_) (fun hH => ?_)
      · skip
        simp only [af,ab,ag,bz,bk,bh,bu,go_sem]
        refine aV (fun eD => ?_) (fun eD => ?_)
        · skip
          simp only [af,ab,ag,bz,bk,bh,bu,go_sem]
          refine aV (fun fe => ?_) (fun fe => ?_)
          · skip
            simp only [af,ab,ag,bz,bk,bh,bu,go_sem]
            refine aV (fun dI => ?_) (fun dI => ?_)
            · skip
              simp only [af,ab,ag,bz,bk,bh,bu,go_sem]
              exact hK _ (congrArg bl (by clear hK b9 bz bk bh bu; simp_all [fc, fw]))
            · skip
              simp only [af,ab,ag,bz,bk,bh,bu,go_sem]
              exact hK _ (congrArg bl (by clear hK b9 bz bk bh bu; simp_all [fc, fw]))
          · skip
            simp only [af,ab,ag,bz,bk,bh,bu,go_sem]
            exact hK _ (congrArg bl (by clear hK b9 bz bk bh bu; simp_all [fc, fw]))
        · skip
          simp only [af,ab,ag,bz,bk,bh,bu,go_sem]
          exact hK _ (congrArg bl (by clear hK b9 bz bk bh bu; simp_all [fc, fw]))
      · skip
        simp only [af,ab,ag,bz,bk,bh,bu,go_sem]
        refine aV (fun hH => ?_) (fun hH => ?_)
        · skip
          simp only [af,ab,ag,bz,bk,bh,bu,go_sem]
          refine aV (fun eD => ?_) (fun eD => ?_)
          · skip
            simp only [af,ab,ag,bz,bk,bh,bu,go_sem]
            refine aV (fun fe => ?_) (fun fe => ?_)
            · skip
              simp only [af,ab,ag,bz,bk,bh,bu,go_sem]
              refine aV (fun dI => ?_) (fun dI => ?_)
              · skip
                simp only [af,ab,ag,bz,bk,bh,bu,go_sem]
                exact hK _ (congrArg bl (by clear hK b9 bz bk bh bu; simp_all [fc, fw]))
              · skip
                simp only [af,ab,ag,bz,bk,bh,bu,go_sem]
                exact hK _ (congrArg bl (by clear hK b9 bz bk bh bu; simp_all [fc, fw]))
            · skip
              simp only [af,ab,ag,bz,bk,bh,bu,go_sem]
              exact hK _ (congrArg bl (by clear hK b9 bz bk bh bu; simp_all [fc, fw]))
          · skip
            simp only [af,ab,ag,bz,bk,bh,bu,go_sem]
            exact hK _ (congrArg bl (by clear hK b9 bz bk bh bu; simp_all [fc, fw]))
        · skip
          simp only [af,ab,ag,bz,bk,bh,bu,go_sem]
          refine aV (fun hH => ?_) (fun hH => ?_)
          · skip
            simp only [af,ab,ag,bz,bk,bh,bu,go_sem]
            refine aV (fun eD => ?_) (fun eD => ?_)
            · skip
              simp only [af,ab,ag,bz,bk,bh,bu,go_sem]
              refine aV (fun fe => ?_) (fun fe => ?_)
              · skip
                simp only [af,ab,ag,bz,bk,bh,bu,go_sem]
                refine aV (fun dI => ?_) (fun dI => ?_)
                · skip
                  simp only [af,ab,ag,bz,bk,bh,bu,go_sem]
                  exact hK _ (congrArg bl (by clear hK b9 bz bk bh bu; simp_all [fc, fw]))
                · skip
                  simp only [af,ab,ag,bz,bk,bh,bu,go_sem]
                  exact hK _ (congrArg bl (by clear hK b9 bz bk bh bu; simp_all [fc, fw]))
              · skip
                simp only [af,ab,ag,bz,bk,bh,bu,go_sem]
                exact hK _ (congrArg bl (by clear hK b9 bz bk bh bu; simp_all [fc, fw]))
            · skip
              simp only [af,ab,ag,bz,bk,bh,bu,go_sem]
              exact hK _ (congrArg bl (by clear hK b9 bz bk bh bu; simp_all [fc, fw]))
          · skip
            simp only [af,ab,ag,bz,bk,bh,bu,go_sem]
            refine aV (fun hH => ?_) (fun hH => ?_)
            · skip
              simp only [af,ab,ag,bz,bk,bh,bu,go_sem]
              refine aV (fun eD => ?_) (fun eD => ?_)
              · skip
                simp only [af,ab,ag,bz,bk,bh,bu,go_sem]
                refine aV (fun fe => ?_) (fun fe => ?_)
                · skip
                  simp only [af,ab,ag,bz,bk,bh,bu,go_sem]
                  refine aV (fun dI => ?_) (fun dI => ?_)
                  · skip
                    simp only [af,ab,ag,bz,bk,bh,bu,go_sem]
                    exact hK _ (congrArg bl (by clear hK b9 bz bk bh bu; simp_all [fc, fw]))
                  · skip
                    simp only [af,ab,ag,bz,bk,bh,bu,go_sem]
                    exact hK _ (congrArg bl (by clear hK b9 bz bk bh bu; simp_all [fc, fw]))
                · skip
                  simp only [af,ab,ag,bz,bk,bh,bu,go_sem]
                  exact hK _ (congrArg bl (by clear hK b9 bz bk bh bu; simp_all [fc, fw]))
              · skip
                simp only [af,ab,ag,bz,bk,bh,bu,go_sem]
                exact hK _ (congrArg bl (by clear hK b9 bz bk bh bu; simp_all [fc, fw]))
            · skip
              simp only [af,ab,ag,bz,bk,bh,bu,go_sem]
              refine aV (fun Rg => ?_) (fun Rg => ?_)
              · skip
                simp only [af,ab,ag,bz,bk,bh,bu,go_sem]
                refine aV (fun DA => ?_) (fun DA => ?_)
                · skip
                  simp only [af,ab,ag,bz,bk,bh,bu,go_sem]
                  refine aV (fun DB => ?_) (fun DB => ?_)
                  · skip
                    simp only [af,ab,ag,bz,bk,bh,bu,go_sem]
                    refine aV (fun yN => ?_) (fun yN => ?_)
                    · skip
                      simp only [af,ab,ag,bz,bk,bh,bu,go_sem]
                      exact hK _ (congrArg bl (by clear hK b9 bz bk bh bu; simp_all [fc, fw]))
                    · skip
                      simp only [af,ab,ag,bz,bk,bh,bu,go_sem]
                      exact hK _ (congrArg bl (by clear hK b9 bz bk bh bu; simp_all [fc, fw]))
                  · skip
                    simp only [af,ab,ag,bz,bk,bh,bu,go_sem]
                    exact hK _ (congrArg bl (by clear hK b9 bz bk bh bu; simp_all [fc, fw]))
                · skip
                  simp only [af,ab,ag,bz,bk,bh,bu,go_sem]
                  exact hK _ (congrArg bl (by clear hK b9 bz bk bh bu; simp_all [fc, fw]))
              · skip
                simp only [af,ab,ag,bz,bk,bh,bu,go_sem]
                refine aV (fun sh => ?_) (fun sh => ?_)
                · skip
                  simp only [af,ab,ag,bz,bk,bh,bu,go_sem]
                  refine aV (fun pG => ?_) (fun pG => ?_)
                  · skip
                    simp only [af,ab,ag,bz,bk,bh,bu,go_sem]
                    refine aV (fun pH => ?_) (fun pH => ?_)
                    · skip
                      simp only [af,ab,ag,bz,bk,bh,bu,go_sem]
                      exact hK _ (congrArg bl (by clear hK b9 bz bk bh bu; simp_all [fc, fw]))
                    · skip
                      simp only [af,ab,ag,bz,bk,bh,bu,go_sem]
                      exact hK _ (congrArg bl (by clear hK b9 bz bk bh bu; simp_all [fc, fw]))
                  · skip
                    simp only [af,ab,ag,bz,bk,bh,bu,go_sem]
                    exact hK _ (congrArg bl (by clear hK b9 bz bk bh bu; simp_all [fc, fw]))
                · skip
                  simp only [af,ab,ag,bz,bk,bh,bu,go_sem]
                  refine aV (fun sh => ?_) (fun sh => ?_)
                  · skip
                    simp only [af,ab,ag,bz,bk,bh,bu,go_sem]
                    refine aV (fun pG => ?_) (fun pG => ?_)
                    · skip
                      simp only [af,ab,ag,bz,bk,bh,bu,go_sem]
                      refine aV (fun pH => ?_) (fun pH => ?_)
                      · skip
                        simp only [af,ab,ag,bz,bk,bh,bu,go_sem]
                        exact hK _ (congrArg bl (by clear hK b9 bz bk bh bu; simp_all [fc, fw]))
                      · skip
                        simp only [af,ab,ag,bz,bk,bh,bu,go_sem]
                        exact hK _ (congrArg bl (by clear hK b9 bz bk bh bu; simp_all [fc, fw]))
                    · skip
                      simp only [af,ab,ag,bz,bk,bh,bu,go_sem]
                      exact hK _ (congrArg bl (by clear hK b9 bz bk bh bu; simp_all [fc, fw]))
                  · skip
                    simp only [af,ab,ag,bz,bk,bh,bu,go_sem]
                    refine aV (fun DC => ?_) (fun DC => ?_)
                    · skip
                      simp only [af,ab,ag,bz,bk,bh,bu,go_sem]
                      refine aV (fun DD => ?_) (fun DD => ?_)
                      · skip
                        simp only [af,ab,ag,bz,bk,bh,bu,go_sem]
                        refine aV (fun DE => ?_) (fun DE => ?_)
                        · skip
                          simp only [af,ab,ag,bz,bk,bh,bu,go_sem]
                          exact hK _ (congrArg bl (by clear hK b9 bz bk bh bu; simp_all [fc, fw]))
                        · skip
                          simp only [af,ab,ag,bz,bk,bh,bu,go_sem]
                          exact hK _ (congrArg bl (by clear hK b9 bz bk bh bu; simp_all [fc, fw]))
                      · skip
                        simp only [af,ab,ag,bz,bk,bh,bu,go_sem]
                        exact hK _ (congrArg bl (by clear hK b9 bz bk bh bu; simp_all [fc, fw]))
                    · skip
                      simp only [af,ab,ag,bz,bk,bh,bu,go_sem]
                      refine aV (fun Rh => ?_) (fun Rh => ?_)
                      · skip
                        simp only [af,ab,ag,bz,bk,bh,bu,go_sem]
                        refine aV (fun DF => ?_) (fun DF => ?_)
                        · skip
                          simp only [af,ab,ag,bz,bk,bh,bu,go_sem]
                          refine aV (fun DG => ?_) (fun DG => ?_)
                          · skip
                            simp only [af,ab,ag,bz,bk,bh,bu,go_sem]
                            exact hK _ (congrArg bl (by clear hK b9 bz bk bh bu; simp_all [fc, fw]))
                          · skip
                            simp only [af,ab,ag,bz,bk,bh,bu,go_sem]
                            exact hK _ (congrArg bl (by clear hK b9 bz bk bh bu; simp_all [fc, fw]))
                        · skip
                          simp only [af,ab,ag,bz,bk,bh,bu,go_sem]
                          exact hK _ (congrArg bl (by clear hK b9 bz bk bh bu; simp_all [fc, fw]))
                      · skip
                        simp only [af,ab,ag,bz,bk,bh,bu,go_sem]
                        refine aV (fun JR => ?_) (fun JR => ?_)
                        · skip
                          simp only [af,ab,ag,bz,bk,bh,bu,go_sem]
                          exact hK _ (congrArg bl (by clear hK b9 bz bk bh bu; simp_all [fc, fw]))
                        · skip
                          simp only [af,ab,ag,bz,bk,bh,bu,go_sem]
                          exact hK _ (congrArg bl (by clear hK b9 bz bk bh bu; simp_all [fc, fw]))
theorem iH (n : Nat) : (32 < (n : Int)) = (32 < n) := by rw [eq_iff_iff]; omega
theorem mz (n : Nat) : (8 < (n : Int)) = (8 < n) := by rw [eq_iff_iff]; omega
theorem Ri (t : Ty) : LD t = if UB t = false then 1 else if 32 < t.aJ.length ∨ 8 < t.args.length then 7
 else if (t.kind = 9 ∧ AL t.name = false) ∨ (t.kind = 10 ∧ (yw t.mod = false ∨ lg t.name = false)) then 4
 else if (t.aJ.any fun x => !bM x.name) = true then 4 else ix (t.aJ.map Fd.name) := rfl
theorem BC (hG : aA.g = some 1) (t : Ty) (hl : t.aJ.length ≤ 1048576) (hm : t.mod.size ≤ 1048576) : ∃ r_, (fun w => w = num (LD t)) r_ ∧ aT Tryz.prog 190 [bg t] r_ := by
 refine gG tt_ok [] 50 [.tmp 2] (fn := Tryz.f190) Tryz.func190 rfl Tryz.call190 ⟨rfl, rfl, by simp⟩ fun K hK => ?_
 have hS := Gn t hl
 rw [ay] at hS
 simp only [aj] at hS
 obtain ⟨sb, XZ⟩ : ∃ b, b = UB t := ⟨_, rfl⟩
 obtain ⟨nb, rv⟩ : ∃ b, b = t.aJ.any (fun x => !bM x.name) := ⟨_, rfl⟩
 have ov := Ri t
 have hA := BB 239 (fun x => !bM x.name) t.aJ (fun x _ => Gk hG x) hl
 have hI := JQ 241 t.aJ (fun x _ => Gm x) hl
 rw [← XZ] at ov hS
 rw [← rv] at ov hA
 clear XZ rv
 simp only [ay,aj]
 simp only [af,ab,go_sem]
 refine cF (hS) ?_
 rintro _ rfl
 simp only [af,ab,go_sem]
 refine aV (fun NS => ?_) (fun NS => ?_)
 ·simp only [af,ab,go_sem]
  exact hK _ (congrArg num (by clear hK hA hI hS; rw [ov]; clear ov; simp_all [iH, mz] <;> (intro h; omega)))
 ·simp only [af,ab,go_sem]
  refine aV (fun oX => ?_) (fun oX => ?_)
  ·simp only [af,ab,go_sem]
   exact hK _ (congrArg num (by clear hK hA hI hS; rw [ov]; clear ov; simp_all [iH, mz] <;> (intro h; omega)))
  ·simp only [af,ab,go_sem]
   refine aV (fun yr => ?_) (fun yr => ?_)
   ·simp only [af,ab,go_sem]
    exact hK _ (congrArg num (by clear hK hA hI hS; rw [ov]; clear ov; simp_all [iH, mz] <;> (intro h; omega)))
   ·simp only [af,ab,go_sem]
    refine aV (fun Bt => ?_) (fun Bt => ?_)
    ·simp only [af,ab,go_sem]
     refine cF (AM _) ?_
     rintro _ rfl
     simp only [af,ab,go_sem]
     refine aV (fun nQ => ?_) (fun nQ => ?_)
     ·simp only [af,ab,go_sem]
      exact hK _ (congrArg num (by clear hK hA hI hS; rw [ov]; clear ov; simp_all [iH, mz] <;> (intro h; omega)))
     ·simp only [af,ab,go_sem]
      refine aV (fun BD => ?_) (fun BD => ?_)
      ·simp only [af,ab,go_sem]
       refine cF (oi hG t.mod hm) ?_
       rintro _ rfl
       simp only [af,ab,go_sem]
       refine aV (fun JS => ?_) (fun JS => ?_)
       ·simp only [af,ab,go_sem]
        exact hK _ (congrArg num (by clear hK hA hI hS; rw [ov]; clear ov; simp_all [iH, mz] <;> (intro h; omega)))
       ·simp only [af,ab,go_sem]
        refine cF (gr _) ?_
        rintro _ rfl
        simp only [af,ab,go_sem]
        refine aV (fun nQ => ?_) (fun nQ => ?_)
        ·simp only [af,ab,go_sem]
         exact hK _ (congrArg num (by clear hK hA hI hS; rw [ov]; clear ov; simp_all [iH, mz] <;> (intro h; omega)))
        ·simp only [af,ab,go_sem]
         refine cF (hA) ?_
         rintro _ rfl
         simp only [af,ab,go_sem]
         refine aV (fun DH => ?_) (fun DH => ?_)
         ·simp only [af,ab,go_sem]
          exact hK _ (congrArg num (by clear hK hA hI hS; rw [ov]; clear ov; simp_all [iH, mz] <;> (intro h; omega)))
         ·simp only [af,ab,go_sem]
          refine cF (hI) ?_
          rintro _ rfl
          simp only [af,ab,go_sem]
          exact hK _ (congrArg num (by clear hK hA hI hS; rw [ov]; clear ov; simp_all [iH, mz] <;> (intro h; omega)))
      ·simp only [af,ab,go_sem]
       refine cF (hA) ?_
       rintro _ rfl
       simp only [af,ab,go_sem]
       refine aV (fun DH => ?_) (fun DH => ?_)
       ·simp only [af,ab,go_sem]
        exact hK _ (congrArg num (by clear hK hA hI hS; rw [ov]; clear ov; simp_all [iH, mz] <;> (intro h; omega)))
       ·simp only [af,ab,go_sem]
        refine cF (hI) ?_
        rintro _ rfl
        simp only [af,ab,go_sem]
        exact hK _ (congrArg num (by clear hK hA hI hS; rw [ov]; clear ov; simp_all [iH, mz] <;> (intro h; omega)))
    ·simp only [af,ab,go_sem]
     refine aV (fun BD => ?_) (fun BD => ?_)
     ·simp only [af,ab,go_sem]
      refine cF (oi hG t.mod hm) ?_
      rintro _ rfl
      simp only [af,ab,go_sem]
      refine aV (fun JS => ?_) (fun JS => ?_)
      ·simp only [af,ab,go_sem]
       exact hK _ (congrArg num (by clear hK hA hI hS; rw [ov]; clear ov; simp_all [iH, mz] <;> (intro h; omega)))
      ·simp only [af,ab,go_sem]
       refine cF (gr _) ?_
       rintro _ rfl
       simp only [af,ab,go_sem]
       refine aV (fun nQ => ?_) (fun nQ => ?_)
       ·simp only [af,ab,go_sem]
        exact hK _ (congrArg num (by clear hK hA hI hS; rw [ov]; clear ov; simp_all [iH, mz] <;> (intro h; omega)))
       ·simp only [af,ab,go_sem]
        refine cF (hA) ?_
        rintro _ rfl
        simp only [af,ab,go_sem]
        refine aV (fun DH => ?_) (fun DH => ?_)
        ·simp only [af,ab,go_sem]
         exact hK _ (congrArg num (by clear hK hA hI hS; rw [ov]; clear ov; simp_all [iH, mz] <;> (intro h; omega)))
        ·simp only [af,ab,go_sem]
         refine cF (hI) ?_
         rintro _ rfl
         simp only [af,ab,go_sem]
         exact hK _ (congrArg num (by clear hK hA hI hS; rw [ov]; clear ov; simp_all [iH, mz] <;> (intro h; omega)))
     ·simp only [af,ab,go_sem]
      refine cF (hA) ?_
      rintro _ rfl
      simp only [af,ab,go_sem]
      refine aV (fun DH => ?_) (fun DH => ?_)
      ·simp only [af,ab,go_sem]
       exact hK _ (congrArg num (by clear hK hA hI hS; rw [ov]; clear ov; simp_all [iH, mz] <;> (intro h; omega)))
      ·simp only [af,ab,go_sem]
       refine cF (hI) ?_
       rintro _ rfl
       simp only [af,ab,go_sem]
       exact hK _ (congrArg num (by clear hK hA hI hS; rw [ov]; clear ov; simp_all [iH, mz] <;> (intro h; omega)))
end Go.Proofs.YtnboooapeopjoaaGreatDoor
end

section
namespace Go.Proofs.YtnboooapeopjoaaGreatDoor
open Go.Eng
open Nat renaming reduceAdd → zA, reduceLT → zB, reduceLeDiff → zC, reduceMul → zD, reduceEqDiff → zE, reduceSub → zF
variable [aA]
set_option maxHeartbeats 4000000
set_option maxRecDepth 100000
theorem Nj (l : List Lb) : oF l ≤ l.length := List.length_filter_le _ _
theorem Gp {l : List Lb} {i : Nat} {x : Lb} (h : l[i]? = some x) (ho : x.opt = true) : oF (l.take (i + 1)) = oF (l.take i) + 1 := by
 unfold oF; rw [List.take_add_one, h]; simp [ho]
theorem Gq {l : List Lb} {i : Nat} {x : Lb} (h : l[i]? = some x) (ho : x.opt = false) : oF (l.take (i + 1)) = oF (l.take i) := by
 unfold oF; rw [List.take_add_one, h]; simp [ho]
theorem e4 (t : Ty) : ∃ r_, (fun w => w = bl (ft t)) r_ ∧ aT Tryz.prog 182 [bg t] r_ := by
 refine gG tt_ok [] 28 [.tmp 2] (fn := Tryz.f182) Tryz.func182 rfl Tryz.call182 ⟨rfl, rfl, by simp⟩ fun K hK => ?_
 simp only [ay,aj]
 simp only [af,ab,ag,go_sem]
 refine aV (fun dM => ?_) (fun dM => ?_)
 ·simp only [af,ab,ag,go_sem]
  refine aV (fun oT => ?_) (fun oT => ?_)
  ·simp only [af,ab,ag,go_sem]
   refine aV (fun ml => ?_) (fun ml => ?_)
   ·simp only [af,ab,ag,go_sem]
    refine aV (fun vK => ?_) (fun vK => ?_)
    ·simp only [af,ab,ag,go_sem]
     exact hK _ (congrArg bl (by clear hK; unfold ft fg; simp_all))
    ·simp only [af,ab,ag,go_sem]
     exact hK _ (congrArg bl (by clear hK; unfold ft fg; simp_all))
   ·simp only [af,ab,ag,go_sem]
    exact hK _ (congrArg bl (by clear hK; unfold ft fg; simp_all))
  ·simp only [af,ab,ag,go_sem]
   exact hK _ (congrArg bl (by clear hK; unfold ft fg; simp_all))
 ·simp only [af,ab,ag,go_sem]
  exact hK _ (congrArg bl (by clear hK; unfold ft fg; simp_all))
theorem BE (s : ByteArray) : ∃ r_, (fun w => w = num (UG s)) r_ ∧ aT Tryz.prog 303 [str s] r_ := by
 refine gG tt_ok [30000] 17 [.tmp 2] (fn := Tryz.f303) Tryz.func303 rfl Tryz.call303 ⟨rfl, rfl, by simp⟩ fun K hK => ?_
 simp only [ag,go_sem]
 refine sq tt_ok [30000] ?_
 simp only [ag,go_sem]
 refine fp tt_ok [30000] [4] 0 [0,2,3] (fun vs => vs = [bl (iP s qU)]) (fun Z1 cJ => ?_) ?_
 ·simp only [ag,go_sem]
  refine aV (fun BF => ?_) (fun BF => ?_)
  ·simp only [ag,go_sem]
   refine cJ _ (ct (by omega) (by simp only [ag,go_sem]) ?_)
   simp only [dr,lk,reduceIte,zE]
   exact congrArg (fun b => [bl b]) (by simp_all [qU, iP])
  ·simp only [ag,go_sem]
   refine aV (fun BF => ?_) (fun BF => ?_)
   ·simp only [ag,go_sem]
    refine cJ _ (ct (by omega) (by simp only [ag,go_sem]) ?_)
    simp only [dr,lk,reduceIte,zE]
    exact congrArg (fun b => [bl b]) (by simp_all [qU, iP])
   ·simp only [ag,go_sem]
    refine aV (fun BF => ?_) (fun BF => ?_)
    ·simp only [ag,go_sem]
     refine cJ _ (ct (by omega) (by simp only [ag,go_sem]) ?_)
     simp only [dr,lk,reduceIte,zE]
     exact congrArg (fun b => [bl b]) (by simp_all [qU, iP])
    ·simp only [ag,go_sem]
     refine aV (fun BF => ?_) (fun BF => ?_)
     ·simp only [ag,go_sem]
      refine cJ _ (ct (by omega) (by simp only [ag,go_sem]) ?_)
      simp only [dr,lk,reduceIte,zE]
      exact congrArg (fun b => [bl b]) (by simp_all [qU, iP])
     ·simp only [ag,go_sem]
      refine aV (fun BF => ?_) (fun BF => ?_)
      ·simp only [ag,go_sem]
       refine cJ _ (ct (by omega) (by simp only [ag,go_sem]) ?_)
       simp only [dr,lk,reduceIte,zE]
       exact congrArg (fun b => [bl b]) (by simp_all [qU, iP])
      ·simp only [ag,go_sem]
       refine aV (fun BF => ?_) (fun BF => ?_)
       ·simp only [ag,go_sem]
        refine cJ _ (ct (by omega) (by simp only [ag,go_sem]) ?_)
        simp only [dr,lk,reduceIte,zE]
        exact congrArg (fun b => [bl b]) (by simp_all [qU, iP])
       ·simp only [ag,go_sem]
        refine aV (fun BF => ?_) (fun BF => ?_)
        ·simp only [ag,go_sem]
         refine cJ _ (ct (by omega) (by simp only [ag,go_sem]) ?_)
         simp only [dr,lk,reduceIte,zE]
         exact congrArg (fun b => [bl b]) (by simp_all [qU, iP])
        ·simp only [ag,go_sem]
         refine aV (fun BF => ?_) (fun BF => ?_)
         ·simp only [ag,go_sem]
          refine cJ _ (ct (by omega) (by simp only [ag,go_sem]) ?_)
          simp only [dr,lk,reduceIte,zE]
          exact congrArg (fun b => [bl b]) (by simp_all [qU, iP])
         ·simp only [ag,go_sem]
          refine cJ _ (ct (by omega) (by simp only [ag,go_sem]) ?_)
          simp only [dr,lk,reduceIte,zE]
          exact congrArg (fun b => [bl b]) (by simp_all [qU, iP])
 ·intro vs hJ
  obtain rfl := hJ
  simp only [ag,go_sem]
  refine aV (fun BF => ?_) (fun BF => ?_)
  ·simp only [ag,go_sem]
   exact hK _ (congrArg num (by clear hK; unfold UG; simp_all [qU, Dj, iP]))
  ·simp only [ag,go_sem]
   refine fp tt_ok [30000] [14] 0 [0,2,3,4,5,6,7,8,9,10,11,12,13] (fun vs => vs = [bl (iP s Dj)]) (fun Z2 kT => ?_) ?_
   ·simp only [ag,go_sem]
    refine aV (fun po => ?_) (fun po => ?_)
    ·simp only [ag,go_sem]
     refine kT _ (ct (by omega) (by simp only [ag,go_sem]) ?_)
     simp only [dr,lk,reduceIte,zE]
     exact congrArg (fun b => [bl b]) (by simp_all [Dj, iP])
    ·simp only [ag,go_sem]
     refine kT _ (ct (by omega) (by simp only [ag,go_sem]) ?_)
     simp only [dr,lk,reduceIte,zE]
     exact congrArg (fun b => [bl b]) (by simp_all [Dj, iP])
   ·intro vs hJ
    obtain rfl := hJ
    simp only [ag,go_sem]
    refine aV (fun po => ?_) (fun po => ?_)
    ·simp only [ag,go_sem]
     exact hK _ (congrArg num (by clear hK; unfold UG; simp_all [qU, Dj, iP]))
    ·simp only [ag,go_sem]
     exact hK _ (congrArg num (by clear hK; unfold UG; simp_all [qU, Dj, iP]))
theorem Nk (x : Ex) (fl : ByteArray) (ty kd : Int) (lb : Bool) (hl : x.labels.length ≤ 1048576) (Yh : -1 ≤ kd ∧ kd ≤ 100) : ∃ r_, (fun w => w = num (vi x kd)) r_ ∧ aT Tryz.prog 275 [bT x, .agg [str fl, num ty, bl lb, num kd]] r_ := by
 refine gG tt_ok [] 42 [.tmp 4] (fn := Tryz.f275) Tryz.func275 rfl Tryz.call275 ⟨rfl, rfl, by simp⟩ fun K hK => ?_
 simp only [aI,aq]
 simp only [List.length_map,go_sem]
 refine aV (fun UI => ?_) (fun UI => ?_)
 ·simp only [List.length_map,go_sem]
  refine cF (BE _) ?_
  rintro _ rfl
  simp only [List.length_map,go_sem]
  first | exact hK _ (congrArg num ba) | exact hK _ (congrArg num (by clear hK; unfold vi; simp_all <;> omega))
 ·simp only [List.length_map,go_sem]
  refine aV (fun aax => ?_) (fun aax => ?_)
  ·simp only [List.length_map,go_sem]
   refine eA tt_ok [] [22,5] 2 [2,3,4,8,15,20,21] (fun vs => ((x.labels.length : Int) - Go.Eng.intOf (vs.headD .undef)).toNat) (fun vs => ∃ i : Nat, vs = [num i, num ((1 + oF (x.labels.take i) : Nat) : Int)] ∧ i ≤ x.labels.length) (by omega) (by simp only [List.length_map,go_sem]) (⟨0, rfl, Nat.zero_le _⟩) fun vs hI Z1 cJ => ?_
   obtain ⟨i, rfl, hi⟩ := hI
   simp only [List.length_map,go_sem]
   refine aV (fun Rj => ?_) (fun Rj => ?_)
   ·have aZ : i < x.labels.length := by simpa using Rj
    have hw := aU i (by omega)
    obtain ⟨l, hx⟩ : ∃ l, x.labels[i]? = some l := ⟨_, List.getElem?_eq_getElem aZ⟩
    have jD := Nj (x.labels.take i)
    rw [List.length_take] at jD
    have gz : IntKind.i64.wrap (((1 + oF (x.labels.take i) : Nat) : Int) + 1) = ((1 + oF (x.labels.take i) + 1 : Nat) : Int) := aU _ (by omega)
    simp only [hw,gz,List.getElem?_map,hx,aX,aj,List.cons_append,List.nil_append,List.length_map,go_sem]
    refine aV (fun my => ?_) (fun my => ?_)
    ·have EH : ((1 + oF (x.labels.take (i + 1)) : Nat) : Int) = ((1 + oF (x.labels.take i) + 1 : Nat) : Int) := by rw [Gp hx my]; omega
     simp only [hw,gz,List.getElem?_map,hx,aX,aj,List.cons_append,List.nil_append,List.length_map,go_sem]
     refine cJ _ (kB (by omega) (by simp only [hw,gz,List.getElem?_map,hx,aX,aj,List.cons_append,List.nil_append,List.length_map,go_sem]) ?_ ?_) <;> simp only [dr,lk,reduceIte,zE]
     ·exact ⟨i + 1, by rw [EH], aZ⟩
     ·simp only [Go.Eng.intOf,List.headD_cons]; omega
    ·have EH : ((1 + oF (x.labels.take (i + 1)) : Nat) : Int) = ((1 + oF (x.labels.take i) : Nat) : Int) := by rw [Gq hx my]
     simp only [hw,gz,List.getElem?_map,hx,aX,aj,List.cons_append,List.nil_append,List.length_map,go_sem]
     refine cJ _ (kB (by omega) (by simp only [hw,gz,List.getElem?_map,hx,aX,aj,List.cons_append,List.nil_append,List.length_map,go_sem]) ?_ ?_) <;> simp only [dr,lk,reduceIte,zE]
     ·exact ⟨i + 1, by rw [EH], aZ⟩
     ·simp only [Go.Eng.intOf,List.headD_cons]; omega
   ·have gv : ¬ i < x.labels.length := by simpa using Rj
    have hlen : x.labels.take i = x.labels := List.take_of_length_le (by omega)
    have ba : ((1 + oF (x.labels.take i) : Nat) : Int) = vi x kd := by rw [hlen]; unfold vi; simp_all
    simp only [List.length_map,go_sem]
    first | exact hK _ (congrArg num ba) | exact hK _ (congrArg num (by clear hK; unfold vi; simp_all <;> omega))
  ·simp only [List.length_map,go_sem]
   refine aV (fun QL => ?_) (fun QL => ?_)
   ·simp only [List.length_map,go_sem]
    first | exact hK _ (congrArg num ba) | exact hK _ (congrArg num (by clear hK; unfold vi; simp_all <;> omega))
   ·have hwk : IntKind.i64.wrap (kd + (x.labels.length : Int)) = kd + x.labels.length := IntWalk.i64_in _ (by omega)
    simp only [hwk,List.length_map,go_sem]
    first | exact hK _ (congrArg num ba) | exact hK _ (congrArg num (by clear hK; unfold vi; simp_all <;> omega))
theorem kq (hG : aA.g = some 1) (m : List aC) (hm : m.all (az m.length) = true) (k : Nat) (fl : ByteArray) (ty kd : Int) (lb : Bool) (hk : m[k]? = some (.box [str fl, num ty, bl lb, num kd])) (s : ByteArray) (hf : fl.size ≤ 1048576) : ∃ r_, (fun w => w = bl (sd fl s)) r_ ∧ aF Tryz.prog 274 [str s, .ptr k 0] (m) r_ (m) := by
 refine wX tt_ok [] 8 [.tmp 3] (fn := Tryz.f274) Tryz.func274 rfl Tryz.call274 ⟨rfl, rfl, by simp⟩ fun K hK => ?_
 simp only [List.take_length,hm,hk,decide_true,hk,go_sem]
 refine cF (⟨_, rfl, nG hG _ _ (by omega)⟩) ?_
 rintro _ rfl
 simp only [List.take_length,hm,hk,decide_true,hk,go_sem]
 exact hK _ _ ⟨rfl, rfl⟩
theorem yO (hG : aA.g = some 1) (m : List aC) (hm : m.all (az m.length) = true) (k : Nat) (fl : ByteArray) (ty kd : Int) (lb : Bool) (hk : m[k]? = some (.box [str fl, num ty, bl lb, num kd])) (s : ByteArray) (hf : fl.size ≤ 1048576) : ∃ r_, (fun w => w = bl (sd fl s)) r_ ∧ aF Tryz.prog 278 [str s, .ptr k 0] (m) r_ (m) := by
 refine wX tt_ok [] 8 [.tmp 3] (fn := Tryz.f278) Tryz.func278 rfl Tryz.call278 ⟨rfl, rfl, by simp⟩ fun K hK => ?_
 simp only [List.take_length,hm,hk,decide_true,hk,go_sem]
 refine cF (⟨_, rfl, nG hG _ _ (by omega)⟩) ?_
 rintro _ rfl
 simp only [List.take_length,hm,hk,decide_true,hk,go_sem]
 exact hK _ _ ⟨rfl, rfl⟩
theorem JT (hG : aA.g = some 1) (b0 : aC) (fU : ∀ n, 3 ≤ n → az n b0 = true) (fl : ByteArray) (ty kd : Int) (lb : Bool) (hf : fl.size ≤ 1048576) (l : Lb) : ∃ r_, (fun w => w = bl (kn fl l)) r_ ∧ aF Tryz.prog 277 [aX l, .ptr 2 0] ([b0, .box [str fl, num ty, bl lb, num kd], .box [.bp (.func 274) [] [.ptr 1 0]]]) r_ ([b0, .box [str fl, num ty, bl lb, num kd], .box [.bp (.func 274) [] [.ptr 1 0]]]) := by
 refine wX tt_ok [] 32 [.tmp 3] (fn := Tryz.f277) Tryz.func277 rfl Tryz.call277 ⟨rfl, rfl, by simp⟩ fun K hK => ?_
 have dL := fU 3 (Nat.le_refl _)
 simp only [ck,aX,aj]
 simp only [↓dL,ag,go_sem]
 refine aV (fun dM => ?_) (fun dM => ?_)
 ·simp only [↓dL,ag,go_sem]
  refine cS (kq hG _ (by simp only [List.all_cons,List.all_nil,nB,nC,kP,nD,kQ,kR,au,aD,List.length_cons,List.length_nil,zA,zB,decide_true,Bool.and_self,Bool.and_true,fU,zC]) 1 fl ty kd lb rfl _ hf) ?_
  rintro _ rfl
  simp only [↓dL,ag,go_sem]
  refine aV (fun oT => ?_) (fun oT => ?_)
  ·simp only [↓dL,ag,go_sem]
   exact hK _ _ ⟨congrArg bl (by clear hK; unfold kn fg; simp_all), rfl⟩
  ·simp only [↓dL,ag,go_sem]
   refine cF (by have h := e4 l.ty; rw [ay] at h; exact h) ?_
   rintro _ rfl
   simp only [↓dL,ag,go_sem]
   refine aV (fun ml => ?_) (fun ml => ?_)
   ·simp only [↓dL,ag,go_sem]
    refine cS (kq hG _ (by simp only [List.all_cons,List.all_nil,nB,nC,kP,nD,kQ,kR,au,aD,List.length_cons,List.length_nil,zA,zB,decide_true,Bool.and_self,Bool.and_true,fU,zC]) 1 fl ty kd lb rfl _ hf) ?_
    rintro _ rfl
    simp only [↓dL,ag,go_sem]
    refine aV (fun vK => ?_) (fun vK => ?_)
    ·simp only [↓dL,ag,go_sem]
     exact hK _ _ ⟨congrArg bl (by clear hK; unfold kn fg; simp_all), rfl⟩
    ·simp only [↓dL,ag,go_sem]
     refine aV (fun pI => ?_) (fun pI => ?_)
     ·simp only [↓dL,ag,go_sem]
      refine cS (kq hG _ (by simp only [List.all_cons,List.all_nil,nB,nC,kP,nD,kQ,kR,au,aD,List.length_cons,List.length_nil,zA,zB,decide_true,Bool.and_self,Bool.and_true,fU,zC]) 1 fl ty kd lb rfl _ hf) ?_
      rintro _ rfl
      simp only [↓dL,ag,go_sem]
      exact hK _ _ ⟨congrArg bl (by clear hK; unfold kn fg; simp_all), rfl⟩
     ·simp only [↓dL,ag,go_sem]
      exact hK _ _ ⟨congrArg bl (by clear hK; unfold kn fg; simp_all), rfl⟩
   ·simp only [↓dL,ag,go_sem]
    refine aV (fun pI => ?_) (fun pI => ?_)
    ·simp only [↓dL,ag,go_sem]
     refine cS (kq hG _ (by simp only [List.all_cons,List.all_nil,nB,nC,kP,nD,kQ,kR,au,aD,List.length_cons,List.length_nil,zA,zB,decide_true,Bool.and_self,Bool.and_true,fU,zC]) 1 fl ty kd lb rfl _ hf) ?_
     rintro _ rfl
     simp only [↓dL,ag,go_sem]
     exact hK _ _ ⟨congrArg bl (by clear hK; unfold kn fg; simp_all), rfl⟩
    ·simp only [↓dL,ag,go_sem]
     exact hK _ _ ⟨congrArg bl (by clear hK; unfold kn fg; simp_all), rfl⟩
 ·simp only [↓dL,ag,go_sem]
  refine cF (by have h := e4 l.ty; rw [ay] at h; exact h) ?_
  rintro _ rfl
  simp only [↓dL,ag,go_sem]
  refine aV (fun ml => ?_) (fun ml => ?_)
  ·simp only [↓dL,ag,go_sem]
   refine cS (kq hG _ (by simp only [List.all_cons,List.all_nil,nB,nC,kP,nD,kQ,kR,au,aD,List.length_cons,List.length_nil,zA,zB,decide_true,Bool.and_self,Bool.and_true,fU,zC]) 1 fl ty kd lb rfl _ hf) ?_
   rintro _ rfl
   simp only [↓dL,ag,go_sem]
   refine aV (fun vK => ?_) (fun vK => ?_)
   ·simp only [↓dL,ag,go_sem]
    exact hK _ _ ⟨congrArg bl (by clear hK; unfold kn fg; simp_all), rfl⟩
   ·simp only [↓dL,ag,go_sem]
    refine aV (fun pI => ?_) (fun pI => ?_)
    ·simp only [↓dL,ag,go_sem]
     refine cS (kq hG _ (by simp only [List.all_cons,List.all_nil,nB,nC,kP,nD,kQ,kR,au,aD,List.length_cons,List.length_nil,zA,zB,decide_true,Bool.and_self,Bool.and_true,fU,zC]) 1 fl ty kd lb rfl _ hf) ?_
     rintro _ rfl
     simp only [↓dL,ag,go_sem]
     exact hK _ _ ⟨congrArg bl (by clear hK; unfold kn fg; simp_all), rfl⟩
    ·simp only [↓dL,ag,go_sem]
     exact hK _ _ ⟨congrArg bl (by clear hK; unfold kn fg; simp_all), rfl⟩
  ·simp only [↓dL,ag,go_sem]
   refine aV (fun pI => ?_) (fun pI => ?_)
   ·simp only [↓dL,ag,go_sem]
    refine cS (kq hG _ (by simp only [List.all_cons,List.all_nil,nB,nC,kP,nD,kQ,kR,au,aD,List.length_cons,List.length_nil,zA,zB,decide_true,Bool.and_self,Bool.and_true,fU,zC]) 1 fl ty kd lb rfl _ hf) ?_
    rintro _ rfl
    simp only [↓dL,ag,go_sem]
    exact hK _ _ ⟨congrArg bl (by clear hK; unfold kn fg; simp_all), rfl⟩
   ·simp only [↓dL,ag,go_sem]
    exact hK _ _ ⟨congrArg bl (by clear hK; unfold kn fg; simp_all), rfl⟩
theorem rh (hG : aA.g = some 1) (b0 : aC) (fU : ∀ n, 3 ≤ n → az n b0 = true) (fl : ByteArray) (ty kd : Int) (lb : Bool) (hf : fl.size ≤ 1048576) (l : Lb) : ∃ r_, (fun w => w = bl (s6 fl l)) r_ ∧ aF Tryz.prog 279 [aX l, .ptr 2 0] ([b0, .box [str fl, num ty, bl lb, num kd], .box [.bp (.func 278) [] [.ptr 1 0]]]) r_ ([b0, .box [str fl, num ty, bl lb, num kd], .box [.bp (.func 278) [] [.ptr 1 0]]]) := by
 refine wX tt_ok [] 18 [.tmp 3] (fn := Tryz.f279) Tryz.func279 rfl Tryz.call279 ⟨rfl, rfl, by simp⟩ fun K hK => ?_
 have dL := fU 3 (Nat.le_refl _)
 simp only [ck,aX,aj]
 simp only [↓dL,go_sem]
 refine cF (eR hG _) ?_
 rintro _ rfl
 simp only [↓dL,go_sem]
 refine aV (fun JU => ?_) (fun JU => ?_)
 ·simp only [↓dL,go_sem]
  exact hK _ _ ⟨congrArg bl (by clear hK; unfold s6; simp_all), rfl⟩
 ·simp only [↓dL,go_sem]
  refine cS (yO hG _ (by simp only [List.all_cons,List.all_nil,nB,nC,kP,nD,kQ,kR,au,aD,List.length_cons,List.length_nil,zA,zB,decide_true,Bool.and_self,Bool.and_true,fU,zC]) 1 fl ty kd lb rfl _ hf) ?_
  rintro _ rfl
  simp only [↓dL,go_sem]
  refine aV (fun oS => ?_) (fun oS => ?_)
  ·simp only [↓dL,go_sem]
   refine cF (eR hG _) ?_
   rintro _ rfl
   simp only [↓dL,go_sem]
   exact hK _ _ ⟨congrArg bl (by clear hK; unfold s6; simp_all), rfl⟩
  ·simp only [↓dL,go_sem]
   exact hK _ _ ⟨congrArg bl (by clear hK; unfold s6; simp_all), rfl⟩
theorem JV (c : Nat) (b0 : aC) (fU : ∀ n, 3 ≤ n → az n b0 = true) (fl : ByteArray) (ty kd : Int) (lb : Bool) (hf : fl.size ≤ 1048576) (g : FuncId) (q : Lb → Bool) (l : List Lb) (hg : ∀ x ∈ l, ∃ r, (fun v => v = bl (q x)) r ∧ aF Tryz.prog g [aX x, .ptr 2 0] ([b0, .box [str fl, num ty, bl lb, num kd], .box [.bp (.func c) [] [.ptr 1 0]]]) r ([b0, .box [str fl, num ty, bl lb, num kd], .box [.bp (.func c) [] [.ptr 1 0]]])) (hl : l.length ≤ 1048576) : ∃ r_, (fun w => ∃ k : Int, w = num k ∧ decide (0 ≤ k) = l.any q) r_ ∧ aF Tryz.prog 304 [.slice (l.map aX), .bp (.func g) [] [.ptr 2 0]] ([b0, .box [str fl, num ty, bl lb, num kd], .box [.bp (.func c) [] [.ptr 1 0]]]) r_ ([b0, .box [str fl, num ty, bl lb, num kd], .box [.bp (.func c) [] [.ptr 1 0]]]) := by
 refine wX tt_ok [] 19 [.tmp 4] (fn := Tryz.f304) Tryz.func304 rfl Tryz.call304 ⟨rfl, rfl, by simp⟩ fun K hK => ?_
 have dL := fU 3 (Nat.le_refl _)
 simp only [↓dL,List.length_map,go_sem]
 refine eA tt_ok [] [8] 3 [0,1,7] (fun vs => ((l.length : Int) - Go.Eng.intOf (vs.headD .undef)).toNat) (fun vs => ∃ i : Nat, vs = [num i] ∧ i ≤ l.length ∧ ∀ j < i, ∀ x, l[j]? = some x → q x = false) (by omega) (by simp only [↓dL,List.length_map,go_sem]) (⟨0, rfl, Nat.zero_le _, fun j hj => absurd hj (Nat.not_lt_zero j)⟩) fun vs hI Z1 cJ => ?_
 obtain ⟨i, rfl, hi, cK⟩ := hI
 simp only [↓dL,List.length_map,go_sem]
 refine aV (fun jh => ?_) (fun jh => ?_)
 ·have aZ : i < l.length := by simpa using jh
  have hw := aU i (by omega)
  obtain ⟨x, hx⟩ : ∃ x, l[i]? = some x := ⟨_, List.getElem?_eq_getElem aZ⟩
  simp only [↓dL,hw,List.getElem?_map,hx,aX,aj,List.cons_append,List.nil_append,List.length_map,go_sem]
  refine cS (by have h := hg x (List.mem_of_getElem? hx); simp only [ck,aX,aj] at h; exact h) ?_
  rintro _ rfl
  simp only [↓dL,hw,List.getElem?_map,hx,aX,aj,List.cons_append,List.nil_append,List.length_map,go_sem]
  refine aV (fun dG => ?_) (fun dG => ?_)
  ·have ba : decide (0 ≤ (i : Int)) = l.any q := by rw [r6 hx dG]; exact decide_eq_true (Int.natCast_nonneg i)
   simp only [↓dL,hw,List.getElem?_map,hx,aX,aj,List.cons_append,List.nil_append,List.length_map,go_sem]
   exact hK _ _ ⟨⟨_, rfl, ba⟩, rfl⟩
  ·simp only [↓dL,hw,List.getElem?_map,hx,aX,aj,List.cons_append,List.nil_append,List.length_map,go_sem]
   refine cJ _ (kB (by omega) (by simp only [↓dL,hw,List.getElem?_map,hx,aX,aj,List.cons_append,List.nil_append,List.length_map,go_sem]) ?_ ?_) <;> simp only [dr,lk,reduceIte,zE]
   ·refine ⟨i + 1, rfl, aZ, fun j hj => ?_⟩
    rcases Nat.lt_or_ge j i with h | h
    ·exact cK j h
    ·obtain rfl : j = i := by omega
     intro y hy
     rw [hx] at hy; cases hy; exact dG
   ·simp only [Go.Eng.intOf,List.headD_cons]; omega
 ·have gv : ¬ i < l.length := by simpa using jh
  have ba : decide (0 ≤ (-1 : Int)) = l.any q := (any_none fun j hj => cK j (by omega)).symm ▸ rfl
  simp only [↓dL,List.length_map,go_sem]
  exact hK _ _ ⟨⟨_, rfl, ba⟩, rfl⟩
theorem vL (c : Nat) (b0 : aC) (fU : ∀ n, 3 ≤ n → az n b0 = true) (fl : ByteArray) (ty kd : Int) (lb : Bool) (hf : fl.size ≤ 1048576) (g : FuncId) (q : Lb → Bool) (l : List Lb) (hg : ∀ x ∈ l, ∃ r, (fun v => v = bl (q x)) r ∧ aF Tryz.prog g [aX x, .ptr 2 0] ([b0, .box [str fl, num ty, bl lb, num kd], .box [.bp (.func c) [] [.ptr 1 0]]]) r ([b0, .box [str fl, num ty, bl lb, num kd], .box [.bp (.func c) [] [.ptr 1 0]]])) (hl : l.length ≤ 1048576) : ∃ r_, (fun w => w = bl (l.any q)) r_ ∧ aF Tryz.prog 276 [.slice (l.map aX), .bp (.func g) [] [.ptr 2 0]] ([b0, .box [str fl, num ty, bl lb, num kd], .box [.bp (.func c) [] [.ptr 1 0]]]) r_ ([b0, .box [str fl, num ty, bl lb, num kd], .box [.bp (.func c) [] [.ptr 1 0]]]) := by
 refine wX tt_ok [] 9 [.tmp 4] (fn := Tryz.f276) Tryz.func276 rfl Tryz.call276 ⟨rfl, rfl, by simp⟩ fun K hK => ?_
 have dL := fU 3 (Nat.le_refl _)
 simp only [↓dL,go_sem]
 refine cS (JV c b0 fU fl ty kd lb hf g q l hg hl) ?_
 rintro _ ⟨k, rfl, hk⟩
 simp only [↓dL,go_sem]
 exact hK _ _ ⟨congrArg bl hk, rfl⟩
theorem ri (x : Ex) (fl : ByteArray) (ty : Int) (lb : Bool) (kd : Int) : nP x fl ty lb kd = (!(q1 x fl || q2 x fl || q3 x fl || q4 x fl) && !(q5 x || q6 x kd) && !(q7 x ty || q8 x lb || q9 x kd) && !(x.labels.any (kn fl))) := by
 unfold nP
 cases q1 x fl <;> cases q2 x fl <;> cases q3 x fl <;> cases q4 x fl <;> cases q5 x <;> cases q6 x kd <;> cases q7 x ty <;> cases q8 x lb <;> cases q9 x kd <;> rfl
theorem Nl (hG : aA.g = some 1) (x : Ex) (fl : ByteArray) (ty kd : Int) (lb : Bool) (hf : fl.size ≤ 1048576) (hl : x.labels.length ≤ 1048576) (Yh : -1 ≤ kd ∧ kd ≤ 100) : ∃ r_, (fun w => w = bl (nP x fl ty lb kd)) r_ ∧ aT Tryz.prog 244 [bT x, .agg [str fl, num ty, bl lb, num kd]] r_ := by
 refine gG tt_ok [3,4,5,8,11,12,30000] 100 [.tmp 4] (fn := Tryz.f244) Tryz.func244 rfl Tryz.call244 ⟨rfl, rfl, by simp⟩ fun K hK => ?_
 simp only [aI,aq]
 simp only [ab,ae,List.length_map,ag,go_sem]
 refine cF (by have h := Nk x fl ty kd lb hl Yh; rw [aI] at h; simp only [aq] at h; exact h) ?_
 rintro _ rfl
 simp only [ab,ae,List.length_map,ag,go_sem]
 refine fp tt_ok [3,4,5,8,11,12,30000] [11] 3 [2,3,4,5,6] (fun vs => vs = [bl (q1 x fl || q2 x fl || q3 x fl || q4 x fl)]) (fun Z1 cJ => ?_) ?_
 ·simp only [ab,ae,List.length_map,ag,go_sem]
  refine fp tt_ok [3,4,5,8,11,12,30000] [11] 3 [2,3,4,5,6] (fun vs => vs = [bl (q1 x fl)]) (fun Z2 kT => ?_) ?_
  ·simp only [ab,ae,List.length_map,ag,go_sem]
   refine kA tt_ok ?_
   simp only [ab,ae,List.length_map,ag,go_sem]
   refine aV (fun vD => ?_) (fun vD => ?_)
   ·simp only [ab,ae,List.length_map,ag,go_sem]
    refine cS (kq hG _ rfl 1 fl ty kd lb rfl _ hf) ?_
    rintro _ rfl
    simp only [ab,ae,List.length_map,ag,go_sem]
    refine kT _ (ct (by omega) (by simp only [ab,ae,List.length_map,ag,go_sem]) ?_)
    simp only [dr,lk,reduceIte,zE]
    exact congrArg (fun b => [bl b]) (by clear hK cJ kT; unfold q1; simp_all [fg] <;> (intros; omega))
   ·simp only [ab,ae,List.length_map,ag,go_sem]
    refine kT _ (ct (by omega) (by simp only [ab,ae,List.length_map,ag,go_sem]) ?_)
    simp only [dr,lk,reduceIte,zE]
    exact congrArg (fun b => [bl b]) (by clear hK cJ kT; unfold q1; simp_all [fg] <;> (intros; omega))
  ·intro vs hJ
   obtain rfl := hJ
   simp only [ab,ae,List.length_map,ag,go_sem]
   refine aV (fun pJ => ?_) (fun pJ => ?_)
   ·simp only [ab,ae,List.length_map,ag,go_sem]
    refine cJ _ (ct (by omega) (by simp only [ab,ae,List.length_map,ag,go_sem]) ?_)
    simp only [dr,lk,reduceIte,zE]
    exact congrArg (fun b => [bl b]) (by clear hK cJ; first | (simp only [*,Bool.not_true,Bool.not_false,Bool.true_and,Bool.and_true,Bool.false_and,Bool.and_false,Bool.true_or,Bool.or_true,Bool.false_or,Bool.or_false,Bool.or_self]; done) | (unfold q4; simp only [*,Bool.not_true,Bool.not_false,Bool.true_and,Bool.and_true,Bool.false_and,Bool.and_false,Bool.true_or,Bool.or_true,Bool.false_or,Bool.or_false,Bool.or_self]; done) | (unfold q4; simp_all))
   ·simp only [ab,ae,List.length_map,ag,go_sem]
    refine fp tt_ok [3,4,5,8,11,12,30000] [11] 3 [2,3,4,5,6] (fun vs => vs = [bl (q2 x fl)]) (fun Z3 wA => ?_) ?_
    ·simp only [ab,ae,List.length_map,ag,go_sem]
     refine kA tt_ok ?_
     simp only [ab,ae,List.length_map,ag,go_sem]
     refine aV (fun JW => ?_) (fun JW => ?_)
     ·simp only [ab,ae,List.length_map,ag,go_sem]
      refine cS (kq hG _ rfl 1 fl ty kd lb rfl _ hf) ?_
      rintro _ rfl
      simp only [ab,ae,List.length_map,ag,go_sem]
      refine wA _ (ct (by omega) (by simp only [ab,ae,List.length_map,ag,go_sem]) ?_)
      simp only [dr,lk,reduceIte,zE]
      exact congrArg (fun b => [bl b]) (by clear hK cJ wA; unfold q2; simp_all [fg] <;> (intros; omega))
     ·simp only [ab,ae,List.length_map,ag,go_sem]
      refine wA _ (ct (by omega) (by simp only [ab,ae,List.length_map,ag,go_sem]) ?_)
      simp only [dr,lk,reduceIte,zE]
      exact congrArg (fun b => [bl b]) (by clear hK cJ wA; unfold q2; simp_all [fg] <;> (intros; omega))
    ·intro vs hJ
     obtain rfl := hJ
     simp only [ab,ae,List.length_map,ag,go_sem]
     refine aV (fun pJ => ?_) (fun pJ => ?_)
     ·simp only [ab,ae,List.length_map,ag,go_sem]
      refine cJ _ (ct (by omega) (by simp only [ab,ae,List.length_map,ag,go_sem]) ?_)
      simp only [dr,lk,reduceIte,zE]
      exact congrArg (fun b => [bl b]) (by clear hK cJ; first | (simp only [*,Bool.not_true,Bool.not_false,Bool.true_and,Bool.and_true,Bool.false_and,Bool.and_false,Bool.true_or,Bool.or_true,Bool.false_or,Bool.or_false,Bool.or_self]; done) | (unfold q4; simp only [*,Bool.not_true,Bool.not_false,Bool.true_and,Bool.and_true,Bool.false_and,Bool.and_false,Bool.true_or,Bool.or_true,Bool.false_or,Bool.or_false,Bool.or_self]; done) | (unfold q4; simp_all))
     ·simp only [ab,ae,List.length_map,ag,go_sem]
      refine fp tt_ok [3,4,5,8,11,12,30000] [11] 3 [2,3,4,5,6] (fun vs => vs = [bl (q3 x fl)]) (fun Z4 yI => ?_) ?_
      ·simp only [ab,ae,List.length_map,ag,go_sem]
       refine kA tt_ok ?_
       simp only [ab,ae,List.length_map,ag,go_sem]
       refine aV (fun Bt => ?_) (fun Bt => ?_)
       ·simp only [ab,ae,List.length_map,ag,go_sem]
        refine cS (kq hG _ rfl 1 fl ty kd lb rfl _ hf) ?_
        rintro _ rfl
        simp only [ab,ae,List.length_map,ag,go_sem]
        refine yI _ (ct (by omega) (by simp only [ab,ae,List.length_map,ag,go_sem]) ?_)
        simp only [dr,lk,reduceIte,zE]
        exact congrArg (fun b => [bl b]) (by clear hK cJ yI; unfold q3; simp_all [fg] <;> (intros; omega))
       ·simp only [ab,ae,List.length_map,ag,go_sem]
        refine yI _ (ct (by omega) (by simp only [ab,ae,List.length_map,ag,go_sem]) ?_)
        simp only [dr,lk,reduceIte,zE]
        exact congrArg (fun b => [bl b]) (by clear hK cJ yI; unfold q3; simp_all [fg] <;> (intros; omega))
      ·intro vs hJ
       obtain rfl := hJ
       simp only [ab,ae,List.length_map,ag,go_sem]
       refine aV (fun pJ => ?_) (fun pJ => ?_)
       ·simp only [ab,ae,List.length_map,ag,go_sem]
        refine cJ _ (ct (by omega) (by simp only [ab,ae,List.length_map,ag,go_sem]) ?_)
        simp only [dr,lk,reduceIte,zE]
        exact congrArg (fun b => [bl b]) (by clear hK cJ; first | (simp only [*,Bool.not_true,Bool.not_false,Bool.true_and,Bool.and_true,Bool.false_and,Bool.and_false,Bool.true_or,Bool.or_true,Bool.false_or,Bool.or_false,Bool.or_self]; done) | (unfold q4; simp only [*,Bool.not_true,Bool.not_false,Bool.true_and,Bool.and_true,Bool.false_and,Bool.and_false,Bool.true_or,Bool.or_true,Bool.false_or,Bool.or_false,Bool.or_self]; done) | (unfold q4; simp_all))
       ·simp only [ab,ae,List.length_map,ag,go_sem]
        refine aV (fun BD => ?_) (fun BD => ?_)
        ·simp only [ab,ae,List.length_map,ag,go_sem]
         refine cS (kq hG _ rfl 1 fl ty kd lb rfl _ hf) ?_
         rintro _ rfl
         simp only [ab,ae,List.length_map,ag,go_sem]
         refine cJ _ (ct (by omega) (by simp only [ab,ae,List.length_map,ag,go_sem]) ?_)
         simp only [dr,lk,reduceIte,zE]
         exact congrArg (fun b => [bl b]) (by clear hK cJ; first | (simp only [*,Bool.not_true,Bool.not_false,Bool.true_and,Bool.and_true,Bool.false_and,Bool.and_false,Bool.true_or,Bool.or_true,Bool.false_or,Bool.or_false,Bool.or_self]; done) | (unfold q4; simp only [*,Bool.not_true,Bool.not_false,Bool.true_and,Bool.and_true,Bool.false_and,Bool.and_false,Bool.true_or,Bool.or_true,Bool.false_or,Bool.or_false,Bool.or_self]; done) | (unfold q4; simp_all))
        ·simp only [ab,ae,List.length_map,ag,go_sem]
         refine cJ _ (ct (by omega) (by simp only [ab,ae,List.length_map,ag,go_sem]) ?_)
         simp only [dr,lk,reduceIte,zE]
         exact congrArg (fun b => [bl b]) (by clear hK cJ; first | (simp only [*,Bool.not_true,Bool.not_false,Bool.true_and,Bool.and_true,Bool.false_and,Bool.and_false,Bool.true_or,Bool.or_true,Bool.false_or,Bool.or_false,Bool.or_self]; done) | (unfold q4; simp only [*,Bool.not_true,Bool.not_false,Bool.true_and,Bool.and_true,Bool.false_and,Bool.and_false,Bool.true_or,Bool.or_true,Bool.false_or,Bool.or_false,Bool.or_self]; done) | (unfold q4; simp_all))
 ·intro vs hJ
  obtain rfl := hJ
  simp only [ab,ae,List.length_map,ag,go_sem]
  refine aV (fun pJ => ?_) (fun pJ => ?_)
  ·simp only [ab,ae,List.length_map,ag,go_sem]
   exact hK _ (congrArg bl (by clear hK; rw [ri]; simp only [*,Bool.not_true,Bool.not_false,Bool.true_and,Bool.and_true,Bool.false_and,Bool.and_false,Bool.true_or,Bool.or_true,Bool.false_or,Bool.or_false,Bool.or_self]))
  ·simp only [ab,ae,List.length_map,ag,go_sem]
   refine fp tt_ok [3,4,5,8,11,12,30000] [44] 3 [2,3,4,5,6,11] (fun vs => vs = [bl (q5 x || q6 x kd)]) (fun Z5 Gg => ?_) ?_
   ·simp only [ab,ae,List.length_map,ag,go_sem]
    refine fp tt_ok [3,4,5,8,11,12,30000] [44] 3 [2,3,4,5,6,11] (fun vs => vs = [bl (q5 x)]) (fun Z6 Sy => ?_) ?_
    ·simp only [ab,ae,List.length_map,ag,go_sem]
     refine kA tt_ok ?_
     simp only [ab,ae,List.length_map,ag,go_sem]
     refine aV (fun w7 => ?_) (fun w7 => ?_)
     ·simp only [ab,ae,List.length_map,ag,go_sem]
      refine aV (fun JX => ?_) (fun JX => ?_)
      ·simp only [ab,ae,List.length_map,ag,go_sem]
       refine Sy _ (ct (by omega) (by simp only [ab,ae,List.length_map,ag,go_sem]) ?_)
       simp only [dr,lk,reduceIte,zE]
       exact congrArg (fun b => [bl b]) (by clear hK Gg Sy; unfold q5; simp_all [fg] <;> (intros; omega))
      ·simp only [ab,ae,List.length_map,ag,go_sem]
       refine Sy _ (ct (by omega) (by simp only [ab,ae,List.length_map,ag,go_sem]) ?_)
       simp only [dr,lk,reduceIte,zE]
       exact congrArg (fun b => [bl b]) (by clear hK Gg Sy; unfold q5; simp_all [fg] <;> (intros; omega))
     ·simp only [ab,ae,List.length_map,ag,go_sem]
      refine Sy _ (ct (by omega) (by simp only [ab,ae,List.length_map,ag,go_sem]) ?_)
      simp only [dr,lk,reduceIte,zE]
      exact congrArg (fun b => [bl b]) (by clear hK Gg Sy; unfold q5; simp_all [fg] <;> (intros; omega))
    ·intro vs hJ
     obtain rfl := hJ
     simp only [ab,ae,List.length_map,ag,go_sem]
     refine aV (fun nR => ?_) (fun nR => ?_)
     ·simp only [ab,ae,List.length_map,ag,go_sem]
      refine Gg _ (ct (by omega) (by simp only [ab,ae,List.length_map,ag,go_sem]) ?_)
      simp only [dr,lk,reduceIte,zE]
      exact congrArg (fun b => [bl b]) (by clear hK Gg; first | (simp only [*,Bool.not_true,Bool.not_false,Bool.true_and,Bool.and_true,Bool.false_and,Bool.and_false,Bool.true_or,Bool.or_true,Bool.false_or,Bool.or_false,Bool.or_self]; done) | (unfold q6; simp only [*,Bool.not_true,Bool.not_false,Bool.true_and,Bool.and_true,Bool.false_and,Bool.and_false,Bool.true_or,Bool.or_true,Bool.false_or,Bool.or_false,Bool.or_self]; done) | (unfold q6; simp_all))
     ·simp only [ab,ae,List.length_map,ag,go_sem]
      refine aV (fun UT => ?_) (fun UT => ?_)
      ·simp only [ab,ae,List.length_map,ag,go_sem]
       refine Gg _ (ct (by omega) (by simp only [ab,ae,List.length_map,ag,go_sem]) ?_)
       simp only [dr,lk,reduceIte,zE]
       exact congrArg (fun b => [bl b]) (by clear hK Gg; first | (simp only [*,Bool.not_true,Bool.not_false,Bool.true_and,Bool.and_true,Bool.false_and,Bool.and_false,Bool.true_or,Bool.or_true,Bool.false_or,Bool.or_false,Bool.or_self]; done) | (unfold q6; simp only [*,Bool.not_true,Bool.not_false,Bool.true_and,Bool.and_true,Bool.false_and,Bool.and_false,Bool.true_or,Bool.or_true,Bool.false_or,Bool.or_false,Bool.or_self]; done) | (unfold q6; simp_all))
      ·simp only [ab,ae,List.length_map,ag,go_sem]
       refine Gg _ (ct (by omega) (by simp only [ab,ae,List.length_map,ag,go_sem]) ?_)
       simp only [dr,lk,reduceIte,zE]
       exact congrArg (fun b => [bl b]) (by clear hK Gg; first | (simp only [*,Bool.not_true,Bool.not_false,Bool.true_and,Bool.and_true,Bool.false_and,Bool.and_false,Bool.true_or,Bool.or_true,Bool.false_or,Bool.or_false,Bool.or_self]; done) | (unfold q6; simp only [*,Bool.not_true,Bool.not_false,Bool.true_and,Bool.and_true,Bool.false_and,Bool.and_false,Bool.true_or,Bool.or_true,Bool.false_or,Bool.or_false,Bool.or_self]; done) | (unfold q6; simp_all))
   ·intro vs hJ
    obtain rfl := hJ
    simp only [ab,ae,List.length_map,ag,go_sem]
    refine aV (fun nR => ?_) (fun nR => ?_)
    ·simp only [ab,ae,List.length_map,ag,go_sem]
     exact hK _ (congrArg bl (by clear hK; rw [ri]; simp only [*,Bool.not_true,Bool.not_false,Bool.true_and,Bool.and_true,Bool.false_and,Bool.and_false,Bool.true_or,Bool.or_true,Bool.false_or,Bool.or_false,Bool.or_self]))
    ·simp only [ab,ae,List.length_map,ag,go_sem]
     refine fp tt_ok [3,4,5,8,11,12,30000] [65] 3 [2,3,4,5,6,11,44] (fun vs => vs = [bl (q7 x ty || q8 x lb || q9 x kd)]) (fun Z7 G7 => ?_) ?_
     ·simp only [ab,ae,List.length_map,ag,go_sem]
      refine fp tt_ok [3,4,5,8,11,12,30000] [65] 3 [2,3,4,5,6,11,44] (fun vs => vs = [bl (q7 x ty)]) (fun Z8 Yi => ?_) ?_
      ·simp only [ab,ae,List.length_map,ag,go_sem]
       refine kA tt_ok ?_
       simp only [ab,ae,List.length_map,ag,go_sem]
       refine aV (fun DI => ?_) (fun DI => ?_)
       ·simp only [ab,ae,List.length_map,ag,go_sem]
        refine Yi _ (ct (by omega) (by simp only [ab,ae,List.length_map,ag,go_sem]) ?_)
        simp only [dr,lk,reduceIte,zE]
        exact congrArg (fun b => [bl b]) (by clear hK G7 Yi; unfold q7; simp_all [fg] <;> (intros; omega))
       ·simp only [ab,ae,List.length_map,ag,go_sem]
        refine Yi _ (ct (by omega) (by simp only [ab,ae,List.length_map,ag,go_sem]) ?_)
        simp only [dr,lk,reduceIte,zE]
        exact congrArg (fun b => [bl b]) (by clear hK G7 Yi; unfold q7; simp_all [fg] <;> (intros; omega))
      ·intro vs hJ
       obtain rfl := hJ
       simp only [ab,ae,List.length_map,ag,go_sem]
       refine aV (fun sh => ?_) (fun sh => ?_)
       ·simp only [ab,ae,List.length_map,ag,go_sem]
        refine G7 _ (ct (by omega) (by simp only [ab,ae,List.length_map,ag,go_sem]) ?_)
        simp only [dr,lk,reduceIte,zE]
        exact congrArg (fun b => [bl b]) (by clear hK G7; first | (simp only [*,Bool.not_true,Bool.not_false,Bool.true_and,Bool.and_true,Bool.false_and,Bool.and_false,Bool.true_or,Bool.or_true,Bool.false_or,Bool.or_false,Bool.or_self]; done) | (unfold q9; simp only [*,Bool.not_true,Bool.not_false,Bool.true_and,Bool.and_true,Bool.false_and,Bool.and_false,Bool.true_or,Bool.or_true,Bool.false_or,Bool.or_false,Bool.or_self]; done) | (unfold q9; simp_all))
       ·simp only [ab,ae,List.length_map,ag,go_sem]
        refine fp tt_ok [3,4,5,8,11,12,30000] [65] 3 [2,3,4,5,6,11,44] (fun vs => vs = [bl (q8 x lb)]) (fun Z9 Yj => ?_) ?_
        ·simp only [ab,ae,List.length_map,ag,go_sem]
         refine kA tt_ok ?_
         simp only [ab,ae,List.length_map,ag,go_sem]
         refine aV (fun vM => ?_) (fun vM => ?_)
         ·simp only [ab,ae,List.length_map,ag,go_sem]
          refine Yj _ (ct (by omega) (by simp only [ab,ae,List.length_map,ag,go_sem]) ?_)
          simp only [dr,lk,reduceIte,zE]
          exact congrArg (fun b => [bl b]) (by clear hK G7 Yj; unfold q8; simp_all [fg] <;> (intros; omega))
         ·simp only [ab,ae,List.length_map,ag,go_sem]
          refine Yj _ (ct (by omega) (by simp only [ab,ae,List.length_map,ag,go_sem]) ?_)
          simp only [dr,lk,reduceIte,zE]
          exact congrArg (fun b => [bl b]) (by clear hK G7 Yj; unfold q8; simp_all [fg] <;> (intros; omega))
        ·intro vs hJ
         obtain rfl := hJ
         simp only [ab,ae,List.length_map,ag,go_sem]
         refine aV (fun sh => ?_) (fun sh => ?_)
         ·simp only [ab,ae,List.length_map,ag,go_sem]
          refine G7 _ (ct (by omega) (by simp only [ab,ae,List.length_map,ag,go_sem]) ?_)
          simp only [dr,lk,reduceIte,zE]
          exact congrArg (fun b => [bl b]) (by clear hK G7; first | (simp only [*,Bool.not_true,Bool.not_false,Bool.true_and,Bool.and_true,Bool.false_and,Bool.and_false,Bool.true_or,Bool.or_true,Bool.false_or,Bool.or_false,Bool.or_self]; done) | (unfold q9; simp only [*,Bool.not_true,Bool.not_false,Bool.true_and,Bool.and_true,Bool.false_and,Bool.and_false,Bool.true_or,Bool.or_true,Bool.false_or,Bool.or_false,Bool.or_self]; done) | (unfold q9; simp_all))
         ·simp only [ab,ae,List.length_map,ag,go_sem]
          refine aV (fun Rk => ?_) (fun Rk => ?_)
          ·simp only [ab,ae,List.length_map,ag,go_sem]
           refine G7 _ (ct (by omega) (by simp only [ab,ae,List.length_map,ag,go_sem]) ?_)
           simp only [dr,lk,reduceIte,zE]
           exact congrArg (fun b => [bl b]) (by clear hK G7; first | (simp only [*,Bool.not_true,Bool.not_false,Bool.true_and,Bool.and_true,Bool.false_and,Bool.and_false,Bool.true_or,Bool.or_true,Bool.false_or,Bool.or_false,Bool.or_self]; done) | (unfold q9; simp only [*,Bool.not_true,Bool.not_false,Bool.true_and,Bool.and_true,Bool.false_and,Bool.and_false,Bool.true_or,Bool.or_true,Bool.false_or,Bool.or_false,Bool.or_self]; done) | (unfold q9; simp_all))
          ·simp only [ab,ae,List.length_map,ag,go_sem]
           refine G7 _ (ct (by omega) (by simp only [ab,ae,List.length_map,ag,go_sem]) ?_)
           simp only [dr,lk,reduceIte,zE]
           exact congrArg (fun b => [bl b]) (by clear hK G7; first | (simp only [*,Bool.not_true,Bool.not_false,Bool.true_and,Bool.and_true,Bool.false_and,Bool.and_false,Bool.true_or,Bool.or_true,Bool.false_or,Bool.or_false,Bool.or_self]; done) | (unfold q9; simp only [*,Bool.not_true,Bool.not_false,Bool.true_and,Bool.and_true,Bool.false_and,Bool.and_false,Bool.true_or,Bool.or_true,Bool.false_or,Bool.or_false,Bool.or_self]; done) | (unfold q9; simp_all))
     ·intro vs hJ
      obtain rfl := hJ
      simp only [ab,ae,List.length_map,ag,go_sem]
      refine aV (fun sh => ?_) (fun sh => ?_)
      ·simp only [ab,ae,List.length_map,ag,go_sem]
       exact hK _ (congrArg bl (by clear hK; rw [ri]; simp only [*,Bool.not_true,Bool.not_false,Bool.true_and,Bool.and_true,Bool.false_and,Bool.and_false,Bool.true_or,Bool.or_true,Bool.false_or,Bool.or_false,Bool.or_self]))
      ·simp only [ab,ae,List.length_map,ag,go_sem]
       refine cS (vL 274 _ (fun n hn => rfl) fl ty kd lb hf 277 (kn fl) x.labels (fun l _ => JT hG _ (fun n hn => rfl) fl ty kd lb hf l) hl) ?_
       rintro _ rfl
       simp only [ab,ae,List.length_map,ag,go_sem]
       exact hK _ (congrArg bl (by clear hK; rw [ri]; simp only [*,Bool.not_true,Bool.not_false,Bool.true_and,Bool.and_true,Bool.false_and,Bool.and_false,Bool.true_or,Bool.or_true,Bool.false_or,Bool.or_false,Bool.or_self]))
theorem BG (hG : aA.g = some 1) (x : Ex) (fl : ByteArray) (ty kd : Int) (lb : Bool) (hf : fl.size ≤ 1048576) (hl : x.labels.length ≤ 1048576) (hm : x.mod.size ≤ 1048576) : ∃ r_, (fun w => w = bl (wy x fl)) r_ ∧ aT Tryz.prog 245 [bT x, .agg [str fl, num ty, bl lb, num kd]] r_ := by
 refine gG tt_ok [2,3] 42 [.tmp 4] (fn := Tryz.f245) Tryz.func245 rfl Tryz.call245 ⟨rfl, rfl, by simp⟩ fun K hK => ?_
 simp only [aI,aq]
 simp only [ab,ae,List.length_map,ag,go_sem]
 refine fp tt_ok [2,3] [7] 3 [2,4,5] (fun vs => vs = [bl (m1 x fl)]) (fun Z1 cJ => ?_) ?_
 ·simp only [ab,ae,List.length_map,ag,go_sem]
  refine kA tt_ok ?_
  simp only [ab,ae,List.length_map,ag,go_sem]
  refine cS (yO hG _ rfl 1 fl ty kd lb rfl _ hf) ?_
  rintro _ rfl
  simp only [ab,ae,List.length_map,ag,go_sem]
  refine aV (fun qI => ?_) (fun qI => ?_)
  ·simp only [ab,ae,List.length_map,ag,go_sem]
   refine cF (oi hG x.mod hm) ?_
   rintro _ rfl
   simp only [ab,ae,List.length_map,ag,go_sem]
   refine cJ _ (ct (by omega) (by simp only [ab,ae,List.length_map,ag,go_sem]) ?_)
   simp only [dr,lk,reduceIte,zE]
   exact congrArg (fun b => [bl b]) (by clear hK cJ; unfold m1; simp_all [fg] <;> (intros; omega))
  ·simp only [ab,ae,List.length_map,ag,go_sem]
   refine cJ _ (ct (by omega) (by simp only [ab,ae,List.length_map,ag,go_sem]) ?_)
   simp only [dr,lk,reduceIte,zE]
   exact congrArg (fun b => [bl b]) (by clear hK cJ; unfold m1; simp_all [fg] <;> (intros; omega))
 ·intro vs hJ
  obtain rfl := hJ
  simp only [ab,ae,List.length_map,ag,go_sem]
  refine aV (fun yr => ?_) (fun yr => ?_)
  ·simp only [ab,ae,List.length_map,ag,go_sem]
   exact hK _ (congrArg bl (by clear hK; unfold wy; first | (simp only [*,Bool.not_true,Bool.not_false,Bool.true_and,Bool.and_true,Bool.false_and,Bool.and_false,Bool.true_or,Bool.or_true,Bool.false_or,Bool.or_false]; done) | (unfold m3; simp only [*,Bool.not_true,Bool.not_false,Bool.true_and,Bool.and_true,Bool.false_and,Bool.and_false,Bool.true_or,Bool.or_true,Bool.false_or,Bool.or_false]; done) | (unfold m3; simp_all)))
  ·simp only [ab,ae,List.length_map,ag,go_sem]
   refine fp tt_ok [2,3] [7] 3 [2,4,5] (fun vs => vs = [bl (m2 x fl)]) (fun Z2 kT => ?_) ?_
   ·simp only [ab,ae,List.length_map,ag,go_sem]
    refine kA tt_ok ?_
    simp only [ab,ae,List.length_map,ag,go_sem]
    refine cS (yO hG _ rfl 1 fl ty kd lb rfl _ hf) ?_
    rintro _ rfl
    simp only [ab,ae,List.length_map,ag,go_sem]
    refine aV (fun I4 => ?_) (fun I4 => ?_)
    ·simp only [ab,ae,List.length_map,ag,go_sem]
     refine aV (fun I5 => ?_) (fun I5 => ?_)
     ·simp only [ab,ae,List.length_map,ag,go_sem]
      refine cF (eR hG _) ?_
      rintro _ rfl
      simp only [ab,ae,List.length_map,ag,go_sem]
      refine kT _ (ct (by omega) (by simp only [ab,ae,List.length_map,ag,go_sem]) ?_)
      simp only [dr,lk,reduceIte,zE]
      exact congrArg (fun b => [bl b]) (by clear hK kT; unfold m2; simp_all [fg] <;> (intros; omega))
     ·simp only [ab,ae,List.length_map,ag,go_sem]
      refine kT _ (ct (by omega) (by simp only [ab,ae,List.length_map,ag,go_sem]) ?_)
      simp only [dr,lk,reduceIte,zE]
      exact congrArg (fun b => [bl b]) (by clear hK kT; unfold m2; simp_all [fg] <;> (intros; omega))
    ·simp only [ab,ae,List.length_map,ag,go_sem]
     refine kT _ (ct (by omega) (by simp only [ab,ae,List.length_map,ag,go_sem]) ?_)
     simp only [dr,lk,reduceIte,zE]
     exact congrArg (fun b => [bl b]) (by clear hK kT; unfold m2; simp_all [fg] <;> (intros; omega))
   ·intro vs hJ
    obtain rfl := hJ
    simp only [ab,ae,List.length_map,ag,go_sem]
    refine aV (fun yr => ?_) (fun yr => ?_)
    ·simp only [ab,ae,List.length_map,ag,go_sem]
     exact hK _ (congrArg bl (by clear hK; unfold wy; first | (simp only [*,Bool.not_true,Bool.not_false,Bool.true_and,Bool.and_true,Bool.false_and,Bool.and_false,Bool.true_or,Bool.or_true,Bool.false_or,Bool.or_false]; done) | (unfold m3; simp only [*,Bool.not_true,Bool.not_false,Bool.true_and,Bool.and_true,Bool.false_and,Bool.and_false,Bool.true_or,Bool.or_true,Bool.false_or,Bool.or_false]; done) | (unfold m3; simp_all)))
    ·simp only [ab,ae,List.length_map,ag,go_sem]
     refine aV (fun JW => ?_) (fun JW => ?_)
     ·simp only [ab,ae,List.length_map,ag,go_sem]
      refine cF (eR hG _) ?_
      rintro _ rfl
      simp only [ab,ae,List.length_map,ag,go_sem]
      refine aV (fun yr => ?_) (fun yr => ?_)
      ·simp only [ab,ae,List.length_map,ag,go_sem]
       exact hK _ (congrArg bl (by clear hK; unfold wy; first | (simp only [*,Bool.not_true,Bool.not_false,Bool.true_and,Bool.and_true,Bool.false_and,Bool.and_false,Bool.true_or,Bool.or_true,Bool.false_or,Bool.or_false]; done) | (unfold m3; simp only [*,Bool.not_true,Bool.not_false,Bool.true_and,Bool.and_true,Bool.false_and,Bool.and_false,Bool.true_or,Bool.or_true,Bool.false_or,Bool.or_false]; done) | (unfold m3; simp_all)))
      ·simp only [ab,ae,List.length_map,ag,go_sem]
       refine cS (vL 278 _ (fun n hn => rfl) fl ty kd lb hf 279 (s6 fl) x.labels (fun l _ => rh hG _ (fun n hn => rfl) fl ty kd lb hf l) hl) ?_
       rintro _ rfl
       simp only [ab,ae,List.length_map,ag,go_sem]
       exact hK _ (congrArg bl (by clear hK; unfold wy; first | (simp only [*,Bool.not_true,Bool.not_false,Bool.true_and,Bool.and_true,Bool.false_and,Bool.and_false,Bool.true_or,Bool.or_true,Bool.false_or,Bool.or_false]; done) | (unfold m3; simp only [*,Bool.not_true,Bool.not_false,Bool.true_and,Bool.and_true,Bool.false_and,Bool.and_false,Bool.true_or,Bool.or_true,Bool.false_or,Bool.or_false]; done) | (unfold m3; simp_all)))
     ·simp only [ab,ae,List.length_map,ag,go_sem]
      refine cS (vL 278 _ (fun n hn => rfl) fl ty kd lb hf 279 (s6 fl) x.labels (fun l _ => rh hG _ (fun n hn => rfl) fl ty kd lb hf l) hl) ?_
      rintro _ rfl
      simp only [ab,ae,List.length_map,ag,go_sem]
      exact hK _ (congrArg bl (by clear hK; unfold wy; first | (simp only [*,Bool.not_true,Bool.not_false,Bool.true_and,Bool.and_true,Bool.false_and,Bool.and_false,Bool.true_or,Bool.or_true,Bool.false_or,Bool.or_false]; done) | (unfold m3; simp only [*,Bool.not_true,Bool.not_false,Bool.true_and,Bool.and_true,Bool.false_and,Bool.and_false,Bool.true_or,Bool.or_true,Bool.false_or,Bool.or_false]; done) | (unfold m3; simp_all)))
end Go.Proofs.YtnboooapeopjoaaGreatDoor
end

section
namespace Go.Proofs.YtnboooapeopjoaaGreatDoor
open Go.Eng
open Nat renaming reduceAdd → zA, reduceLT → zB, reduceLeDiff → zC, reduceMul → zD, reduceEqDiff → zE, reduceSub → zF
variable [aA]
section
variable {σ : Type} {M : σ → List aC} {n k k1 k2 : Nat}
theorem JY (hn : ∀ s, (M s).length = n) (hk : k < n) (ff : k1 < n) (iU : k2 < n) (h1 : ∀ s, (M s)[k1]? = some (.box [.fP k])) (h2 : ∀ s, (M s)[k2]? = some (.box [.bp (.func 235) [] [.ptr k1 0, .ptr k2 0]])) (hb : ∀ s, (M s).all (az n) = true)
  (step : σ → Ty → σ × Bool) (G : σ → Prop) (hG : ∀ s u, G s → (step s u).2 = true → G (step s u).1) {B : Nat} (hB : B ≤ 1048576) (Pd : Ty → Prop) (hy : ∀ s u, G s → u.size ≤ B → Pd u → BW Tryz.prog k [bg u] (M s) (step s u).2 (M (step s u).1)) :
  ∀ (N : Nat) (t : Ty) (s : σ), G s → (∀ v ∈ t.nodes, Pd v) → t.size ≤ N → N ≤ B → aF Tryz.prog 235 [bg t, .ptr k1 0, .ptr k2 0] (M s) (bl (bS step s t.nodes).2) (M (bS step s t.nodes).1) := by
 have g0 : ∀ s (l : List aC), (M s ++ l)[n]? = l[0]? := fun s l => by rw [List.getElem?_append_right (by rw [hn]; exact Nat.le_refl _), hn, Nat.sub_self]
 have g1 : ∀ s (l : List aC), (M s ++ l)[n + 1]? = l[1]? := fun s l => by rw [List.getElem?_append_right (by rw [hn]; omega), hn, Nat.add_sub_cancel_left]
 have Ou : ∀ s (l : List aC), (M s ++ l)[k1]? = some (.box [.fP k]) := fun s l => by rw [List.getElem?_append_left (by rw [hn]; exact ff)]; exact h1 s
 have UA : ∀ s (l : List aC), (M s ++ l)[k2]? = some (.box [.bp (.func 235) [] [.ptr k1 0, .ptr k2 0]]) := fun s l => by rw [List.getElem?_append_left (by rw [hn]; exact iU)]; exact h2 s
 have gs : ∀ s (l : List aC) X, (M s ++ l).set n X = M s ++ l.set 0 X := fun s l X => by rw [List.set_append_right _ _ (by rw [hn]; exact Nat.le_refl _), hn, Nat.sub_self]
 have gt : ∀ s (l : List aC), (M s ++ l).take n = M s := fun s l => by rw [← hn s, List.take_left]
 have Ov : ∀ s, (M s).take n = M s := fun s => by rw [List.take_of_length_le (by rw [hn]; exact Nat.le_refl _)]
 have fy : ∀ s u (l : List aC), G s → u.size ≤ B → Pd u → BW Tryz.prog k [bg u] (M s ++ l) (step s u).2 (M (step s u).1 ++ l) := fun s u l hg hu hp => by
  refine (hy s u hg hu hp).frame (by rw [hn]; exact hk) ?_ (by rw [hn]; exact hb s) (by rw [hn, hn]) (by rw [hn]; exact hb _) l
  rw [ay]; simp [au, aD, aj]
 intro N
 induction N with
 | zero => intro t s hg hP h; have := t.size_pos; omega
 | succ N ih =>
  intro t s hg hP hN hNB
  have AQ := t.ew
  have vX := t.cE
  have MQ := bm Ty.size Ty.size_pos t.parts
  have ch := t.fq
  have hp := r8 t (by omega)
  have Ja := fun l => fy s t l hg (by omega) (hP t (by rw [t.fq]; simp))
  have Ow : ∀ u s (l : List aC), G s → (∀ v ∈ u.nodes, Pd v) → u.size ≤ N → aF Tryz.prog 235 [bg u, .ptr k1 0, .ptr k2 0] (M s ++ l) (bl (bS step s u.nodes).2) (M (bS step s u.nodes).1 ++ l) := fun u s l hg hq hu => by
   refine (ih u s hg hq hu (by omega)).frame ?_ (by rw [hn]; exact hb s) rfl (by rw [hn, hn]) (by rw [hn]; exact hb _) l
   rw [ay, hn]; simp [au, aD, aj, ff, iU]
  simp only [ay,aj] at Ow
  refine gw tt_ok (fn := Tryz.f235) n (by rw [hn]; exact Nat.le_refl _) Tryz.func235 rfl Tryz.call235 ?_
  simp only [ck,bA,Tryz.ntmps235,List.length_cons,List.length_nil,zA,zF,List.replicate_succ,List.replicate_zero]
  rw [ay] at hp Ja ⊢
  simp only [aj] at hp Ja ⊢
  refine ai tt_ok fun K hK => ?_
  simp only [hn,go_sem]
  refine hK _ ?_
  refine aS ?_
  refine ai tt_ok fun K hK => ?_
  simp only [Ou,g0,hn,go_sem]
  refine .inl ⟨_, _, Ja _, ?_⟩
  try simp only [go_sem]
  refine hK _ ?_
  cases Jb : (step s t).2 with
  | false =>
   refine aL rfl ?_
   refine ai tt_ok fun K hK => ?_
   simp only [go_sem]
   refine hK _ ?_
   refine aY ⟨.inl rfl, ?_⟩
   have rB : bS step s t.nodes = ((step s t).1, false) := by rw [ch]; simp [bS, Jb]
   rw [rB]
   exact ⟨rfl, rfl, by dsimp only; rw [gt]; exact hb _, (gt _ _).symm⟩
  | true =>
   refine aL rfl (bn ?_)
   show cD _ _ _ _ _ _
   refine aS ?_
   refine ai tt_ok fun K hK => ?_
   simp only [Ou,g0,hn,go_sem]
   refine .inl ⟨_, _, by simp only [ab,go_sem,List.take_length], hp, ?_⟩
   try simp only [ab,go_sem]
   refine hK _ ?_
   obtain ⟨ps, yA⟩ : ∃ ps, ps = t.parts := ⟨_, rfl⟩
   rw [← yA] at vX MQ ch ⊢
   have hPp : ∀ u ∈ ps, ∀ v ∈ u.nodes, Pd v := fun u hu v hv => hP v (by rw [ch]; exact List.mem_cons_of_mem _ (List.mem_flatMap.2 ⟨u, hu, hv⟩))
   refine bf (cA (fun N st => ∃ (i : Nat) (s' : σ), G s' ∧ N = ps.length - i ∧ i ≤ ps.length ∧ bS step s (t :: (ps.take i).flatMap Ty.nodes) = (s', true) ∧
    st = { fr := [.undef, .ptr k1 0, .ptr k2 0, .undef, .undef, .undef, .undef, .undef, .undef, .undef, .undef, .undef, .slice (aE ps), num ps.length, num i] ++ List.replicate 8 .undef, mem := M s' }) ps.length ?_ ?_)
   ·refine ⟨n, (false::true::true::(rp 9 false [true,true,true])), by rw [hn]; exact Nat.le_refl _, by simp only [bc,au,aD,az,zB,ff,iU,kC], by dsimp only; rw [gt]; exact hb _, 0, (step s t).1, hG s t hg Jb, by omega, by omega, by simp [bS, Jb], ?_⟩
    dsimp only; rw [gt]; rfl
   ·rintro N' st ⟨i, s', zJ, rfl, hi, Jc, rfl⟩
    simp only [ck,List.replicate_succ,List.replicate_zero]
    by_cases aZ : i < ps.length
    ·have hd := jf aZ
     refine ai tt_ok fun K hK => ?_
     simp only [ab,hd,go_sem]
     refine hK _ ?_
     refine aS (aL rfl (bn ?_))
     refine aS (bf ?_)
     obtain ⟨u, hu⟩ : ∃ u, ps[i]? = some u := ⟨_, List.getElem?_eq_getElem aZ⟩
     have Yc := bG Ty.size hu
     have jM := fun l => Ow u s' l zJ (hPp u (List.mem_of_getElem? hu)) (by omega)
     have vY : (ps.take (i + 1)).flatMap Ty.nodes = (ps.take i).flatMap Ty.nodes ++ u.nodes := by rw [List.take_add_one, hu]; simp
     have EH : bS step s (t :: (ps.take (i + 1)).flatMap Ty.nodes) = bS step s' u.nodes := by
      rw [vY, ← List.cons_append, fb, Jc]; simp
     refine ai tt_ok fun K hK => ?_
     simp only [bt,hu,ay,aj,hn,g0,gs,go_sem]
     refine hK _ ?_
     refine ai tt_ok fun K hK => ?_
     simp only [UA,g0,hn,go_sem]
     refine .inr <| .inl ⟨_, _, jM _, ?_⟩
     try simp only [go_sem]
     refine hK _ ?_
     cases Jd : (bS step s' u.nodes).2 with
     | false =>
      refine aL rfl ?_
      refine ai tt_ok fun K hK => ?_
      simp only [go_sem]
      refine hK _ ?_
      refine aY ⟨.inl rfl, ?_⟩
      have rB : bS step s t.nodes = ((bS step s' u.nodes).1, false) := by
       have u6 : ps.flatMap Ty.nodes = (ps.take (i + 1)).flatMap Ty.nodes ++ (ps.drop (i + 1)).flatMap Ty.nodes := by rw [← List.flatMap_append, List.take_append_drop]
       rw [ch, u6, ← List.cons_append, fb, EH, Jd]; simp
      rw [rB]
      exact ⟨rfl, rfl, by dsimp only; rw [gt]; exact hb _, (gt _ _).symm⟩
     | true =>
      refine aL rfl (bn ?_)
      show cD _ _ _ _ _ _
      refine aK tt_ok fun K hK => ?_
      simp only [go_sem]
      refine hK _ ?_
      have kg := aU i (by omega)
      rw [kg]
      refine ⟨ps.length - (i + 1), by omega, n, (false::true::true::(rp 9 false [true,true,true])), by rw [hn]; exact Nat.le_refl _, by simp only [bc,au,aD,az,zB,ff,iU,kC], by dsimp only; rw [gt]; exact hb _, i + 1, (bS step s' u.nodes).1, mm step hG _ _ zJ Jd, rfl, aZ, by rw [EH, ← Jd], ?_⟩
      dsimp only; rw [gt]; rfl
    ·have hd := jg aZ
     refine ai tt_ok fun K hK => ?_
     simp only [ab,hd,go_sem]
     refine hK _ ?_
     refine aS (aL rfl (dy ?_))
     have gB : i = ps.length := by omega
     subst gB
     show cD _ _ _ _ _ _
     refine ai tt_ok fun K hK => ?_
     simp only [go_sem]
     refine hK _ ?_
     refine aY ⟨.inl rfl, ?_⟩
     rw [List.take_length] at Jc
     rw [ch, Jc]
     exact ⟨rfl, rfl, by dsimp only; rw [Ov]; exact hb _, (Ov _).symm⟩
end

section
variable {σ : Type} {M : σ → List aC} {n k kt : Nat}
theorem JZ (hn : ∀ s, (M s).length = n) (hk : k < n) (FU : kt < n) {t : Ty} (h1 : ∀ s, (M s)[kt]? = some (.box (aj t))) (hb : ∀ s, (M s).all (az n) = true)
  (step : σ → Ty → σ × Bool) (G : σ → Prop) (hG : ∀ s u, G s → (step s u).2 = true → G (step s u).1) {B : Nat} (hB : B ≤ 1048576) (Pd : Ty → Prop) (hy : ∀ s u, G s → u.size ≤ B → Pd u → BW Tryz.prog k [bg u] (M s) (step s u).2 (M (step s u).1)) (ht : t.size ≤ B) (hP : ∀ v ∈ t.nodes, Pd v) (s : σ) (hs : G s) :
  aF Tryz.prog 234 [.fP k, .ptr kt 0] (M s) (.cC []) (M (bS step s t.nodes).1) := by
 have g0 : ∀ s (l : List aC), (M s ++ l)[n]? = l[0]? := fun s l => by rw [List.getElem?_append_right (by rw [hn]; exact Nat.le_refl _), hn, Nat.sub_self]
 have g1 : ∀ s (l : List aC), (M s ++ l)[n + 1]? = l[1]? := fun s l => by rw [List.getElem?_append_right (by rw [hn]; omega), hn, Nat.add_sub_cancel_left]
 have Ox : ∀ s (l : List aC), (M s ++ l)[kt]? = some (.box (aj t)) := fun s l => by rw [List.getElem?_append_left (by rw [hn]; exact FU)]; exact h1 s
 have gs : ∀ s (l : List aC) X, (M s ++ l).set (n + 1) X = M s ++ l.set 1 X := fun s l X => by rw [List.set_append_right _ _ (by rw [hn]; omega), hn, Nat.add_sub_cancel_left]
 have gt : ∀ s (l : List aC), (M s ++ l).take n = M s := fun s l => by rw [← hn s, List.take_left]
 have hw : ∀ s, G s → aF Tryz.prog 235 [bg t, .ptr n 0, .ptr (n + 1) 0] (M s ++ [.box [.fP k], .box [.bp (.func 235) [] [.ptr n 0, .ptr (n + 1) 0]]]) (bl (bS step s t.nodes).2) (M (bS step s t.nodes).1 ++ [.box [.fP k], .box [.bp (.func 235) [] [.ptr n 0, .ptr (n + 1) 0]]]) := fun s hs => by
  refine JY (M := fun s => M s ++ [.box [.fP k], .box [.bp (.func 235) [] [.ptr n 0, .ptr (n + 1) 0]]]) (n := n + 2) (k := k) (k1 := n) (k2 := n + 1) (fun s => by simp [hn]) (by omega) (by omega) (by omega) (fun s => g0 _ _) (fun s => g1 _ _) (fun s => ?_) step G hG hB Pd (fun s u hg hu hq => ?_) t.size t s hs hP (Nat.le_refl _) ht
  ·rw [List.all_append, Bool.and_eq_true]
   refine ⟨l8 (by omega) (hb s), ?_⟩
   simp [az, au, aD]; omega
  ·refine (hy s u hg hu hq).frame (by rw [hn]; exact hk) ?_ (by rw [hn]; exact hb s) (by rw [hn, hn]) (by rw [hn]; exact hb _) _
   rw [ay]; simp [au, aD, aj]
 refine gw tt_ok (fn := Tryz.f234) n (by rw [hn]; exact Nat.le_refl _) Tryz.func234 rfl Tryz.call234 ?_
 simp only [ck,bA,Tryz.ntmps234,List.length_cons,List.length_nil,zA,zF,List.replicate_succ,List.replicate_zero]
 have AJ := hw s hs
 rw [ay] at AJ
 simp only [aj] at AJ Ox
 refine ai tt_ok fun K hK => ?_
 simp only [hn,go_sem]
 refine hK _ ?_
 refine ai tt_ok fun K hK => ?_
 simp only [hn,List.length_append,List.append_assoc,go_sem]
 refine hK _ ?_
 refine ai tt_ok fun K hK => ?_
 simp only [hn,g1,gs,go_sem]
 refine hK _ ?_
 refine aK tt_ok fun K hK => ?_
 simp only [hn,g1,Ox,go_sem]
 refine .inr <| .inl ⟨_, _, AJ, ?_⟩
 try simp only [go_sem]
 refine hK _ ?_
 refine ⟨.inr rfl, rfl, rfl, ?_, ?_⟩
 ·dsimp only; rw [gt]; exact hb _
 ·dsimp only; rw [gt]



theorem DJ {n0 : Nat} {st : St} {Q : Exit → St → Prop} {f : Operand} {params : Array Tmp} {assign body : Code} {t : Ty} (pre : σ → List aC) (s0 : σ) (n kt : Nat) (lF : st.mem = pre s0) (hn : ∀ s, (pre s).length = n) (FU : kt < n)
  (ht : ∀ s, (pre s)[kt]? = some (.box (aj t))) (hb : ∀ s, (pre s).all (az (n + 1)) = true) (yZ : st.fr.all (au (n + 1)) = true) (hf : st.eval f = .bp (.func 234) [] [.ptr kt 0]) (hp : params.size = 1) (step : σ → Ty → σ × Option Code) {B : Nat} (hB : B ≤ 1048576) (ka : t.size ≤ B) (Pd : Ty → Prop) (hPt : ∀ v ∈ t.nodes, Pd v)
  (u7 : ∀ s u, u.size ≤ B → Pd u → ∀ (l : Nat) (LR LB : aC), az (n + 1) LR = true → az (n + 1) LB = true → cD Tryz.prog (some l) (n + 1) assign { fr := kM params.toList [bg u] st.fr, mem := pre s ++ [LR] } fun ex oz => ex = .normal ∧ oz.mem[n]? = some LR ∧
   cD Tryz.prog (some l) (n + 1) body { oz with mem := oz.mem.set n LB } fun ex tp => nn ex = some (step s u).2 ∧ tp.mem[n]? = some LB ∧ tp.mem.take n = pre (step s u).1)
  (hq : match (eS step s0 t.nodes).2 with
   | none => Q .normal { st with mem := pre (eS step s0 t.nodes).1 ++ [.dead] }
   | some c => cD Tryz.prog none n0 c { st with mem := pre (eS step s0 t.nodes).1 ++ [.dead] } Q) : cD Tryz.prog none n0 (.rangeFunc f params assign body) st Q := by
 have hlen : st.mem.length = n := by rw [lF, hn]
 have gn : ∀ s X, (pre s ++ [X])[n]? = some X := fun s X => by rw [List.getElem?_append_right (by rw [hn]; exact Nat.le_refl _), hn, Nat.sub_self]; rfl
 have gk : ∀ s X, (pre s ++ [X])[kt]? = some (.box (aj t)) := fun s X => by rw [List.getElem?_append_left (by rw [hn]; exact FU)]; exact ht s
 have AU : ∀ s (X Y : aC), (pre s ++ [X]).set n Y = pre s ++ [Y] := fun s X Y => by rw [List.set_append_right _ _ (by rw [hn]; exact Nat.le_refl _), hn, Nat.sub_self]; rfl
 have s4 : ∀ (s : σ) (a : LoopState) (b : Option Code), (pre s ++ [aC.loop a b st.fr params assign body]).all (az (n + 1)) = true := fun s a b => by
  rw [List.all_append, Bool.and_eq_true]
  exact ⟨hb s, by simp only [List.all_cons,List.all_nil,Bool.and_true,az]; exact yZ⟩
 have it := JZ (M := fun s : σ × Option Code => pre s.1 ++ [.loop (if s.2.isNone then .ready else .done) s.2 st.fr params assign body]) (n := n + 1) (k := n) (kt := kt) (t := t) (fun s => by simp [hn]) (by omega) (by omega) (fun s => gk _ _) (fun s => s4 _ _ _)
  (qN step) (fun s => s.2 = none) (fun s u hs h => by simpa [qN] using h) hB Pd (fun s u hs hu hq => by
   obtain ⟨s, j⟩ := s
   simp only at hs; subst hs
   refine np (fr := st.fr) (params := params) (assign := assign) (body := body) (gn _ _) (by simp [hp]) fun l => ?_
   have hl : (pre s ++ [aC.loop .ready none st.fr params assign body]).length = n + 1 := by simp [hn]
   simp only [Option.isNone_none,if_true,hl]
   refine cD.mono (u7 s u hu hq l (.loop .ready none st.fr params assign body) (.loop .busy none st.fr params assign body) yZ yZ) ?_
   rintro ex oz ⟨h1, h2, h3⟩
   refine ⟨h1, h2, cD.mono h3 ?_⟩
   rintro ex tp ⟨h4, h5, h6⟩
   refine ⟨_, h4, rfl, h5, ?_, ?_⟩
   ·rw [take_set (hn _) h5 h6]; exact s4 _ _ _
   ·rw [take_set (hn _) h5 h6]; rfl) ka hPt (s0, none) rfl
 rw [tD] at it
 refine k8 (g := 234) (vs := [.fP n, .ptr kt 0]) (by rw [hf, hlen]; rfl) (by rw [lF]; exact it) ?_
 rw [hlen]
 refine ⟨_, _, _, _, _, _, gn _ _, ?_, ?_⟩
 ·cases (eS step s0 t.nodes).2 <;> simp
 ·generalize hj : (eS step s0 t.nodes).2 = j at hq
  cases j with
  | none => dsimp only at hq ⊢; rw [AU]; exact hq
  | some c => dsimp only at hq ⊢; rw [AU]; exact hq
end

end Go.Proofs.YtnboooapeopjoaaGreatDoor
end

section
namespace Go.Proofs.YtnboooapeopjoaaGreatDoor
open Go.Eng
open Nat renaming reduceAdd → zA, reduceLT → zB, reduceLeDiff → zC, reduceMul → zD, reduceEqDiff → zE, reduceSub → zF
variable [aA]
set_option maxHeartbeats 4000000
set_option maxRecDepth 100000
theorem Rm (t : Ty) : s5 t = if decide (4096 < (t.size : Int)) || decide (32 < (t.depth : Int)) then 7 else cB LD t.nodes := by
 unfold s5
 by_cases h1 : 4096 < t.size <;> by_cases h2 : 32 < t.depth <;> simp [h1, h2] <;> (intros; omega)
theorem nV {α : Type} (f : α → Int) (c : Code) : ∀ (l : List α) (s : Int), eS (fun (s : Int) u => if decide (f u = 0) = true then (s, none) else (f u, some c)) s l = if decide (cB f l = 0) = true then (s, none) else (cB f l, some c)
 | [], s => by simp [eS, cB]
 | u :: r, s => by
  by_cases h : f u = 0
  ·simp only [eS,cB,h,decide_true,if_true]
   exact nV f c r s
  ·have hd : decide (f u = 0) = false := decide_eq_false h
   simp [eS, cB, hd, h]
theorem rj (hG : aA.g = some 1) (t : Ty) (ht : t.size ≤ 1048576) (hP : ∀ v ∈ t.nodes, v.mod.size ≤ 1048576) : aT Tryz.prog 136 [bg t] (num (s5 t)) := by
 have UU := j5 t ht
 have Yk := Da t.size t (Nat.le_refl _) ht
 have QP := fun B0 B1 h => AT t [B0, B1] h
 refine iS tt_ok (fn := Tryz.f136) Tryz.func136 rfl Tryz.call136 ?_
 simp only [ck,bA,Tryz.ntmps136,List.length_cons,List.length_nil,zA,zF,List.replicate_succ,List.replicate_zero]
 rw [ay] at UU Yk QP ⊢
 simp only [aj] at UU Yk QP ⊢
 refine ai tt_ok fun K hK => ?_
 simp only [go_sem]
 refine hK _ ?_
 refine aS ?_
 have res : s5 t = if decide (4096 < (t.size : Int)) || decide (32 < (t.depth : Int)) then 7 else cB LD t.nodes := Rm t
 cases c1 : decide (4096 < (t.size : Int)) with
 | true =>
  rw [c1] at res
  refine ai tt_ok fun K hK => ?_
  simp only [c1,go_sem]
  refine .inl ⟨_, _, by simp only [c1,go_sem,List.take_length], UU, ?_⟩
  try simp only [c1,go_sem]
  refine hK _ ?_
  refine aL rfl ?_
  refine ai tt_ok fun K hK => ?_
  simp only [go_sem]
  refine hK _ ?_
  refine aY ⟨.inl rfl, ?_⟩
  rw [res]; rfl
 | false =>
  rw [c1] at res
  cases c2 : decide (32 < (t.depth : Int)) with
  | true =>
   rw [c2] at res
   refine ai tt_ok fun K hK => ?_
   simp only [c1,go_sem]
   refine .inl ⟨_, _, by simp only [c1,go_sem,List.take_length], UU, ?_⟩
   try simp only [c1,go_sem]
   refine .inl ⟨_, _, by simp only [c2,go_sem,List.take_length], Yk, ?_⟩
   try simp only [c2,go_sem]
   refine hK _ ?_
   refine aL rfl ?_
   refine ai tt_ok fun K hK => ?_
   simp only [go_sem]
   refine hK _ ?_
   refine aY ⟨.inl rfl, ?_⟩
   rw [res]; rfl
  | false =>
   rw [c2] at res
   refine ai tt_ok fun K hK => ?_
   simp only [c1,go_sem]
   refine .inl ⟨_, _, by simp only [c1,go_sem,List.take_length], UU, ?_⟩
   try simp only [c1,go_sem]
   refine .inl ⟨_, _, by simp only [c2,go_sem,List.take_length], Yk, ?_⟩
   try simp only [c2,go_sem]
   refine hK _ ?_
   refine aL rfl (bn ?_)
   show cD _ _ _ _ _ _
   refine aS ?_
   refine ai tt_ok fun K hK => ?_
   simp only [go_sem]
   refine .inr <| .inl ⟨_, _, QP _ _ rfl, ?_⟩
   try simp only [go_sem]
   refine hK _ ?_
   refine bf (DJ (t := t) (B := 1048576) (fun s : Int => [.box (aj t), .box [num s], .box (aj t)]) 0 3 2 rfl (fun _ => rfl) (by omega) (fun _ => rfl) (fun _ => rfl) rfl rfl rfl (fun s u => if decide (LD u = 0) = true then (s, none) else (LD u, some .ret)) (by omega) ht (fun v => v.mod.size ≤ 1048576) hP ?_ ?_)
   ·intro s u hu hm l LR LB hLR Sr
    have AQ := u.ew
    obtain ⟨_, rfl, hn⟩ := BC hG u (by omega) hm
    rw [ay] at hn ⊢
    simp only [aj] at hn
    simp only [ck,kM,aj,List.set_cons_succ,List.set_cons_zero]
    refine aK tt_ok fun K hK => ?_
    simp only [go_sem]
    refine hK _ ?_
    refine ⟨rfl, rfl, bf ?_⟩
    simp only [List.set_cons_succ,List.set_cons_zero]
    refine ai tt_ok fun K hK => ?_
    simp only [go_sem]
    refine .inl ⟨_, _, by simp only [go_sem,List.take_length], hn, ?_⟩
    try simp only [go_sem]
    refine hK _ ?_
    refine aS ?_
    cases c3 : decide (LD u = 0) with
    | true =>
     refine aK tt_ok fun K hK => ?_
     simp only [c3,go_sem]
     refine hK _ ?_
     refine aL rfl (bn ?_)
     exact ⟨rfl, rfl, rfl⟩
    | false =>
     refine aK tt_ok fun K hK => ?_
     simp only [c3,go_sem]
     refine hK _ ?_
     refine aL rfl ?_
     refine ai tt_ok fun K hK => ?_
     simp only [go_sem]
     refine hK _ ?_
     exact aY ⟨rfl, rfl, rfl⟩
   ·rw [nV]
    simp only [Bool.or_self,Bool.false_eq_true,if_false] at res
    rw [res]
    cases c4 : decide (cB LD t.nodes = 0) with
    | true =>
     have e0 : cB LD t.nodes = 0 := of_decide_eq_true c4
     simp only [if_true]
     show cD _ _ _ _ _ _
     refine ai tt_ok fun K hK => ?_
     simp only [go_sem]
     refine hK _ ?_
     refine aY ⟨.inl rfl, ?_⟩
     rw [e0]; rfl
    | false =>
     simp only [Bool.false_eq_true,if_false]
     exact aY ⟨.inl rfl, rfl⟩
end Go.Proofs.YtnboooapeopjoaaGreatDoor
end

section
namespace Go.Proofs.YtnboooapeopjoaaGreatDoor
open Go.Eng
variable [aA]
set_option maxHeartbeats 4000000
set_option maxRecDepth 100000
def yP (bV : List (Value × Nat × V)) : Prop := ∀ e ∈ bV, CR .i64 e.1 ∧ ∃ (fl : ByteArray) (ty kd : Int) (lb : Bool), e.2.2 = .agg [str fl, num ty, bl lb, num kd] ∧ fl.size ≤ 1048576
theorem yP.below {bV : List (Value × Nat × V)} (h : yP bV) (n : Nat) : (bV.all fun e => au n e.2.2) = true := List.all_eq_true.2 fun e he => by
 obtain ⟨-, fl, ty, kd, lb, e1, -⟩ := h e he
 rw [e1]; rfl
theorem UW : Mu Tryz.prog 198 3 234 (CR .i64) := Io (by kernel_rfl) (by kernel_rfl)
def nW : Value × Nat × V := (.int .i64 0, 0, .agg [str ⟨#[98]⟩, num 0, bl false, num 0])
def oI : Value × Nat × V := (.int .i64 1, 1, .agg [str ⟨#[120]⟩, num 0, bl false, num 0])
def pK : Value × Nat × V := (.int .i64 2, 2, .agg [str ⟨#[98]⟩, num 0, bl false, num 0])
def rk : Value × Nat × V := (.int .i64 3, 3, .agg [str ⟨#[110]⟩, num 0, bl false, num 0])
def si : Value × Nat × V := (.int .i64 4, 4, .agg [str ⟨#[109,110]⟩, num (-1), bl false, num 0])
def ti : Value × Nat × V := (.int .i64 5, 5, .agg [str ⟨#[]⟩, num 0, bl true, num 0])
def vN : Value × Nat × V := (.int .i64 6, 6, .agg [str ⟨#[110]⟩, num 0, bl false, num 1])
def wB : Value × Nat × V := (.int .i64 7, 7, .agg [str ⟨#[110]⟩, num 0, bl false, num 1])
def yQ : Value × Nat × V := (.int .i64 8, 8, .agg [str ⟨#[116,111]⟩, num 0, bl true, num 1])
def BH : Value × Nat × V := (.int .i64 9, 9, .agg [str ⟨#[]⟩, num 0, bl true, num 1])
def pL : Value × Nat × V := (.int .i64 10, 10, .agg [str ⟨#[110]⟩, num 0, bl false, num 2])
def sj : Value × Nat × V := (.int .i64 11, 11, .agg [str ⟨#[]⟩, num 1, bl false, num 1])
def vO : Value × Nat × V := (.int .i64 12, 12, .agg [str ⟨#[]⟩, num 1, bl false, num 3])
def yR : Value × Nat × V := (.int .i64 13, 13, .agg [str ⟨#[118]⟩, num 1, bl true, num 1])
def DK : Value × Nat × V := (.int .i64 14, 14, .agg [str ⟨#[]⟩, num 1, bl false, num (-1)])
def J0 : Value × Nat × V := (.int .i64 15, 15, .agg [str ⟨#[110,120]⟩, num 1, bl false, num 3])
def Rn : Value × Nat × V := (.int .i64 16, 16, .agg [str ⟨#[110]⟩, num 0, bl false, num (-1)])
def ey : List (Value × Nat × V) := [nW, oI, pK, rk, si, ti, vN, wB, yQ, BH, pL, sj, vO, yR, DK, J0, Rn]
theorem vP : yP ey := fun e he => by
 simp only [ey,List.mem_cons,List.not_mem_nil,or_false] at he
 rcases he with rfl | rfl | rfl | rfl | rfl | rfl | rfl | rfl | rfl | rfl | rfl | rfl | rfl | rfl | rfl | rfl | rfl <;> exact ⟨⟨_, rfl⟩, _, _, _, _, rfl, by decide⟩
theorem Gr {mem : List aC} {b : Nat} (hm : mem[b]? = some (.map ey 17)) (n : Int) :
  ∃ (fl : ByteArray) (ty kd : Int) (lb ok : Bool), gb Tryz.prog mem 198 (.mp b) (num n) true = some (.cC [.agg [str fl, num ty, bl lb, num kd], bl ok]) ∧ fl.size ≤ 1048576 ∧ (-1 ≤ kd ∧ kd ≤ 100) ∧
   ((ok = true ∧ pA n = some ⟨fl, ty, lb, kd⟩) ∨ (ok = false ∧ pA n = none)) := by
 rcases CS UW (k := .int .i64 n) ⟨n, rfl⟩ rfl hm (fun e he => (vP e he).1) (z := .agg [str ⟨#[]⟩, num 0, bl false, num 0]) (by kernel_rfl) true with ⟨h1, h2⟩ | ⟨e, he, hk, h1⟩
 ·refine ⟨_, _, _, _, _, h1, by decide, by decide, .inr ⟨rfl, ?_⟩⟩
  have ch : ∀ j : Int, (∃ e ∈ ey, e.1 = .int .i64 j) → n ≠ j := fun j ⟨e, he, hj⟩ hn => h2 e he (by rw [hj, hn])
  unfold pA
  rw [if_neg (ch 0 ⟨nW, by simp [ey], rfl⟩), if_neg (ch 1 ⟨oI, by simp [ey], rfl⟩), if_neg (ch 2 ⟨pK, by simp [ey], rfl⟩), if_neg (ch 3 ⟨rk, by simp [ey], rfl⟩), if_neg (ch 4 ⟨si, by simp [ey], rfl⟩), if_neg (ch 5 ⟨ti, by simp [ey], rfl⟩),
   if_neg (ch 6 ⟨vN, by simp [ey], rfl⟩), if_neg (ch 7 ⟨wB, by simp [ey], rfl⟩), if_neg (ch 8 ⟨yQ, by simp [ey], rfl⟩), if_neg (ch 9 ⟨BH, by simp [ey], rfl⟩), if_neg (ch 10 ⟨pL, by simp [ey], rfl⟩), if_neg (ch 11 ⟨sj, by simp [ey], rfl⟩),
   if_neg (ch 12 ⟨vO, by simp [ey], rfl⟩), if_neg (ch 13 ⟨yR, by simp [ey], rfl⟩), if_neg (ch 14 ⟨DK, by simp [ey], rfl⟩), if_neg (ch 15 ⟨J0, by simp [ey], rfl⟩), if_neg (ch 16 ⟨Rn, by simp [ey], rfl⟩)]
 ·unfold ey at he
  simp only [List.mem_cons,List.not_mem_nil,or_false] at he
  rcases he with rfl | rfl | rfl | rfl | rfl | rfl | rfl | rfl | rfl | rfl | rfl | rfl | rfl | rfl | rfl | rfl | rfl <;>
   (cases hk; exact ⟨_, _, _, _, _, h1, by decide, by decide, .inl ⟨rfl, rfl⟩⟩)
end Go.Proofs.YtnboooapeopjoaaGreatDoor
end

section
namespace Go.Proofs.YtnboooapeopjoaaGreatDoor
open Go.Eng
open Nat renaming reduceAdd → zA, reduceLT → zB, reduceLeDiff → zC, reduceMul → zD, reduceEqDiff → zE, reduceSub → zF
variable [aA]
set_option maxHeartbeats 4000000
set_option maxRecDepth 100000
theorem DL (n : Nat) : (65536 < (n : Int)) = (65536 < n) := by rw [eq_iff_iff]; omega
theorem xl {α : Type} (f : α → Int) {l : List α} {i : Nat} {u : α} (h : l[i]? = some u) : cB f (l.drop i) = if f u = 0 then cB f (l.drop (i + 1)) else f u := by
 have h1 := List.getElem?_eq_some_iff.1 h
 rw [List.drop_eq_getElem_cons h1.1, h1.2]; rfl
theorem Gs (x : Lb) : ∃ r_, (fun v => v = str x.name) r_ ∧ aT Tryz.prog 247 [aX x] r_ := by
 refine gG tt_ok [] 5 [.tmp 2] (fn := Tryz.f247) Tryz.func247 rfl Tryz.call247 ⟨rfl, rfl, by simp⟩ fun K hK => ?_
 simp only [ck,aX,aj]
 simp only [go_sem]
 exact hK _ rfl
theorem J1 (g : FuncId) (l : List Lb) (hg : ∀ x ∈ l, ∃ r, (fun v => v = str (Lb.name x)) r ∧ aT Tryz.prog g [aX x] r) (hl : l.length ≤ 1048576) : ∃ r_, (fun w => w = num (ix (l.map Lb.name))) r_ ∧ aT Tryz.prog 246 [.slice (l.map aX), .sc (.func (.func g) #[] #[])] r_ := by
 refine gG tt_ok [] 33 [.tmp 4] (fn := Tryz.f246) Tryz.func246 rfl Tryz.call246 ⟨rfl, rfl, by simp⟩ fun K hK => ?_
 simp only [List.length_map,go_sem]
 refine eA tt_ok [] [5] 0 [0,1] (fun vs => ((l.length : Int) - Go.Eng.intOf (vs.headD .undef)).toNat) (fun vs => ∃ i : Nat, vs = [num i] ∧ 1 ≤ i ∧ (1 < i → i ≤ l.length) ∧ ix (l.map Lb.name) = ix ((l.map Lb.name).drop (i - 1))) (by omega) (by simp only [List.length_map,go_sem]) (⟨1, rfl, Nat.le_refl _, fun h => absurd h (by decide), rfl⟩) fun vs hI Z1 cJ => ?_
 obtain ⟨i, rfl, hi, hle, hinv⟩ := hI
 simp only [List.length_map,go_sem]
 refine aV (fun mq => ?_) (fun mq => ?_)
 ·have aZ : i < l.length := by simpa using mq
  obtain ⟨x, hx⟩ : ∃ x, l[i - 1]? = some x := ⟨_, List.getElem?_eq_getElem (by omega)⟩
  obtain ⟨y, hy⟩ : ∃ y, l[i]? = some y := ⟨_, List.getElem?_eq_getElem aZ⟩
  have hw := aU i (by omega)
  have eM : IntKind.i64.wrap ((i : Int) - 1) = ((i - 1 : Nat) : Int) := by rw [IntWalk.i64_in _ (by omega)]; omega
  have ig : ix ((l.map Lb.name).drop (i - 1)) = if B5 (Lb.name x) (Lb.name y) = 0 then ix ((l.map Lb.name).drop i) else B5 (Lb.name x) (Lb.name y) := JO hi (by rw [List.getElem?_map, hx]; rfl) (by rw [List.getElem?_map, hy]; rfl)
  simp only [hw,eM,List.getElem?_map,hx,hy,aX,aj,List.cons_append,List.nil_append,List.length_map,go_sem]
  refine de tt_ok bj [⟨.n, 0, [], [], []⟩, ⟨.n, 0, [], [], []⟩, ⟨.n, 0, [], [], []⟩, ⟨.n, 0, [], [], []⟩, ⟨.r, 0, [], [], []⟩, ⟨.r, 0, [], [], []⟩, ⟨.n, 0, [], [], []⟩, ⟨.n, 0, [], [], []⟩, ⟨.n, 0, [], [], []⟩, ⟨.n, 0, [], [], []⟩, ⟨.r, 0, [], [], []⟩, ⟨.r, 0, [], [], []⟩, ⟨.n, 0, [], [], []⟩, ⟨.n, 0, [], [], []⟩, ⟨.n, 0, [], [], []⟩] 0 (by kernel_rfl) ?_
  simp only [hw,eM,List.getElem?_map,hx,hy,aX,aj,List.cons_append,List.nil_append,List.length_map,go_sem]
  refine cG (by have h := hg x (List.mem_of_getElem? hx); simp only [ck,aX,aj] at h; exact h) ?_
  rintro _ rfl
  simp only [hw,eM,List.getElem?_map,hx,hy,aX,aj,List.cons_append,List.nil_append,List.length_map,go_sem]
  refine cG (by have h := hg y (List.mem_of_getElem? hy); simp only [ck,aX,aj] at h; exact h) ?_
  rintro _ rfl
  simp only [hw,eM,List.getElem?_map,hx,hy,aX,aj,List.cons_append,List.nil_append,List.length_map,go_sem]
  refine cG (vJ _ _) ?_
  rintro _ rfl
  simp only [hw,eM,List.getElem?_map,hx,hy,aX,aj,List.cons_append,List.nil_append,List.length_map,go_sem]
  refine aV (fun my => ?_) (fun my => ?_)
  ·have ba : 5 = ix (l.map Lb.name) := by rw [hinv, ig, UO (of_decide_eq_true my)]; rfl
   simp only [hw,eM,List.getElem?_map,hx,hy,aX,aj,List.cons_append,List.nil_append,List.length_map,go_sem]
   exact hK _ (congrArg num ba)
  ·simp only [hw,eM,List.getElem?_map,hx,hy,aX,aj,List.cons_append,List.nil_append,List.length_map,go_sem]
   refine aV (fun nU => ?_) (fun nU => ?_)
   ·have ba : 1 = ix (l.map Lb.name) := by rw [hinv, ig, UP (of_decide_eq_true nU)]; rfl
    simp only [hw,eM,List.getElem?_map,hx,hy,aX,aj,List.cons_append,List.nil_append,List.length_map,go_sem]
    exact hK _ (congrArg num ba)
   ·have rv : B5 (Lb.name x) (Lb.name y) = 0 := UQ (of_decide_eq_false my) (of_decide_eq_false nU)
    simp only [hw,eM,List.getElem?_map,hx,hy,aX,aj,List.cons_append,List.nil_append,List.length_map,go_sem]
    refine cJ _ (kB (by omega) (by simp only [hw,eM,List.getElem?_map,hx,hy,aX,aj,List.cons_append,List.nil_append,List.length_map,go_sem]) ?_ ?_) <;> simp only [dr,lk,reduceIte,zE]
    ·exact ⟨i + 1, rfl, by omega, fun _ => aZ, by rw [hinv, ig, if_pos rv]; rfl⟩
    ·simp only [Go.Eng.intOf,List.headD_cons]; omega
 ·have gv : ¬ i < l.length := by simpa using mq
  have ba : (0 : Int) = ix (l.map Lb.name) := by rw [hinv]; exact (EU (by rw [List.length_map]; omega)).symm
  simp only [List.length_map,go_sem]
  exact hK _ (congrArg num ba)
theorem BI (hG : aA.g = some 1) (b0 b1 b3 b4 b5 b6 : aC) (hb : ∀ n, 7 ≤ n → az n b0 = true ∧ az n b1 = true ∧ az n b3 = true ∧ az n b4 = true ∧ az n b5 = true ∧ az n b6 = true) (x : Ex) (hw : x.wt ≤ 1048576) : ∃ r_, (fun w => w = num (th x)) r_ ∧ aF Tryz.prog 194 [bT x, .mp 2] ([b0, b1, .map ey 17, b3, b4, b5, b6]) r_ ([b0, b1, .map ey 17, b3, b4, b5, b6]) := by
 refine wX tt_ok [4,11] 77 [.tmp 4] (fn := Tryz.f194) Tryz.func194 rfl Tryz.call194 ⟨rfl, rfl, by simp⟩ fun K hK => ?_
 have fU := fun n h => (hb n h).1
 have jr := fun n h => (hb n h).2.1
 have dL := fun n h => (hb n h).2.2.1
 have lr := fun n h => (hb n h).2.2.2.1
 have lu := fun n h => (hb n h).2.2.2.2.1
 have lv := fun n h => (hb n h).2.2.2.2.2
 have di : ∀ n, (ey.all fun e => au n e.2.2) = true := fun n => vP.below n
 have hlb := x.F1
 have hml := x.mod_lt
 have hwb := x.fX
 have S2 := x.Dg
 simp only [aI,aq]
 obtain ⟨fl, ty, kd, lb, ok, cz, hf, Yh, vS⟩ := Gr (mem := [b0, b1, .map ey 17, b3, b4, b5, b6, .box [num x.kind, str x.mod, str x.name, str x.text, num x.num, .slice (aE x.types), .slice (x.labels.map aX), .slice (bL x.kids)]]) (b := 2) rfl x.kind
 have oQ : Tryz.prog.underlying 9 = some .string := by kernel_rfl
 have sl : ∀ (a : ByteArray) (ty : TypeId), ib Tryz.prog (Builtin.len_ #[9] ty) [.sc (.string a)] = some (num a.size) := fun a ty => iF (P := Tryz.prog) (tt := tt) (T := 9) a oQ ty
 simp only [↓fU,↓jr,↓dL,↓lr,↓lu,↓lv,di,zC,ab,ae,List.length_map,cz,sl,ag,go_sem]
 refine aV (fun qI => ?_) (fun qI => ?_)
 ·have ba : 1 = th x := by
   rcases vS with h | h
   ·rw [h.1] at qI; cases qI
   ·unfold th; rw [h.2]
  simp only [↓fU,↓jr,↓dL,↓lr,↓lu,↓lv,di,zC,ab,ae,List.length_map,cz,sl,ag,go_sem]
  exact hK _ _ ⟨congrArg num ba, rfl⟩
 ·have SO : pA x.kind = some ⟨fl, ty, lb, kd⟩ := by
   rcases vS with h | h
   ·exact h.2
   ·rw [h.1] at qI; cases qI
  have bk : th x = (if nP x fl ty lb kd = false then 1 else if 32 < x.labels.length ∨ 8 < x.types.length ∨ 65536 < x.text.size then 7 else if wy x fl = true then 4 else if ix (x.labels.map Lb.name) ≠ 0 then ix (x.labels.map Lb.name) else if x.kind = 15 ∧ x.name = x.text then 5 else cB s5 x.own) := by unfold th; rw [SO]
  simp only [↓fU,↓jr,↓dL,↓lr,↓lu,↓lv,di,zC,ab,ae,List.length_map,cz,sl,ag,go_sem]
  refine cF (by have h := Nl hG x fl ty kd lb hf (by omega) Yh; rw [aI] at h; simp only [aq] at h; exact h) ?_
  rintro _ rfl
  simp only [↓fU,↓jr,↓dL,↓lr,↓lu,↓lv,di,zC,ab,ae,List.length_map,cz,sl,ag,go_sem]
  refine aV (fun nQ => ?_) (fun nQ => ?_)
  ·have ba : 1 = th x := by rw [bk, if_pos (by simpa using nQ)]
   simp only [↓fU,↓jr,↓dL,↓lr,↓lu,↓lv,di,zC,ab,ae,List.length_map,cz,sl,ag,go_sem]
   exact hK _ _ ⟨congrArg num ba, rfl⟩
  ·have tC : nP x fl ty lb kd = true := by simpa using nQ
   rw [tC, if_neg (by simp)] at bk
   simp only [↓fU,↓jr,↓dL,↓lr,↓lu,↓lv,di,zC,ab,ae,List.length_map,cz,sl,ag,go_sem]
   refine fp tt_ok [4,11] [27] 9 [2,4,5,18] (fun vs => vs = [bl (decide (32 < x.labels.length) || decide (8 < x.types.length) || decide (65536 < x.text.size))]) (fun Z1 cJ => ?_) ?_
   ·simp only [↓fU,↓jr,↓dL,↓lr,↓lu,↓lv,di,zC,ab,ae,List.length_map,cz,sl,ag,go_sem]
    refine kA tt_ok ?_
    simp only [↓fU,↓jr,↓dL,↓lr,↓lu,↓lv,di,zC,ab,ae,List.length_map,cz,sl,ag,go_sem]
    refine aV (fun UX => ?_) (fun UX => ?_)
    ·simp only [↓fU,↓jr,↓dL,↓lr,↓lu,↓lv,di,zC,ab,ae,List.length_map,cz,sl,ag,go_sem]
     refine cJ _ (ct (by omega) (by simp only [↓fU,↓jr,↓dL,↓lr,↓lu,↓lv,di,zC,ab,ae,List.length_map,cz,sl,ag,go_sem]) ?_)
     simp only [dr,lk,reduceIte,zE]
     exact congrArg (fun b => [bl b]) (by clear hK cJ; clear bk vS cz; simp_all [iH, mz, DL] <;> (intros; omega))
    ·simp only [↓fU,↓jr,↓dL,↓lr,↓lu,↓lv,di,zC,ab,ae,List.length_map,cz,sl,ag,go_sem]
     refine aV (fun Ro => ?_) (fun Ro => ?_)
     ·simp only [↓fU,↓jr,↓dL,↓lr,↓lu,↓lv,di,zC,ab,ae,List.length_map,cz,sl,ag,go_sem]
      refine cJ _ (ct (by omega) (by simp only [↓fU,↓jr,↓dL,↓lr,↓lu,↓lv,di,zC,ab,ae,List.length_map,cz,sl,ag,go_sem]) ?_)
      simp only [dr,lk,reduceIte,zE]
      exact congrArg (fun b => [bl b]) (by clear hK cJ; clear bk vS cz; simp_all [iH, mz, DL] <;> (intros; omega))
     ·simp only [↓fU,↓jr,↓dL,↓lr,↓lu,↓lv,di,zC,ab,ae,List.length_map,cz,sl,ag,go_sem]
      refine cJ _ (ct (by omega) (by simp only [↓fU,↓jr,↓dL,↓lr,↓lu,↓lv,di,zC,ab,ae,List.length_map,cz,sl,ag,go_sem]) ?_)
      simp only [dr,lk,reduceIte,zE]
      exact congrArg (fun b => [bl b]) (by clear hK cJ; clear bk vS cz; simp_all [iH, mz, DL] <;> (intros; omega))
   ·intro vs hJ
    obtain rfl := hJ
    simp only [↓fU,↓jr,↓dL,↓lr,↓lu,↓lv,di,zC,ab,ae,List.length_map,cz,sl,ag,go_sem]
    refine aV (fun my => ?_) (fun my => ?_)
    ·have ka : 32 < x.labels.length ∨ 8 < x.types.length ∨ 65536 < x.text.size := by simpa [or_assoc] using my
     have ba : 7 = th x := by rw [bk, if_pos ka]
     simp only [↓fU,↓jr,↓dL,↓lr,↓lu,↓lv,di,zC,ab,ae,List.length_map,cz,sl,ag,go_sem]
     exact hK _ _ ⟨congrArg num ba, rfl⟩
    ·have ka : ¬ (32 < x.labels.length ∨ 8 < x.types.length ∨ 65536 < x.text.size) := by
      intro h
      have h2 : (decide (32 < x.labels.length) || decide (8 < x.types.length) || decide (65536 < x.text.size)) = true := by simpa [or_assoc] using h
      rw [my] at h2; cases h2
     rw [if_neg ka] at bk
     simp only [↓fU,↓jr,↓dL,↓lr,↓lu,↓lv,di,zC,ab,ae,List.length_map,cz,sl,ag,go_sem]
     refine cF (by have h := BG hG x fl ty kd lb hf (by omega) (by omega); rw [aI] at h; simp only [aq] at h; exact h) ?_
     rintro _ rfl
     simp only [↓fU,↓jr,↓dL,↓lr,↓lu,↓lv,di,zC,ab,ae,List.length_map,cz,sl,ag,go_sem]
     refine aV (fun nR => ?_) (fun nR => ?_)
     ·have ba : 4 = th x := by rw [bk, if_pos nR]
      simp only [↓fU,↓jr,↓dL,↓lr,↓lu,↓lv,di,zC,ab,ae,List.length_map,cz,sl,ag,go_sem]
      exact hK _ _ ⟨congrArg num ba, rfl⟩
     ·rw [if_neg (by rw [nR]; simp)] at bk
      simp only [↓fU,↓jr,↓dL,↓lr,↓lu,↓lv,di,zC,ab,ae,List.length_map,cz,sl,ag,go_sem]
      refine cF (J1 247 x.labels (fun l _ => Gs l) (by omega)) ?_
      rintro _ rfl
      simp only [↓fU,↓jr,↓dL,↓lr,↓lu,↓lv,di,zC,ab,ae,List.length_map,cz,sl,ag,go_sem]
      refine aV (fun sg => ?_) (fun sg => ?_)
      ·have ch : ix (x.labels.map Lb.name) ≠ 0 := by simpa using sg
       have ba : ix (x.labels.map Lb.name) = th x := by rw [bk, if_pos ch]
       simp only [↓fU,↓jr,↓dL,↓lr,↓lu,↓lv,di,zC,ab,ae,List.length_map,cz,sl,ag,go_sem]
       exact hK _ _ ⟨congrArg num ba, rfl⟩
      ·have aay : ix (x.labels.map Lb.name) = 0 := by simpa using sg
       rw [if_neg (by simp [aay])] at bk
       simp only [↓fU,↓jr,↓dL,↓lr,↓lu,↓lv,di,zC,ab,ae,List.length_map,cz,sl,ag,go_sem]
       refine fp tt_ok [4,11] [63] 9 [2,4,18,27,44,52] (fun vs => vs = [bl (decide (x.kind = 15) && decide (x.name = x.text))]) (fun Z2 kT => ?_) ?_
       ·simp only [↓fU,↓jr,↓dL,↓lr,↓lu,↓lv,di,zC,ab,ae,List.length_map,cz,sl,ag,go_sem]
        refine kA tt_ok ?_
        simp only [↓fU,↓jr,↓dL,↓lr,↓lu,↓lv,di,zC,ab,ae,List.length_map,cz,sl,ag,go_sem]
        refine aV (fun DI => ?_) (fun DI => ?_)
        ·simp only [↓fU,↓jr,↓dL,↓lr,↓lu,↓lv,di,zC,ab,ae,List.length_map,cz,sl,ag,go_sem]
         refine kT _ (ct (by omega) (by simp only [↓fU,↓jr,↓dL,↓lr,↓lu,↓lv,di,zC,ab,ae,List.length_map,cz,sl,ag,go_sem]) ?_)
         simp only [dr,lk,reduceIte,zE]
         exact congrArg (fun b => [bl b]) (by clear hK kT; clear bk vS cz; simp_all)
        ·simp only [↓fU,↓jr,↓dL,↓lr,↓lu,↓lv,di,zC,ab,ae,List.length_map,cz,sl,ag,go_sem]
         refine kT _ (ct (by omega) (by simp only [↓fU,↓jr,↓dL,↓lr,↓lu,↓lv,di,zC,ab,ae,List.length_map,cz,sl,ag,go_sem]) ?_)
         simp only [dr,lk,reduceIte,zE]
         exact congrArg (fun b => [bl b]) (by clear hK kT; clear bk vS cz; simp_all)
       ·intro vs hJ
        obtain rfl := hJ
        simp only [↓fU,↓jr,↓dL,↓lr,↓lu,↓lv,di,zC,ab,ae,List.length_map,cz,sl,ag,go_sem]
        refine aV (fun Rp => ?_) (fun Rp => ?_)
        ·have ba : 5 = th x := by rw [bk, if_pos (by simpa using Rp)]
         simp only [↓fU,↓jr,↓dL,↓lr,↓lu,↓lv,di,zC,ab,ae,List.length_map,cz,sl,ag,go_sem]
         exact hK _ _ ⟨congrArg num ba, rfl⟩
        ·rw [if_neg (by simpa using Rp)] at bk
         simp only [↓fU,↓jr,↓dL,↓lr,↓lu,↓lv,di,zC,ab,ae,List.length_map,cz,sl,ag,go_sem]
         refine cF (by have h := EL x (by have := x.yE; omega); rw [aI] at h; simp only [aq] at h; exact ⟨_, rfl, h⟩) ?_
         rintro _ rfl
         have G6 := bm Ty.size Ty.size_pos x.own
         have hlen : (aE x.own).length = x.own.length := ab _
         have Rr : ∀ u ∈ x.own, u.wt < x.wt := fun u hu => Ex.QS hu
         obtain ⟨ps, vX⟩ : ∃ ps, ps = x.own := ⟨_, rfl⟩
         rw [← vX] at G6 Rr S2 ⊢
         simp only [↓fU,↓jr,↓dL,↓lr,↓lu,↓lv,di,zC,ab,ae,List.length_map,cz,sl,ag,go_sem]
         refine eA tt_ok [4,11] [67] 9 [18,27,44,52,63,65,66] (fun vs => ((ps.length : Int) - Go.Eng.intOf (vs.headD .undef)).toNat) (fun vs => ∃ i : Nat, vs = [num i] ∧ i ≤ ps.length ∧ cB s5 ps = cB s5 (ps.drop i)) (by omega) (by simp only [↓fU,↓jr,↓dL,↓lr,↓lu,↓lv,di,zC,ab,ae,List.length_map,cz,sl,ag,go_sem]) (⟨0, rfl, Nat.zero_le _, rfl⟩) fun vs hI Z3 wA => ?_
         obtain ⟨i, rfl, hi, hinv⟩ := hI
         simp only [↓fU,↓jr,↓dL,↓lr,↓lu,↓lv,di,zC,ab,ae,List.length_map,cz,sl,ag,go_sem]
         refine aV (fun Rs => ?_) (fun Rs => ?_)
         ·have aZ : i < ps.length := by simpa using Rs
          obtain ⟨u, hu⟩ : ∃ u, ps[i]? = some u := ⟨_, List.getElem?_eq_getElem aZ⟩
          have gz := aU i (by omega)
          have rB := xl s5 hu
          simp only [↓fU,↓jr,↓dL,↓lr,↓lu,↓lv,di,zC,gz,bt,hu,ay,aj,ab,ae,List.length_map,cz,sl,ag,go_sem]
          refine cF (by have h := rj hG u (by have := u.ca; have := Rr u (List.mem_of_getElem? hu); omega) (Ty.UF (by have := Rr u (List.mem_of_getElem? hu); omega)); rw [ay] at h; simp only [aj] at h; exact ⟨_, rfl, h⟩) ?_
          rintro _ rfl
          simp only [↓fU,↓jr,↓dL,↓lr,↓lu,↓lv,di,zC,gz,bt,hu,ay,aj,ab,ae,List.length_map,cz,sl,ag,go_sem]
          refine aV (fun Rt => ?_) (fun Rt => ?_)
          ·have ch : s5 u ≠ 0 := by simpa using Rt
           have ba : s5 u = th x := by rw [bk, ← vX, hinv, rB, if_neg ch]
           simp only [↓fU,↓jr,↓dL,↓lr,↓lu,↓lv,di,zC,gz,bt,hu,ay,aj,ab,ae,List.length_map,cz,sl,ag,go_sem]
           exact hK _ _ ⟨congrArg num ba, rfl⟩
          ·have hz : s5 u = 0 := by simpa using Rt
           simp only [↓fU,↓jr,↓dL,↓lr,↓lu,↓lv,di,zC,gz,bt,hu,ay,aj,ab,ae,List.length_map,cz,sl,ag,go_sem]
           refine wA _ (kB (by omega) (by simp only [↓fU,↓jr,↓dL,↓lr,↓lu,↓lv,di,zC,gz,bt,hu,ay,aj,ab,ae,List.length_map,cz,sl,ag,go_sem]) ?_ ?_) <;> simp only [dr,lk,reduceIte,zE]
           ·exact ⟨i + 1, rfl, aZ, by rw [hinv, rB, if_pos hz]⟩
           ·simp only [Go.Eng.intOf,List.headD_cons]; omega
         ·have gv : ¬ i < ps.length := by simpa using Rs
          have ba : 0 = th x := by rw [bk, ← vX, hinv, List.drop_eq_nil_of_le (by omega)]; rfl
          simp only [↓fU,↓jr,↓dL,↓lr,↓lu,↓lv,di,zC,ab,ae,List.length_map,cz,sl,ag,go_sem]
          exact hK _ _ ⟨congrArg num ba, rfl⟩
theorem Gt (a b c : Nat) : decide (((a + b + c : Nat) : Int) = 0) = (decide (a = 0) && decide (b = 0) && decide (c = 0)) := by
 by_cases h : a + b + c = 0
 ·have : a = 0 ∧ b = 0 ∧ c = 0 := by omega
  simp [this]
 ·rw [decide_eq_false (by omega)]
  symm
  rw [Bool.eq_false_iff]
  intro hc
  simp only [Bool.and_eq_true,decide_eq_true_eq] at hc
  omega
theorem J2 (g : FuncId) (q : Pm → Bool) (l : List Pm) (hg : ∀ x ∈ l, ∃ r, (fun v => v = bl (q x)) r ∧ aT Tryz.prog g [cb x] r) (hl : l.length ≤ 1048576) : ∃ r_, (fun w => ∃ k : Int, w = num k ∧ decide (0 ≤ k) = l.any q) r_ ∧ aT Tryz.prog 232 [.slice (l.map cb), .sc (.func (.func g) #[] #[])] r_ := by
 refine gG tt_ok [] 19 [.tmp 4] (fn := Tryz.f232) Tryz.func232 rfl Tryz.call232 ⟨rfl, rfl, by simp⟩ fun K hK => ?_
 simp only [List.length_map,go_sem]
 refine eA tt_ok [] [8] 0 [0,1,7] (fun vs => ((l.length : Int) - Go.Eng.intOf (vs.headD .undef)).toNat) (fun vs => ∃ i : Nat, vs = [num i] ∧ i ≤ l.length ∧ ∀ j < i, ∀ x, l[j]? = some x → q x = false) (by omega) (by simp only [List.length_map,go_sem]) (⟨0, rfl, Nat.zero_le _, fun j hj => absurd hj (Nat.not_lt_zero j)⟩) fun vs hI Z1 cJ => ?_
 obtain ⟨i, rfl, hi, cK⟩ := hI
 simp only [List.length_map,go_sem]
 refine aV (fun jh => ?_) (fun jh => ?_)
 ·have aZ : i < l.length := by simpa using jh
  have hw := aU i (by omega)
  obtain ⟨x, hx⟩ : ∃ x, l[i]? = some x := ⟨_, List.getElem?_eq_getElem aZ⟩
  simp only [hw,List.getElem?_map,hx,cb,aj,List.cons_append,List.nil_append,List.length_map,go_sem]
  refine cF (by have h := hg x (List.mem_of_getElem? hx); simp only [ck,cb,aj] at h; exact h) ?_
  rintro _ rfl
  simp only [hw,List.getElem?_map,hx,cb,aj,List.cons_append,List.nil_append,List.length_map,go_sem]
  refine aV (fun dG => ?_) (fun dG => ?_)
  ·have ba : decide (0 ≤ (i : Int)) = l.any q := by rw [r6 hx dG]; exact decide_eq_true (Int.natCast_nonneg i)
   simp only [hw,List.getElem?_map,hx,cb,aj,List.cons_append,List.nil_append,List.length_map,go_sem]
   exact hK _ ⟨_, rfl, ba⟩
  ·simp only [hw,List.getElem?_map,hx,cb,aj,List.cons_append,List.nil_append,List.length_map,go_sem]
   refine cJ _ (kB (by omega) (by simp only [hw,List.getElem?_map,hx,cb,aj,List.cons_append,List.nil_append,List.length_map,go_sem]) ?_ ?_) <;> simp only [dr,lk,reduceIte,zE]
   ·refine ⟨i + 1, rfl, aZ, fun j hj => ?_⟩
    rcases Nat.lt_or_ge j i with h | h
    ·exact cK j h
    ·obtain rfl : j = i := by omega
     intro y hy
     rw [hx] at hy; cases hy; exact dG
   ·simp only [Go.Eng.intOf,List.headD_cons]; omega
 ·have gv : ¬ i < l.length := by simpa using jh
  have ba : decide (0 ≤ (-1 : Int)) = l.any q := (any_none fun j hj => cK j (by omega)).symm ▸ rfl
  simp only [List.length_map,go_sem]
  exact hK _ ⟨_, rfl, ba⟩
theorem rl (g : FuncId) (q : Pm → Bool) (l : List Pm) (hg : ∀ x ∈ l, ∃ r, (fun v => v = bl (q x)) r ∧ aT Tryz.prog g [cb x] r) (hl : l.length ≤ 1048576) : ∃ r_, (fun w => w = bl (l.any q)) r_ ∧ aT Tryz.prog 180 [.slice (l.map cb), .sc (.func (.func g) #[] #[])] r_ := by
 refine gG tt_ok [] 9 [.tmp 4] (fn := Tryz.f180) Tryz.func180 rfl Tryz.call180 ⟨rfl, rfl, by simp⟩ fun K hK => ?_
 simp only [go_sem]
 refine cF (J2 g q l hg hl) ?_
 rintro _ ⟨k, rfl, hk⟩
 simp only [go_sem]
 exact hK _ (congrArg bl hk)
theorem Ru (p : Pm) : ∃ r_, (fun w => w = bl (!ft p.bound)) r_ ∧ aT Tryz.prog 181 [cb p] r_ := by
 refine gG tt_ok [] 7 [.tmp 2] (fn := Tryz.f181) Tryz.func181 rfl Tryz.call181 ⟨rfl, rfl, by simp⟩ fun K hK => ?_
 simp only [ck,cb,aj]
 simp only [go_sem]
 refine cF (by have h := e4 p.bound; rw [ay] at h; exact h) ?_
 rintro _ rfl
 simp only [go_sem]
 exact hK _ rfl
theorem Rw (p : Pm) : ∃ r_, (fun w => w = bl (decide (p.dn < 0) || decide (2 < p.dn))) r_ ∧ aT Tryz.prog 183 [cb p] r_ := by
 refine gG tt_ok [] 11 [.tmp 2] (fn := Tryz.f183) Tryz.func183 rfl Tryz.call183 ⟨rfl, rfl, by simp⟩ fun K hK => ?_
 simp only [ck,cb,aj]
 simp only [go_sem]
 refine aV (fun dM => ?_) (fun dM => ?_)
 ·simp only [go_sem]
  exact hK _ (congrArg bl (by clear hK; simp_all <;> (intros; omega)))
 ·simp only [go_sem]
  exact hK _ (congrArg bl (by clear hK; simp_all <;> (intros; omega)))
theorem Rx (p : Pm) : ∃ r_, (fun w => w = bl (!decide (p.dn = 0))) r_ ∧ aT Tryz.prog 185 [cb p] r_ := by
 refine gG tt_ok [] 6 [.tmp 2] (fn := Tryz.f185) Tryz.func185 rfl Tryz.call185 ⟨rfl, rfl, by simp⟩ fun K hK => ?_
 simp only [ck,cb,aj]
 simp only [go_sem]
 exact hK _ (congrArg bl (by simp_all))
theorem Ry (p : Pm) : ∃ r_, (fun w => w = bl (!lg p.name)) r_ ∧ aT Tryz.prog 186 [cb p] r_ := by
 refine gG tt_ok [] 7 [.tmp 2] (fn := Tryz.f186) Tryz.func186 rfl Tryz.call186 ⟨rfl, rfl, by simp⟩ fun K hK => ?_
 simp only [ck,cb,aj]
 simp only [go_sem]
 refine cF (gr _) ?_
 rintro _ rfl
 simp only [go_sem]
 exact hK _ rfl
theorem Rz (d x : Dc) : ∃ r_, (fun w => w = bl (decide (x.name = d.name))) r_ ∧ aF Tryz.prog 135 [aB x, .ptr 0 0] ([.box (dH d)]) r_ ([.box (dH d)]) := by
 refine wX tt_ok [] 9 [.tmp 3] (fn := Tryz.f135) Tryz.func135 rfl Tryz.call135 ⟨rfl, rfl, by simp⟩ fun K hK => ?_
 simp only [ck,dH,aB,aj,aq]
 simp only [ag,go_sem]
 exact hK _ _ ⟨rfl, rfl⟩
theorem RA (b0 : aC) (fU : ∀ n, 2 ≤ n → az n b0 = true) (y x : Im) : ∃ r_, (fun w => w = bl (decide (x.path = y.path) || decide (x.alias = y.alias))) r_ ∧ aF Tryz.prog 131 [a7 x, .ptr 1 0] ([b0, .box [str y.path, str y.alias]]) r_ ([b0, .box [str y.path, str y.alias]]) := by
 refine wX tt_ok [] 16 [.tmp 3] (fn := Tryz.f131) Tryz.func131 rfl Tryz.call131 ⟨rfl, rfl, by simp⟩ fun K hK => ?_
 have sA := fU 2 (Nat.le_refl _)
 simp only [a7]
 simp only [↓sA,ag,go_sem]
 refine aV (fun UY => ?_) (fun UY => ?_)
 ·simp only [↓sA,ag,go_sem]
  exact hK _ _ ⟨congrArg bl (by simp_all), rfl⟩
 ·simp only [↓sA,ag,go_sem]
  exact hK _ _ ⟨congrArg bl (by simp_all), rfl⟩
theorem ta (x : Ex) (h1 : x.types.length ≤ 1048576) (h2 : x.labels.length ≤ 1048576) (h3 : x.kids.length ≤ 1048576) : ∃ r_, (fun w => w = bl (mJ x)) r_ ∧ aT Tryz.prog 184 [bT x] r_ := by
 refine gG tt_ok [] 40 [.tmp 2] (fn := Tryz.f184) Tryz.func184 rfl Tryz.call184 ⟨rfl, rfl, by simp⟩ fun K hK => ?_
 have gz : IntKind.i64.wrap ((x.types.length : Int) + x.labels.length) = ((x.types.length + x.labels.length : Nat) : Int) := qE _ _ (by omega)
 have kg : IntKind.i64.wrap (((x.types.length + x.labels.length : Nat) : Int) + x.kids.length) = ((x.types.length + x.labels.length + x.kids.length : Nat) : Int) := qE _ _ (by omega)
 simp only [aI,aq]
 simp only [ab,ae,List.length_map,ag,gz,kg,go_sem]
 refine aV (fun dM => ?_) (fun dM => ?_)
 ·simp only [ab,ae,List.length_map,ag,gz,kg,go_sem]
  refine aV (fun oT => ?_) (fun oT => ?_)
  ·simp only [ab,ae,List.length_map,ag,gz,kg,go_sem]
   refine aV (fun ml => ?_) (fun ml => ?_)
   ·simp only [ab,ae,List.length_map,ag,gz,kg,go_sem]
    refine aV (fun RB => ?_) (fun RB => ?_)
    ·simp only [ab,ae,List.length_map,ag,gz,kg,go_sem]
     refine aV (fun RC => ?_) (fun RC => ?_)
     ·simp only [ab,ae,List.length_map,ag,gz,kg,go_sem]
      exact hK _ (congrArg bl (by clear hK gz kg h1 h2 h3; unfold mJ fg; first | (rw [Gt]; simp_all; done) | (simp_all; done) | (simp_all <;> omega)))
     ·simp only [ab,ae,List.length_map,ag,gz,kg,go_sem]
      exact hK _ (congrArg bl (by clear hK gz kg h1 h2 h3; unfold mJ fg; first | (rw [Gt]; simp_all; done) | (simp_all; done) | (simp_all <;> omega)))
    ·simp only [ab,ae,List.length_map,ag,gz,kg,go_sem]
     exact hK _ (congrArg bl (by clear hK gz kg h1 h2 h3; unfold mJ fg; first | (rw [Gt]; simp_all; done) | (simp_all; done) | (simp_all <;> omega)))
   ·simp only [ab,ae,List.length_map,ag,gz,kg,go_sem]
    exact hK _ (congrArg bl (by clear hK gz kg h1 h2 h3; unfold mJ fg; first | (rw [Gt]; simp_all; done) | (simp_all; done) | (simp_all <;> omega)))
  ·simp only [ab,ae,List.length_map,ag,gz,kg,go_sem]
   exact hK _ (congrArg bl (by clear hK gz kg h1 h2 h3; unfold mJ fg; first | (rw [Gt]; simp_all; done) | (simp_all; done) | (simp_all <;> omega)))
 ·simp only [ab,ae,List.length_map,ag,gz,kg,go_sem]
  exact hK _ (congrArg bl (by clear hK gz kg h1 h2 h3; unfold mJ fg; first | (rw [Gt]; simp_all; done) | (simp_all; done) | (simp_all <;> omega)))
theorem J3 (d : Dc) (g : FuncId) (q : Dc → Bool) (l : List Dc) (hg : ∀ x ∈ l, ∃ r, (fun v => v = bl (q x)) r ∧ aF Tryz.prog g [aB x, .ptr 0 0] ([.box (dH d)]) r ([.box (dH d)])) (hl : l.length ≤ 1048576) : ∃ r_, (fun w => ∃ k : Int, w = num k ∧ decide (0 ≤ k) = l.any q) r_ ∧ aF Tryz.prog 32 [.slice (l.map aB), .bp (.func g) [] [.ptr 0 0]] ([.box (dH d)]) r_ ([.box (dH d)]) := by
 refine wX tt_ok [] 19 [.tmp 4] (fn := Tryz.f32) Tryz.func32 rfl Tryz.call32 ⟨rfl, rfl, by simp⟩ fun K hK => ?_
 have jC : ∀ n, (dH d).all (au n) = true := fun n => rfl
 simp only [jC,List.length_map,go_sem]
 refine eA tt_ok [] [8] 1 [0,1,7] (fun vs => ((l.length : Int) - Go.Eng.intOf (vs.headD .undef)).toNat) (fun vs => ∃ i : Nat, vs = [num i] ∧ i ≤ l.length ∧ ∀ j < i, ∀ x, l[j]? = some x → q x = false) (by omega) (by simp only [jC,List.length_map,go_sem]) (⟨0, rfl, Nat.zero_le _, fun j hj => absurd hj (Nat.not_lt_zero j)⟩) fun vs hI Z1 cJ => ?_
 obtain ⟨i, rfl, hi, cK⟩ := hI
 simp only [jC,List.length_map,go_sem]
 refine aV (fun jh => ?_) (fun jh => ?_)
 ·have aZ : i < l.length := by simpa using jh
  have hw := aU i (by omega)
  obtain ⟨x, hx⟩ : ∃ x, l[i]? = some x := ⟨_, List.getElem?_eq_getElem aZ⟩
  simp only [jC,hw,List.getElem?_map,hx,aB,aj,aq,List.cons_append,List.nil_append,List.length_map,go_sem]
  refine cS (by have h := hg x (List.mem_of_getElem? hx); simp only [ck,aB,aj,aq] at h; exact h) ?_
  rintro _ rfl
  simp only [jC,hw,List.getElem?_map,hx,aB,aj,aq,List.cons_append,List.nil_append,List.length_map,go_sem]
  refine aV (fun dG => ?_) (fun dG => ?_)
  ·have ba : decide (0 ≤ (i : Int)) = l.any q := by rw [r6 hx dG]; exact decide_eq_true (Int.natCast_nonneg i)
   simp only [jC,hw,List.getElem?_map,hx,aB,aj,aq,List.cons_append,List.nil_append,List.length_map,go_sem]
   exact hK _ _ ⟨⟨_, rfl, ba⟩, rfl⟩
  ·simp only [jC,hw,List.getElem?_map,hx,aB,aj,aq,List.cons_append,List.nil_append,List.length_map,go_sem]
   refine cJ _ (kB (by omega) (by simp only [jC,hw,List.getElem?_map,hx,aB,aj,aq,List.cons_append,List.nil_append,List.length_map,go_sem]) ?_ ?_) <;> simp only [dr,lk,reduceIte,zE]
   ·refine ⟨i + 1, rfl, aZ, fun j hj => ?_⟩
    rcases Nat.lt_or_ge j i with h | h
    ·exact cK j h
    ·obtain rfl : j = i := by omega
     intro y hy
     rw [hx] at hy; cases hy; exact dG
   ·simp only [Go.Eng.intOf,List.headD_cons]; omega
 ·have gv : ¬ i < l.length := by simpa using jh
  have ba : decide (0 ≤ (-1 : Int)) = l.any q := (any_none fun j hj => cK j (by omega)).symm ▸ rfl
  simp only [jC,List.length_map,go_sem]
  exact hK _ _ ⟨⟨_, rfl, ba⟩, rfl⟩
theorem J4 (d : Dc) (g : FuncId) (q : Dc → Bool) (l : List Dc) (hg : ∀ x ∈ l, ∃ r, (fun v => v = bl (q x)) r ∧ aF Tryz.prog g [aB x, .ptr 0 0] ([.box (dH d)]) r ([.box (dH d)])) (hl : l.length ≤ 1048576) : ∃ r_, (fun w => w = bl (l.any q)) r_ ∧ aF Tryz.prog 134 [.slice (l.map aB), .bp (.func g) [] [.ptr 0 0]] ([.box (dH d)]) r_ ([.box (dH d)]) := by
 refine wX tt_ok [] 9 [.tmp 4] (fn := Tryz.f134) Tryz.func134 rfl Tryz.call134 ⟨rfl, rfl, by simp⟩ fun K hK => ?_
 have jC : ∀ n, (dH d).all (au n) = true := fun n => rfl
 simp only [jC,go_sem]
 refine cS (J3 d g q l hg hl) ?_
 rintro _ ⟨k, rfl, hk⟩
 simp only [jC,go_sem]
 exact hK _ _ ⟨congrArg bl hk, rfl⟩
theorem J5 (b0 : aC) (fU : ∀ n, 2 ≤ n → az n b0 = true) (y : Im) (g : FuncId) (q : Im → Bool) (l : List Im) (hg : ∀ x ∈ l, ∃ r, (fun v => v = bl (q x)) r ∧ aF Tryz.prog g [a7 x, .ptr 1 0] ([b0, .box [str y.path, str y.alias]]) r ([b0, .box [str y.path, str y.alias]])) (hl : l.length ≤ 1048576) : ∃ r_, (fun w => ∃ k : Int, w = num k ∧ decide (0 ≤ k) = l.any q) r_ ∧ aF Tryz.prog 52 [.slice (l.map a7), .bp (.func g) [] [.ptr 1 0]] ([b0, .box [str y.path, str y.alias]]) r_ ([b0, .box [str y.path, str y.alias]]) := by
 refine wX tt_ok [] 19 [.tmp 4] (fn := Tryz.f52) Tryz.func52 rfl Tryz.call52 ⟨rfl, rfl, by simp⟩ fun K hK => ?_
 have sA := fU 2 (Nat.le_refl _)
 simp only [↓sA,List.length_map,go_sem]
 refine eA tt_ok [] [8] 2 [0,1,7] (fun vs => ((l.length : Int) - Go.Eng.intOf (vs.headD .undef)).toNat) (fun vs => ∃ i : Nat, vs = [num i] ∧ i ≤ l.length ∧ ∀ j < i, ∀ x, l[j]? = some x → q x = false) (by omega) (by simp only [↓sA,List.length_map,go_sem]) (⟨0, rfl, Nat.zero_le _, fun j hj => absurd hj (Nat.not_lt_zero j)⟩) fun vs hI Z1 cJ => ?_
 obtain ⟨i, rfl, hi, cK⟩ := hI
 simp only [↓sA,List.length_map,go_sem]
 refine aV (fun jh => ?_) (fun jh => ?_)
 ·have aZ : i < l.length := by simpa using jh
  have hw := aU i (by omega)
  obtain ⟨x, hx⟩ : ∃ x, l[i]? = some x := ⟨_, List.getElem?_eq_getElem aZ⟩
  simp only [↓sA,hw,List.getElem?_map,hx,a7,List.length_map,go_sem]
  refine cS (by have h := hg x (List.mem_of_getElem? hx); simp only [a7] at h; exact h) ?_
  rintro _ rfl
  simp only [↓sA,hw,List.getElem?_map,hx,a7,List.length_map,go_sem]
  refine aV (fun dG => ?_) (fun dG => ?_)
  ·have ba : decide (0 ≤ (i : Int)) = l.any q := by rw [r6 hx dG]; exact decide_eq_true (Int.natCast_nonneg i)
   simp only [↓sA,hw,List.getElem?_map,hx,a7,List.length_map,go_sem]
   exact hK _ _ ⟨⟨_, rfl, ba⟩, rfl⟩
  ·simp only [↓sA,hw,List.getElem?_map,hx,a7,List.length_map,go_sem]
   refine cJ _ (kB (by omega) (by simp only [↓sA,hw,List.getElem?_map,hx,a7,List.length_map,go_sem]) ?_ ?_) <;> simp only [dr,lk,reduceIte,zE]
   ·refine ⟨i + 1, rfl, aZ, fun j hj => ?_⟩
    rcases Nat.lt_or_ge j i with h | h
    ·exact cK j h
    ·obtain rfl : j = i := by omega
     intro y hy
     rw [hx] at hy; cases hy; exact dG
   ·simp only [Go.Eng.intOf,List.headD_cons]; omega
 ·have gv : ¬ i < l.length := by simpa using jh
  have ba : decide (0 ≤ (-1 : Int)) = l.any q := (any_none fun j hj => cK j (by omega)).symm ▸ rfl
  simp only [↓sA,List.length_map,go_sem]
  exact hK _ _ ⟨⟨_, rfl, ba⟩, rfl⟩
theorem J6 (b0 : aC) (fU : ∀ n, 2 ≤ n → az n b0 = true) (y : Im) (g : FuncId) (q : Im → Bool) (l : List Im) (hg : ∀ x ∈ l, ∃ r, (fun v => v = bl (q x)) r ∧ aF Tryz.prog g [a7 x, .ptr 1 0] ([b0, .box [str y.path, str y.alias]]) r ([b0, .box [str y.path, str y.alias]])) (hl : l.length ≤ 1048576) : ∃ r_, (fun w => w = bl (l.any q)) r_ ∧ aF Tryz.prog 17 [.slice (l.map a7), .bp (.func g) [] [.ptr 1 0]] ([b0, .box [str y.path, str y.alias]]) r_ ([b0, .box [str y.path, str y.alias]]) := by
 refine wX tt_ok [] 9 [.tmp 4] (fn := Tryz.f17) Tryz.func17 rfl Tryz.call17 ⟨rfl, rfl, by simp⟩ fun K hK => ?_
 have sA := fU 2 (Nat.le_refl _)
 simp only [↓sA,go_sem]
 refine cS (J5 b0 fU y g q l hg hl) ?_
 rintro _ ⟨k, rfl, hk⟩
 simp only [↓sA,go_sem]
 exact hK _ _ ⟨congrArg bl hk, rfl⟩
theorem J7 (d : Dc) : vj d = (!(d.deprecated && !d.exported || !decide (d.note = ⟨#[]⟩) && !d.deprecated) &&
  (if d.kind = 0 then !(d.params.any (fun p => !ft p.bound)) && !(d.params.any (fun p => decide (p.dn < 0) || decide (2 < p.dn))) && mJ d.expr && decide (d.mod = ⟨#[]⟩) && decide (d.target = ⟨#[]⟩)
   else if d.kind = 1 then !(d.params.any (fun p => !decide (p.dn = 0))) && ft d.lower && ft d.upper && decide (d.mod = ⟨#[]⟩) && decide (d.target = ⟨#[]⟩)
   else if d.kind = 2 then decide (d.params.length = 0) && ft d.lower && ft d.upper && ft d.type && mJ d.expr else false)) := by
  rw [Bool.not_or]; rfl
theorem BJ (d : Dc) (hp : d.params.length ≤ 1048576) (h1 : d.expr.types.length ≤ 1048576) (h2 : d.expr.labels.length ≤ 1048576) (h3 : d.expr.kids.length ≤ 1048576)  : ∃ r_, (fun w => w = bl (vj d)) r_ ∧ aT Tryz.prog 132 [aB d] r_ := by
  refine gG tt_ok [1] 107 [.tmp 2] (fn := Tryz.f132) Tryz.func132 rfl Tryz.call132 ⟨rfl, rfl, by simp⟩ fun K hK => ?_
  have mA := J7 d
  have p7 := rl 181 (fun p => !ft p.bound) d.params (fun p _ => Ru p) hp
  have ru := rl 183 (fun p => decide (p.dn < 0) || decide (2 < p.dn)) d.params (fun p _ => Rw p) hp
  have yS := rl 185 (fun p => !decide (p.dn = 0)) d.params (fun p _ => Rx p) hp
  obtain ⟨p1, XS⟩ : ∃ b, d.params.any (fun p => !ft p.bound) = b := ⟨_, rfl⟩
  obtain ⟨p2, R8⟩ : ∃ b, d.params.any (fun p => decide (p.dn < 0) || decide (2 < p.dn)) = b := ⟨_, rfl⟩
  obtain ⟨p3, hp3⟩ : ∃ b, d.params.any (fun p => !decide (p.dn = 0)) = b := ⟨_, rfl⟩
  rw [XS] at p7 mA
  rw [R8] at ru mA
  rw [hp3] at yS mA
  clear XS R8 hp3
  obtain ⟨zl, zq⟩ : ∃ b, ft d.lower = b := ⟨_, rfl⟩
  obtain ⟨zu, hzu⟩ : ∃ b, ft d.upper = b := ⟨_, rfl⟩
  obtain ⟨zt, hzt⟩ : ∃ b, ft d.type = b := ⟨_, rfl⟩
  obtain ⟨zx, N6⟩ : ∃ b, mJ d.expr = b := ⟨_, rfl⟩
  obtain ⟨zm, dJ⟩ : ∃ b, decide (d.mod = ⟨#[]⟩) = b := ⟨_, rfl⟩
  obtain ⟨zg, iy⟩ : ∃ b, decide (d.target = ⟨#[]⟩) = b := ⟨_, rfl⟩
  obtain ⟨zn, iz⟩ : ∃ b, decide (d.note = ⟨#[]⟩) = b := ⟨_, rfl⟩
  rw [zq, hzu, hzt, N6, dJ, iy, iz] at mA
  simp only [ck,aB,aj,aq]
  simp only [ab,ae,List.length_map,ag,dJ,iy,iz,go_sem]
  refine fp tt_ok [1] [22] 1 [1,2] (fun vs => vs = [bl (d.deprecated && !d.exported || !zn && !d.deprecated)]) (fun Z1 cJ => ?_) ?_
  · skip
    simp only [ab,ae,List.length_map,ag,dJ,iy,iz,go_sem]
    refine kA tt_ok ?_
    simp only [ab,ae,List.length_map,ag,dJ,iy,iz,go_sem]
    refine aV (fun dQ => ?_) (fun dQ => ?_)
    · skip
      simp only [ab,ae,List.length_map,ag,dJ,iy,iz,go_sem]
      refine aV (fun oS => ?_) (fun oS => ?_)
      · skip
        simp only [ab,ae,List.length_map,ag,dJ,iy,iz,go_sem]
        refine cJ _ (ct (by omega) (by simp only [ab,ae,List.length_map,ag,dJ,iy,iz,go_sem]) ?_)
        simp only [dr,lk,reduceIte,zE]
        exact congrArg (fun b => [bl b]) (by clear hK cJ; first | (simp only [*,Bool.not_true,Bool.not_false,Bool.true_and,Bool.and_true,Bool.false_and,Bool.and_false,Bool.true_or,Bool.or_true,Bool.false_or,Bool.or_false,Bool.or_self]; done) | simp_all)
      · skip
        simp only [ab,ae,List.length_map,ag,dJ,iy,iz,go_sem]
        refine aV (fun u4 => ?_) (fun u4 => ?_)
        · skip
          simp only [ab,ae,List.length_map,ag,dJ,iy,iz,go_sem]
          refine cJ _ (ct (by omega) (by simp only [ab,ae,List.length_map,ag,dJ,iy,iz,go_sem]) ?_)
          simp only [dr,lk,reduceIte,zE]
          exact congrArg (fun b => [bl b]) (by clear hK cJ; first | (simp only [*,Bool.not_true,Bool.not_false,Bool.true_and,Bool.and_true,Bool.false_and,Bool.and_false,Bool.true_or,Bool.or_true,Bool.false_or,Bool.or_false,Bool.or_self]; done) | simp_all)
        · skip
          simp only [ab,ae,List.length_map,ag,dJ,iy,iz,go_sem]
          refine cJ _ (ct (by omega) (by simp only [ab,ae,List.length_map,ag,dJ,iy,iz,go_sem]) ?_)
          simp only [dr,lk,reduceIte,zE]
          exact congrArg (fun b => [bl b]) (by clear hK cJ; first | (simp only [*,Bool.not_true,Bool.not_false,Bool.true_and,Bool.and_true,Bool.false_and,Bool.and_false,Bool.true_or,Bool.or_true,Bool.false_or,Bool.or_false,Bool.or_self]; done) | simp_all)
    · skip
      simp only [ab,ae,List.length_map,ag,dJ,iy,iz,go_sem]
      refine aV (fun u4 => ?_) (fun u4 => ?_)
      · skip
        simp only [ab,ae,List.length_map,ag,dJ,iy,iz,go_sem]
        refine cJ _ (ct (by omega) (by simp only [ab,ae,List.length_map,ag,dJ,iy,iz,go_sem]) ?_)
        simp only [dr,lk,reduceIte,zE]
        exact congrArg (fun b => [bl b]) (by clear hK cJ; first | (simp only [*,Bool.not_true,Bool.not_false,Bool.true_and,Bool.and_true,Bool.false_and,Bool.and_false,Bool.true_or,Bool.or_true,Bool.false_or,Bool.or_false,Bool.or_self]; done) | simp_all)
      · skip
        simp only [ab,ae,List.length_map,ag,dJ,iy,iz,go_sem]
        refine cJ _ (ct (by omega) (by simp only [ab,ae,List.length_map,ag,dJ,iy,iz,go_sem]) ?_)
        simp only [dr,lk,reduceIte,zE]
        exact congrArg (fun b => [bl b]) (by clear hK cJ; first | (simp only [*,Bool.not_true,Bool.not_false,Bool.true_and,Bool.and_true,Bool.false_and,Bool.and_false,Bool.true_or,Bool.or_true,Bool.false_or,Bool.or_false,Bool.or_self]; done) | simp_all)
  · intro vs hJ
    obtain rfl := hJ
    simp only [ab,ae,List.length_map,ag,dJ,iy,iz,go_sem]
    refine aV (fun aaA => ?_) (fun aaA => ?_)
    · skip
      simp only [ab,ae,List.length_map,ag,dJ,iy,iz,go_sem]
      exact hK _ (congrArg bl (by clear hK p7 ru yS; rw [mA]; clear mA; first | (simp only [*,Bool.not_true,Bool.not_false,Bool.true_and,Bool.and_true,Bool.false_and,Bool.and_false,Bool.true_or,Bool.or_true,Bool.false_or,Bool.or_false,Bool.or_self,if_false,if_true,reduceIte,Int.reduceEq]; done) | (simp_all; done)))
    · skip
      simp only [ab,ae,List.length_map,ag,dJ,iy,iz,go_sem]
      refine cF (p7) ?_
      rintro _ rfl
      simp only [ab,ae,List.length_map,ag,dJ,iy,iz,go_sem]
      refine aV (fun vt => ?_) (fun vt => ?_)
      · skip
        have Td : d.kind = 0 := of_decide_eq_true vt
        simp only [ab,ae,List.length_map,ag,dJ,iy,iz,go_sem]
        refine cF (ru) ?_
        rintro _ rfl
        simp only [ab,ae,List.length_map,ag,dJ,iy,iz,go_sem]
        refine aV (fun UZ => ?_) (fun UZ => ?_)
        · skip
          simp only [ab,ae,List.length_map,ag,dJ,iy,iz,go_sem]
          refine aV (fun U0 => ?_) (fun U0 => ?_)
          · skip
            simp only [ab,ae,List.length_map,ag,dJ,iy,iz,go_sem]
            refine cF (by have h := ta d.expr (by omega) (by omega) (by omega); rw [N6, aI] at h; simp only [aq] at h; exact h) ?_
            rintro _ rfl
            simp only [ab,ae,List.length_map,ag,dJ,iy,iz,go_sem]
            refine aV (fun RD => ?_) (fun RD => ?_)
            · skip
              simp only [ab,ae,List.length_map,ag,dJ,iy,iz,go_sem]
              refine aV (fun RE => ?_) (fun RE => ?_)
              · skip
                simp only [ab,ae,List.length_map,ag,dJ,iy,iz,go_sem]
                exact hK _ (congrArg bl (by clear hK p7 ru yS; rw [mA]; clear mA; first | (simp only [*,Bool.not_true,Bool.not_false,Bool.true_and,Bool.and_true,Bool.false_and,Bool.and_false,Bool.true_or,Bool.or_true,Bool.false_or,Bool.or_false,Bool.or_self,if_false,if_true,reduceIte,Int.reduceEq]; done) | (simp_all; done)))
              · skip
                simp only [ab,ae,List.length_map,ag,dJ,iy,iz,go_sem]
                exact hK _ (congrArg bl (by clear hK p7 ru yS; rw [mA]; clear mA; first | (simp only [*,Bool.not_true,Bool.not_false,Bool.true_and,Bool.and_true,Bool.false_and,Bool.and_false,Bool.true_or,Bool.or_true,Bool.false_or,Bool.or_false,Bool.or_self,if_false,if_true,reduceIte,Int.reduceEq]; done) | (simp_all; done)))
            · skip
              simp only [ab,ae,List.length_map,ag,dJ,iy,iz,go_sem]
              exact hK _ (congrArg bl (by clear hK p7 ru yS; rw [mA]; clear mA; first | (simp only [*,Bool.not_true,Bool.not_false,Bool.true_and,Bool.and_true,Bool.false_and,Bool.and_false,Bool.true_or,Bool.or_true,Bool.false_or,Bool.or_false,Bool.or_self,if_false,if_true,reduceIte,Int.reduceEq]; done) | (simp_all; done)))
          · skip
            simp only [ab,ae,List.length_map,ag,dJ,iy,iz,go_sem]
            exact hK _ (congrArg bl (by clear hK p7 ru yS; rw [mA]; clear mA; first | (simp only [*,Bool.not_true,Bool.not_false,Bool.true_and,Bool.and_true,Bool.false_and,Bool.and_false,Bool.true_or,Bool.or_true,Bool.false_or,Bool.or_false,Bool.or_self,if_false,if_true,reduceIte,Int.reduceEq]; done) | (simp_all; done)))
        · skip
          simp only [ab,ae,List.length_map,ag,dJ,iy,iz,go_sem]
          exact hK _ (congrArg bl (by clear hK p7 ru yS; rw [mA]; clear mA; first | (simp only [*,Bool.not_true,Bool.not_false,Bool.true_and,Bool.and_true,Bool.false_and,Bool.and_false,Bool.true_or,Bool.or_true,Bool.false_or,Bool.or_false,Bool.or_self,if_false,if_true,reduceIte,Int.reduceEq]; done) | (simp_all; done)))
      · skip
        have Td : ¬ d.kind = 0 := of_decide_eq_false vt
        simp only [ab,ae,List.length_map,ag,dJ,iy,iz,go_sem]
        refine aV (fun DN => ?_) (fun DN => ?_)
        · skip
          have ff : d.kind = 1 := of_decide_eq_true DN
          simp only [ab,ae,List.length_map,ag,dJ,iy,iz,go_sem]
          refine cF (yS) ?_
          rintro _ rfl
          simp only [ab,ae,List.length_map,ag,dJ,iy,iz,go_sem]
          refine aV (fun eD => ?_) (fun eD => ?_)
          · skip
            simp only [ab,ae,List.length_map,ag,dJ,iy,iz,go_sem]
            refine cF (by have h := e4 d.lower; rw [zq, ay] at h; exact h) ?_
            rintro _ rfl
            simp only [ab,ae,List.length_map,ag,dJ,iy,iz,go_sem]
            refine aV (fun RF => ?_) (fun RF => ?_)
            · skip
              simp only [ab,ae,List.length_map,ag,dJ,iy,iz,go_sem]
              refine cF (by have h := e4 d.upper; rw [hzu, ay] at h; exact h) ?_
              rintro _ rfl
              simp only [ab,ae,List.length_map,ag,dJ,iy,iz,go_sem]
              refine aV (fun Nn => ?_) (fun Nn => ?_)
              · skip
                simp only [ab,ae,List.length_map,ag,dJ,iy,iz,go_sem]
                refine aV (fun Np => ?_) (fun Np => ?_)
                · skip
                  simp only [ab,ae,List.length_map,ag,dJ,iy,iz,go_sem]
                  exact hK _ (congrArg bl (by clear hK p7 ru yS; rw [mA]; clear mA; first | (simp only [*,Bool.not_true,Bool.not_false,Bool.true_and,Bool.and_true,Bool.false_and,Bool.and_false,Bool.true_or,Bool.or_true,Bool.false_or,Bool.or_false,Bool.or_self,if_false,if_true,reduceIte,Int.reduceEq]; done) | (simp_all; done)))
                · skip
                  simp only [ab,ae,List.length_map,ag,dJ,iy,iz,go_sem]
                  exact hK _ (congrArg bl (by clear hK p7 ru yS; rw [mA]; clear mA; first | (simp only [*,Bool.not_true,Bool.not_false,Bool.true_and,Bool.and_true,Bool.false_and,Bool.and_false,Bool.true_or,Bool.or_true,Bool.false_or,Bool.or_false,Bool.or_self,if_false,if_true,reduceIte,Int.reduceEq]; done) | (simp_all; done)))
              · skip
                simp only [ab,ae,List.length_map,ag,dJ,iy,iz,go_sem]
                exact hK _ (congrArg bl (by clear hK p7 ru yS; rw [mA]; clear mA; first | (simp only [*,Bool.not_true,Bool.not_false,Bool.true_and,Bool.and_true,Bool.false_and,Bool.and_false,Bool.true_or,Bool.or_true,Bool.false_or,Bool.or_false,Bool.or_self,if_false,if_true,reduceIte,Int.reduceEq]; done) | (simp_all; done)))
            · skip
              simp only [ab,ae,List.length_map,ag,dJ,iy,iz,go_sem]
              exact hK _ (congrArg bl (by clear hK p7 ru yS; rw [mA]; clear mA; first | (simp only [*,Bool.not_true,Bool.not_false,Bool.true_and,Bool.and_true,Bool.false_and,Bool.and_false,Bool.true_or,Bool.or_true,Bool.false_or,Bool.or_false,Bool.or_self,if_false,if_true,reduceIte,Int.reduceEq]; done) | (simp_all; done)))
          · skip
            simp only [ab,ae,List.length_map,ag,dJ,iy,iz,go_sem]
            exact hK _ (congrArg bl (by clear hK p7 ru yS; rw [mA]; clear mA; first | (simp only [*,Bool.not_true,Bool.not_false,Bool.true_and,Bool.and_true,Bool.false_and,Bool.and_false,Bool.true_or,Bool.or_true,Bool.false_or,Bool.or_false,Bool.or_self,if_false,if_true,reduceIte,Int.reduceEq]; done) | (simp_all; done)))
        · skip
          have ff : ¬ d.kind = 1 := of_decide_eq_false DN
          simp only [ab,ae,List.length_map,ag,dJ,iy,iz,go_sem]
          refine aV (fun RG => ?_) (fun RG => ?_)
          · skip
            have iU : d.kind = 2 := of_decide_eq_true RG
            simp only [ab,ae,List.length_map,ag,dJ,iy,iz,go_sem]
            refine aV (fun vM => ?_) (fun vM => ?_)
            · skip
              have aaB : decide (d.params.length = 0) = true := by simpa only [fc] using vM
              simp only [ab,ae,List.length_map,ag,dJ,iy,iz,go_sem]
              refine cF (by have h := e4 d.lower; rw [zq, ay] at h; exact h) ?_
              rintro _ rfl
              simp only [ab,ae,List.length_map,ag,dJ,iy,iz,go_sem]
              refine aV (fun RH => ?_) (fun RH => ?_)
              · skip
                simp only [ab,ae,List.length_map,ag,dJ,iy,iz,go_sem]
                refine cF (by have h := e4 d.upper; rw [hzu, ay] at h; exact h) ?_
                rintro _ rfl
                simp only [ab,ae,List.length_map,ag,dJ,iy,iz,go_sem]
                refine aV (fun Nq => ?_) (fun Nq => ?_)
                · skip
                  simp only [ab,ae,List.length_map,ag,dJ,iy,iz,go_sem]
                  refine cF (by have h := e4 d.type; rw [hzt, ay] at h; exact h) ?_
                  rintro _ rfl
                  simp only [ab,ae,List.length_map,ag,dJ,iy,iz,go_sem]
                  refine aV (fun Nr => ?_) (fun Nr => ?_)
                  · skip
                    simp only [ab,ae,List.length_map,ag,dJ,iy,iz,go_sem]
                    refine cF (by have h := ta d.expr (by omega) (by omega) (by omega); rw [N6, aI] at h; simp only [aq] at h; exact h) ?_
                    rintro _ rfl
                    simp only [ab,ae,List.length_map,ag,dJ,iy,iz,go_sem]
                    exact hK _ (congrArg bl (by clear hK p7 ru yS; rw [mA]; clear mA; first | (simp only [*,Bool.not_true,Bool.not_false,Bool.true_and,Bool.and_true,Bool.false_and,Bool.and_false,Bool.true_or,Bool.or_true,Bool.false_or,Bool.or_false,Bool.or_self,if_false,if_true,reduceIte,Int.reduceEq]; done) | (simp_all; done)))
                  · skip
                    simp only [ab,ae,List.length_map,ag,dJ,iy,iz,go_sem]
                    exact hK _ (congrArg bl (by clear hK p7 ru yS; rw [mA]; clear mA; first | (simp only [*,Bool.not_true,Bool.not_false,Bool.true_and,Bool.and_true,Bool.false_and,Bool.and_false,Bool.true_or,Bool.or_true,Bool.false_or,Bool.or_false,Bool.or_self,if_false,if_true,reduceIte,Int.reduceEq]; done) | (simp_all; done)))
                · skip
                  simp only [ab,ae,List.length_map,ag,dJ,iy,iz,go_sem]
                  exact hK _ (congrArg bl (by clear hK p7 ru yS; rw [mA]; clear mA; first | (simp only [*,Bool.not_true,Bool.not_false,Bool.true_and,Bool.and_true,Bool.false_and,Bool.and_false,Bool.true_or,Bool.or_true,Bool.false_or,Bool.or_false,Bool.or_self,if_false,if_true,reduceIte,Int.reduceEq]; done) | (simp_all; done)))
              · skip
                simp only [ab,ae,List.length_map,ag,dJ,iy,iz,go_sem]
                exact hK _ (congrArg bl (by clear hK p7 ru yS; rw [mA]; clear mA; first | (simp only [*,Bool.not_true,Bool.not_false,Bool.true_and,Bool.and_true,Bool.false_and,Bool.and_false,Bool.true_or,Bool.or_true,Bool.false_or,Bool.or_false,Bool.or_self,if_false,if_true,reduceIte,Int.reduceEq]; done) | (simp_all; done)))
            · skip
              have aaB : decide (d.params.length = 0) = false := by simpa only [fc] using vM
              simp only [ab,ae,List.length_map,ag,dJ,iy,iz,go_sem]
              exact hK _ (congrArg bl (by clear hK p7 ru yS; rw [mA]; clear mA; first | (simp only [*,Bool.not_true,Bool.not_false,Bool.true_and,Bool.and_true,Bool.false_and,Bool.and_false,Bool.true_or,Bool.or_true,Bool.false_or,Bool.or_false,Bool.or_self,if_false,if_true,reduceIte,Int.reduceEq]; done) | (simp_all; done)))
          · skip
            have iU : ¬ d.kind = 2 := of_decide_eq_false RG
            simp only [ab,ae,List.length_map,ag,dJ,iy,iz,go_sem]
            exact hK _ (congrArg bl (by clear hK p7 ru yS; rw [mA]; clear mA; first | (simp only [*,Bool.not_true,Bool.not_false,Bool.true_and,Bool.and_true,Bool.false_and,Bool.and_false,Bool.true_or,Bool.or_true,Bool.false_or,Bool.or_false,Bool.or_self,if_false,if_true,reduceIte,Int.reduceEq]; done) | (simp_all; done)))
theorem Ns (d : Dc) : yG d = (!(d.params.any (fun p => !lg p.name)) && (if d.kind = 0 then lg d.name else if d.kind = 1 then bM d.name else (bM d.name && bM d.target || lg d.name && lg d.target) && !decide (d.mod = ⟨#[]⟩) && yw d.mod)) := rfl
theorem Gu (hG : aA.g = some 1) (d : Dc) (hp : d.params.length ≤ 1048576) (hm : d.mod.size ≤ 1048576) : ∃ r_, (fun w => w = bl (yG d)) r_ ∧ aT Tryz.prog 133 [aB d] r_ := by
 refine gG tt_ok [8] 48 [.tmp 2] (fn := Tryz.f133) Tryz.func133 rfl Tryz.call133 ⟨rfl, rfl, by simp⟩ fun K hK => ?_
 have EV := Ns d
 have OG := rl 186 (fun p => !lg p.name) d.params (fun p _ => Ry p) hp
 obtain ⟨p4, hp4⟩ : ∃ b, d.params.any (fun p => !lg p.name) = b := ⟨_, rfl⟩
 rw [hp4] at OG EV
 clear hp4
 obtain ⟨zm, dJ⟩ : ∃ b, decide (d.mod = ⟨#[]⟩) = b := ⟨_, rfl⟩
 rw [dJ] at EV
 simp only [ck,aB,aj,aq]
 simp only [List.length_map,ag,dJ,go_sem]
 refine cF (OG) ?_
 rintro _ rfl
 simp only [List.length_map,ag,dJ,go_sem]
 refine aV (fun hc6 => ?_) (fun hc6 => ?_)
 ·simp only [List.length_map,ag,dJ,go_sem]
  exact hK _ (congrArg bl (by clear hK OG; rw [EV]; clear EV; first | (simp only [*,Bool.not_true,Bool.not_false,Bool.true_and,Bool.and_true,Bool.false_and,Bool.and_false,if_false,if_true,reduceIte]; done) | (simp_all; done)))
 ·simp only [List.length_map,ag,dJ,go_sem]
  refine aV (fun jh => ?_) (fun jh => ?_)
  ·have Td : d.kind = 0 := of_decide_eq_true jh
   simp only [List.length_map,ag,dJ,go_sem]
   refine cF (gr _) ?_
   rintro _ rfl
   simp only [List.length_map,ag,dJ,go_sem]
   exact hK _ (congrArg bl (by clear hK OG; rw [EV]; clear EV; first | (simp only [*,Bool.not_true,Bool.not_false,Bool.true_and,Bool.and_true,Bool.false_and,Bool.and_false,if_false,if_true,reduceIte]; done) | (simp_all; done)))
  ·have Td : ¬ d.kind = 0 := of_decide_eq_false jh
   simp only [List.length_map,ag,dJ,go_sem]
   refine aV (fun po => ?_) (fun po => ?_)
   ·have ff : d.kind = 1 := of_decide_eq_true po
    simp only [List.length_map,ag,dJ,go_sem]
    refine cF (eR hG _) ?_
    rintro _ rfl
    simp only [List.length_map,ag,dJ,go_sem]
    exact hK _ (congrArg bl (by clear hK OG; rw [EV]; clear EV; first | (simp only [*,Bool.not_true,Bool.not_false,Bool.true_and,Bool.and_true,Bool.false_and,Bool.and_false,if_false,if_true,reduceIte]; done) | (simp_all; done)))
   ·have ff : ¬ d.kind = 1 := of_decide_eq_false po
    simp only [List.length_map,ag,dJ,go_sem]
    refine fp tt_ok [8] [3] 1 [1,2,6,9,14] (fun vs => vs = [bl (bM d.name && bM d.target || lg d.name && lg d.target)]) (fun Z1 cJ => ?_) ?_
    ·simp only [List.length_map,ag,dJ,go_sem]
     refine kA tt_ok ?_
     simp only [List.length_map,ag,dJ,go_sem]
     refine cF (eR hG _) ?_
     rintro _ rfl
     simp only [List.length_map,ag,dJ,go_sem]
     refine aV (fun w7 => ?_) (fun w7 => ?_)
     ·simp only [List.length_map,ag,dJ,go_sem]
      refine cF (eR hG _) ?_
      rintro _ rfl
      simp only [List.length_map,ag,dJ,go_sem]
      refine aV (fun JX => ?_) (fun JX => ?_)
      ·simp only [List.length_map,ag,dJ,go_sem]
       refine cJ _ (ct (by omega) (by simp only [List.length_map,ag,dJ,go_sem]) ?_)
       simp only [dr,lk,reduceIte,zE]
       exact congrArg (fun b => [bl b]) (by simp_all)
      ·simp only [List.length_map,ag,dJ,go_sem]
       refine cF (gr _) ?_
       rintro _ rfl
       simp only [List.length_map,ag,dJ,go_sem]
       refine aV (fun DO => ?_) (fun DO => ?_)
       ·simp only [List.length_map,ag,dJ,go_sem]
        refine cF (gr _) ?_
        rintro _ rfl
        simp only [List.length_map,ag,dJ,go_sem]
        refine cJ _ (ct (by omega) (by simp only [List.length_map,ag,dJ,go_sem]) ?_)
        simp only [dr,lk,reduceIte,zE]
        exact congrArg (fun b => [bl b]) (by simp_all)
       ·simp only [List.length_map,ag,dJ,go_sem]
        refine cJ _ (ct (by omega) (by simp only [List.length_map,ag,dJ,go_sem]) ?_)
        simp only [dr,lk,reduceIte,zE]
        exact congrArg (fun b => [bl b]) (by simp_all)
     ·simp only [List.length_map,ag,dJ,go_sem]
      refine cF (gr _) ?_
      rintro _ rfl
      simp only [List.length_map,ag,dJ,go_sem]
      refine aV (fun DO => ?_) (fun DO => ?_)
      ·simp only [List.length_map,ag,dJ,go_sem]
       refine cF (gr _) ?_
       rintro _ rfl
       simp only [List.length_map,ag,dJ,go_sem]
       refine cJ _ (ct (by omega) (by simp only [List.length_map,ag,dJ,go_sem]) ?_)
       simp only [dr,lk,reduceIte,zE]
       exact congrArg (fun b => [bl b]) (by simp_all)
      ·simp only [List.length_map,ag,dJ,go_sem]
       refine cJ _ (ct (by omega) (by simp only [List.length_map,ag,dJ,go_sem]) ?_)
       simp only [dr,lk,reduceIte,zE]
       exact congrArg (fun b => [bl b]) (by simp_all)
    ·intro vs hJ
     obtain rfl := hJ
     simp only [List.length_map,ag,dJ,go_sem]
     refine aV (fun U1 => ?_) (fun U1 => ?_)
     ·simp only [List.length_map,ag,dJ,go_sem]
      refine aV (fun U2 => ?_) (fun U2 => ?_)
      ·simp only [List.length_map,ag,dJ,go_sem]
       refine cF (oi hG _ hm) ?_
       rintro _ rfl
       simp only [List.length_map,ag,dJ,go_sem]
       exact hK _ (congrArg bl (by clear hK OG; rw [EV]; clear EV; first | (simp only [*,Bool.not_true,Bool.not_false,Bool.true_and,Bool.and_true,Bool.false_and,Bool.and_false,if_false,if_true,reduceIte]; done) | (simp_all; done)))
      ·simp only [List.length_map,ag,dJ,go_sem]
       exact hK _ (congrArg bl (by clear hK OG; rw [EV]; clear EV; first | (simp only [*,Bool.not_true,Bool.not_false,Bool.true_and,Bool.and_true,Bool.false_and,Bool.and_false,if_false,if_true,reduceIte]; done) | (simp_all; done)))
     ·simp only [List.length_map,ag,dJ,go_sem]
      exact hK _ (congrArg bl (by clear hK OG; rw [EV]; clear EV; first | (simp only [*,Bool.not_true,Bool.not_false,Bool.true_and,Bool.and_true,Bool.false_and,Bool.and_false,if_false,if_true,reduceIte]; done) | (simp_all; done)))
theorem aaC (B0 B1 : aC) : bX Tryz.prog [B0, B1, .map [] 0] 198 (.mp 2) (num 0) (.agg [str ⟨#[98]⟩, num 0, bl false, num 0]) = some [B0, B1, .map [nW] 1] := by kernel_rfl
theorem aaD (B0 B1 : aC) : bX Tryz.prog [B0, B1, .map [nW] 1] 198 (.mp 2) (num 1) (.agg [str ⟨#[120]⟩, num 0, bl false, num 0]) = some [B0, B1, .map [nW, oI] 2] := by kernel_rfl
theorem aaE (B0 B1 : aC) : bX Tryz.prog [B0, B1, .map [nW, oI] 2] 198 (.mp 2) (num 2) (.agg [str ⟨#[98]⟩, num 0, bl false, num 0]) = some [B0, B1, .map [nW, oI, pK] 3] := by kernel_rfl
theorem aaF (B0 B1 : aC) : bX Tryz.prog [B0, B1, .map [nW, oI, pK] 3] 198 (.mp 2) (num 3) (.agg [str ⟨#[110]⟩, num 0, bl false, num 0]) = some [B0, B1, .map [nW, oI, pK, rk] 4] := by kernel_rfl
theorem aaG (B0 B1 : aC) : bX Tryz.prog [B0, B1, .map [nW, oI, pK, rk] 4] 198 (.mp 2) (num 4) (.agg [str ⟨#[109,110]⟩, num (-1), bl false, num 0]) = some [B0, B1, .map [nW, oI, pK, rk, si] 5] := by kernel_rfl
theorem aaH (B0 B1 : aC) : bX Tryz.prog [B0, B1, .map [nW, oI, pK, rk, si] 5] 198 (.mp 2) (num 5) (.agg [str ⟨#[]⟩, num 0, bl true, num 0]) = some [B0, B1, .map [nW, oI, pK, rk, si, ti] 6] := by kernel_rfl
theorem aaI (B0 B1 : aC) : bX Tryz.prog [B0, B1, .map [nW, oI, pK, rk, si, ti] 6] 198 (.mp 2) (num 6) (.agg [str ⟨#[110]⟩, num 0, bl false, num 1]) = some [B0, B1, .map [nW, oI, pK, rk, si, ti, vN] 7] := by kernel_rfl
theorem aaJ (B0 B1 : aC) : bX Tryz.prog [B0, B1, .map [nW, oI, pK, rk, si, ti, vN] 7] 198 (.mp 2) (num 7) (.agg [str ⟨#[110]⟩, num 0, bl false, num 1]) = some [B0, B1, .map [nW, oI, pK, rk, si, ti, vN, wB] 8] := by kernel_rfl
theorem aaK (B0 B1 : aC) : bX Tryz.prog [B0, B1, .map [nW, oI, pK, rk, si, ti, vN, wB] 8] 198 (.mp 2) (num 8) (.agg [str ⟨#[116,111]⟩, num 0, bl true, num 1]) = some [B0, B1, .map [nW, oI, pK, rk, si, ti, vN, wB, yQ] 9] := by kernel_rfl
theorem aaL (B0 B1 : aC) : bX Tryz.prog [B0, B1, .map [nW, oI, pK, rk, si, ti, vN, wB, yQ] 9] 198 (.mp 2) (num 9) (.agg [str ⟨#[]⟩, num 0, bl true, num 1]) = some [B0, B1, .map [nW, oI, pK, rk, si, ti, vN, wB, yQ, BH] 10] := by kernel_rfl
theorem U3 (B0 B1 : aC) : bX Tryz.prog [B0, B1, .map [nW, oI, pK, rk, si, ti, vN, wB, yQ, BH] 10] 198 (.mp 2) (num 10) (.agg [str ⟨#[110]⟩, num 0, bl false, num 2]) = some [B0, B1, .map [nW, oI, pK, rk, si, ti, vN, wB, yQ, BH, pL] 11] := by kernel_rfl
theorem U4 (B0 B1 : aC) : bX Tryz.prog [B0, B1, .map [nW, oI, pK, rk, si, ti, vN, wB, yQ, BH, pL] 11] 198 (.mp 2) (num 11) (.agg [str ⟨#[]⟩, num 1, bl false, num 1]) = some [B0, B1, .map [nW, oI, pK, rk, si, ti, vN, wB, yQ, BH, pL, sj] 12] := by kernel_rfl
theorem U5 (B0 B1 : aC) : bX Tryz.prog [B0, B1, .map [nW, oI, pK, rk, si, ti, vN, wB, yQ, BH, pL, sj] 12] 198 (.mp 2) (num 12) (.agg [str ⟨#[]⟩, num 1, bl false, num 3]) = some [B0, B1, .map [nW, oI, pK, rk, si, ti, vN, wB, yQ, BH, pL, sj, vO] 13] := by kernel_rfl
theorem U6 (B0 B1 : aC) : bX Tryz.prog [B0, B1, .map [nW, oI, pK, rk, si, ti, vN, wB, yQ, BH, pL, sj, vO] 13] 198 (.mp 2) (num 13) (.agg [str ⟨#[118]⟩, num 1, bl true, num 1]) = some [B0, B1, .map [nW, oI, pK, rk, si, ti, vN, wB, yQ, BH, pL, sj, vO, yR] 14] := by kernel_rfl
theorem U7 (B0 B1 : aC) : bX Tryz.prog [B0, B1, .map [nW, oI, pK, rk, si, ti, vN, wB, yQ, BH, pL, sj, vO, yR] 14] 198 (.mp 2) (num 14) (.agg [str ⟨#[]⟩, num 1, bl false, num (-1)]) = some [B0, B1, .map [nW, oI, pK, rk, si, ti, vN, wB, yQ, BH, pL, sj, vO, yR, DK] 15] := by kernel_rfl
theorem U8 (B0 B1 : aC) : bX Tryz.prog [B0, B1, .map [nW, oI, pK, rk, si, ti, vN, wB, yQ, BH, pL, sj, vO, yR, DK] 15] 198 (.mp 2) (num 15) (.agg [str ⟨#[110,120]⟩, num 1, bl false, num 3]) = some [B0, B1, .map [nW, oI, pK, rk, si, ti, vN, wB, yQ, BH, pL, sj, vO, yR, DK, J0] 16] := by kernel_rfl
theorem OH (B0 B1 : aC) : bX Tryz.prog [B0, B1, .map [nW, oI, pK, rk, si, ti, vN, wB, yQ, BH, pL, sj, vO, yR, DK, J0] 16] 198 (.mp 2) (num 16) (.agg [str ⟨#[110]⟩, num 0, bl false, num (-1)]) = some [B0, B1, .map [nW, oI, pK, rk, si, ti, vN, wB, yQ, BH, pL, sj, vO, yR, DK, J0, Rn] 17] := by kernel_rfl
theorem J8 (B0 B1 : aC) (hb : ∀ n, 2 ≤ n → az n B0 = true ∧ az n B1 = true) : aF Tryz.prog 192 [] [B0, B1] (.mp 2) [B0, B1, .map ey 17] := by
 refine gw tt_ok (fn := Tryz.f192) 3 (by simp only [List.length_cons,List.length_nil]; decide) Tryz.func192 rfl Tryz.call192 ?_
 simp only [ck,bA,Tryz.ntmps192,List.length_cons,List.length_nil,zA,zF,List.replicate_succ,List.replicate_zero]
 refine je tt_ok 20 [2] [] rfl rfl fun K hK => ?_
 simp only [ck,go_sem]
 refine hK _ _ rfl ?_
 simp only [LA,zA,zE]
 refine je tt_ok 20 (2::(rp 19 1 [])) [] rfl rfl fun K hK => ?_
 refine jz 7 fun K1 Jm => ?_
 simp only [uI,aaC,aaD,aaE,go_sem]
 refine Jm _ ?_
 refine jz 7 fun K1 Jm => ?_
 simp only [uI,aaF,aaG,aaH,go_sem]
 refine Jm _ ?_
 refine jz 7 fun K1 Jm => ?_
 simp only [uI,aaI,aaJ,aaK,aaL,go_sem]
 refine Jm _ ?_
 refine jz 7 fun K1 Jm => ?_
 simp only [uI,U3,U4,U5,go_sem]
 refine Jm _ ?_
 refine jz 7 fun K1 Jm => ?_
 simp only [uI,U6,U7,U8,OH,go_sem]
 refine Jm _ ?_
 simp only [uI,OH,go_sem]
 refine hK _ _ rfl ?_
 simp only [LA,zA,zE]
 refine aY ⟨.inl rfl, rfl, rfl, ?_, rfl⟩
 have h1 := hb 3 (by omega)
 have h2 := vP.below 3
 show (az 3 B0 && (az 3 B1 && ((ey.all fun e => au 3 e.2.2) && true))) = true
 rw [h1.1, h1.2, h2]; rfl
theorem RI (e : Ex) : Jn e = if decide (4096 < (e.size : Int)) || decide (32 < (e.depth : Int)) then 7 else cB th e.nodes := by
 unfold Jn
 by_cases h1 : 4096 < e.size <;> by_cases h2 : 32 < e.depth <;> simp [h1, h2] <;> (intros; omega)
theorem yU (hG : aA.g = some 1) (e : Ex) (he : e.wt ≤ 1048576) : aT Tryz.prog 137 [bT e] (num (Jn e)) := by
 have hbw := e.fX
 have U9 := xd e (by omega)
 have Yl := Dh e.cd e (Nat.le_refl _) (by omega)
 have QT := fun B0 B1 B2 B3 h => A1 e [B0, B1, B2, B3] h
 have hP : ∀ v ∈ e.nodes, v.wt ≤ 1048576 := fun v hv => by have := Ex.vf hv; omega
 refine iS tt_ok (fn := Tryz.f137) Tryz.func137 rfl Tryz.call137 ?_
 simp only [ck,bA,Tryz.ntmps137,List.length_cons,List.length_nil,zA,zF,List.replicate_succ,List.replicate_zero]
 rw [aI] at U9 Yl QT ⊢
 simp only [aq] at U9 Yl QT ⊢
 refine ai tt_ok fun K hK => ?_
 simp only [go_sem]
 refine hK _ ?_
 refine aS ?_
 have res : Jn e = if decide (4096 < (e.size : Int)) || decide (32 < (e.depth : Int)) then 7 else cB th e.nodes := RI e
 cases c1 : decide (4096 < (e.size : Int)) with
 | true =>
  rw [c1] at res
  refine ai tt_ok fun K hK => ?_
  simp only [c1,go_sem]
  refine .inl ⟨_, _, by simp only [c1,go_sem,List.take_length], U9, ?_⟩
  try simp only [c1,go_sem]
  refine hK _ ?_
  refine aL rfl ?_
  refine ai tt_ok fun K hK => ?_
  simp only [go_sem]
  refine hK _ ?_
  refine aY ⟨.inl rfl, ?_⟩
  rw [res]; rfl
 | false =>
  rw [c1] at res
  cases c2 : decide (32 < (e.depth : Int)) with
  | true =>
   rw [c2] at res
   refine ai tt_ok fun K hK => ?_
   simp only [c1,go_sem]
   refine .inl ⟨_, _, by simp only [c1,go_sem,List.take_length], U9, ?_⟩
   try simp only [c1,go_sem]
   refine .inl ⟨_, _, by simp only [c2,go_sem,List.take_length], Yl, ?_⟩
   try simp only [c2,go_sem]
   refine hK _ ?_
   refine aL rfl ?_
   refine ai tt_ok fun K hK => ?_
   simp only [go_sem]
   refine hK _ ?_
   refine aY ⟨.inl rfl, ?_⟩
   rw [res]; rfl
  | false =>
   rw [c2] at res
   refine ai tt_ok fun K hK => ?_
   simp only [c1,go_sem]
   refine .inl ⟨_, _, by simp only [c1,go_sem,List.take_length], U9, ?_⟩
   try simp only [c1,go_sem]
   refine .inl ⟨_, _, by simp only [c2,go_sem,List.take_length], Yl, ?_⟩
   try simp only [c2,go_sem]
   refine hK _ ?_
   refine aL rfl (bn ?_)
   show cD _ _ _ _ _ _
   refine ai tt_ok fun K hK => ?_
   simp only [go_sem]
   refine .inr <| .inl ⟨_, _, J8 _ _ (fun n hn => ⟨rfl, rfl⟩), ?_⟩
   try simp only [go_sem]
   refine hK _ ?_
   refine aS ?_
   refine ai tt_ok fun K hK => ?_
   simp only [go_sem]
   refine .inr <| .inl ⟨_, _, QT _ _ _ _ rfl, ?_⟩
   try simp only [go_sem]
   refine hK _ ?_
   refine bf (vd (t := e) (B := 1048576) (fun s : Int => [.box (aq e), .box [num s], .map ey 17, .box [.mp 2], .box (aq e)]) 0 5 4 rfl (fun _ => rfl) (by omega) (fun _ => rfl) (fun _ => rfl) rfl rfl rfl (fun s u => if decide (th u = 0) = true then (s, none) else (th u, some .ret)) (by omega) (by omega) (fun v => v.wt ≤ 1048576) hP ?_ ?_)
   ·intro s u hu hm l LR LB hLR Sr
    obtain ⟨_, rfl, hn⟩ := BI hG (.box (aq e)) (.box [num s]) (.box [.mp 2]) (.box (aq e)) LB (.box (aq u)) (fun n hn => ⟨rfl, rfl, by simp only [az,List.all_cons,List.all_nil,au,Bool.and_true,decide_eq_true_eq]; omega, rfl, sN (by omega) Sr, rfl⟩) u hm
    rw [aI] at hn ⊢
    simp only [aq] at hn
    simp only [ck,kM,aq,List.set_cons_succ,List.set_cons_zero]
    refine aK tt_ok fun K hK => ?_
    simp only [go_sem]
    refine hK _ ?_
    refine ⟨rfl, rfl, bf ?_⟩
    simp only [List.set_cons_succ,List.set_cons_zero]
    refine ai tt_ok fun K hK => ?_
    simp only [go_sem]
    refine .inr <| .inl ⟨_, _, hn, ?_⟩
    try simp only [go_sem]
    refine hK _ ?_
    refine aS ?_
    cases c3 : decide (th u = 0) with
    | true =>
     refine aK tt_ok fun K hK => ?_
     simp only [c3,go_sem]
     refine hK _ ?_
     refine aL rfl (bn ?_)
     exact ⟨rfl, rfl, rfl⟩
    | false =>
     refine aK tt_ok fun K hK => ?_
     simp only [c3,go_sem]
     refine hK _ ?_
     refine aL rfl ?_
     refine ai tt_ok fun K hK => ?_
     simp only [go_sem]
     refine hK _ ?_
     exact aY ⟨rfl, rfl, rfl⟩
   ·rw [nV]
    simp only [Bool.or_self,Bool.false_eq_true,if_false] at res
    rw [res]
    cases c4 : decide (cB th e.nodes = 0) with
    | true =>
     have e0 : cB th e.nodes = 0 := of_decide_eq_true c4
     simp only [if_true]
     show cD _ _ _ _ _ _
     refine ai tt_ok fun K hK => ?_
     simp only [go_sem]
     refine hK _ ?_
     refine aY ⟨.inl rfl, ?_⟩
     rw [e0]; rfl
    | false =>
     simp only [Bool.false_eq_true,if_false]
     exact aY ⟨.inl rfl, rfl⟩
theorem Dc.Gv (d : Dc) : d.expr.types.length < d.wt ∧ d.expr.labels.length < d.wt ∧ d.expr.kids.length < d.wt := by
 have h1 := d.expr.yE
 have h2 := d.expr.nN
 have h3 := d.expr.fX
 have h4 : d.wt = 1 + d.name.size + d.note.size + aO Pm.wt d.params + d.lower.wt + d.upper.wt + d.type.wt + d.expr.wt + d.mod.size + d.target.size := rfl
 omega
theorem Dc.Gw {d : Dc} (pM : d.wt = 1 + d.name.size + d.note.size + aO Pm.wt d.params + d.lower.wt + d.upper.wt + d.type.wt + d.expr.wt + d.mod.size + d.target.size) (hw : d.wt ≤ 1048576) {u : Ty} (hu : u ∈ [d.lower, d.upper, d.type] ++ d.params.map Pm.bound) : u.wt ≤ 1048576 := by
 rcases List.mem_append.1 hu with hu | hu
 ·simp only [List.mem_cons,List.not_mem_nil,or_false] at hu
  rcases hu with rfl | rfl | rfl <;> omega
 ·obtain ⟨p, hp, rfl⟩ := List.mem_map.1 hu
  obtain ⟨i, hi⟩ := List.mem_iff_getElem?.1 hp
  have h1 := bG Pm.wt hi
  have h2 : p.wt = 1 + p.name.size + p.bound.wt := rfl
  omega
def tj (d : Dc) (j : Nat) : List Ty := [d.lower, d.upper, d.type] ++ (d.params.take j).map Pm.bound
theorem Gx {d : Dc} {j : Nat} {p : Pm} (h : d.params[j]? = some p) : tj d (j + 1) = tj d j ++ [p.bound] := by unfold tj; rw [List.take_add_one, h]; simp
theorem J9 (d : Dc) : tj d d.params.length = [d.lower, d.upper, d.type] ++ d.params.map Pm.bound := by unfold tj; rw [List.take_length]
theorem Ka (d : Dc) {j : Nat} (h : j ≤ d.params.length) : (tj d j).length = j + 3 := by unfold tj; simp; omega
theorem Nt (hG : aA.g = some 1) (d : Dc) (bs : List Dc) (hw : d.wt ≤ 1048576) (Tc : bs.length ≤ 1048576) : ∃ r_, (fun w => w = num (pU bs d)) r_ ∧ aT Tryz.prog 78 [aB d, .slice (bs.map aB)] r_ := by
 refine gG tt_ok [] 90 [.tmp 4] (fn := Tryz.f78) Tryz.func78 rfl Tryz.call78 ⟨rfl, rfl, by simp⟩ fun K hK => ?_
 have pM : d.wt = 1 + d.name.size + d.note.size + aO Pm.wt d.params + d.lower.wt + d.upper.wt + d.type.wt + d.expr.wt + d.mod.size + d.target.size := rfl
 obtain ⟨h1, h2, h3⟩ := d.Gv
 have hp : d.params.length ≤ 1048576 := by have := bm Pm.wt (fun l => by unfold Pm.wt; omega) d.params; omega
 obtain ⟨acc, lQ⟩ : ∃ x, x = ([d.lower, d.upper, d.type] ++ d.params.map Pm.bound) := ⟨_, rfl⟩
 have Va : acc.length = d.params.length + 3 := by rw [lQ]; simp <;> omega
 have jC : pU bs d = (if vj d = false then 1 else if 8 < d.params.length ∨ 65536 < d.note.size then 7 else if yG d = false then 4 else if (bs.any fun x => decide (x.name = d.name)) = true then 5 else if pw (d.params.map Pm.name) = true then 5 else if cB s5 ([d.lower, d.upper, d.type] ++ d.params.map Pm.bound) ≠ 0 then cB s5 ([d.lower, d.upper, d.type] ++ d.params.map Pm.bound) else Jn d.expr) := rfl
 have cK : ∀ u ∈ acc, u.wt ≤ 1048576 := by rw [lQ]; exact fun u hu => Dc.Gw pM hw hu
 simp only [ck,aB,aj,aq]
 have oQ : Tryz.prog.underlying 9 = some .string := by kernel_rfl
 have sl : ∀ (a : ByteArray) (ty : TypeId), ib Tryz.prog (Builtin.len_ #[9] ty) [.sc (.string a)] = some (num a.size) := fun a ty => iF (P := Tryz.prog) (tt := tt) (T := 9) a oQ ty
 simp only [ab,ae,List.length_map,sl,go_sem]
 refine cF (by have h := BJ d hp (by omega) (by omega) (by omega); simp only [ck,aB,aj,aq] at h; exact h) ?_
 rintro _ rfl
 simp only [ab,ae,List.length_map,sl,go_sem]
 refine aV (fun po => ?_) (fun po => ?_)
 ·have ba : 1 = pU bs d := by rw [jC, if_pos (by simpa using po)]
  simp only [ab,ae,List.length_map,sl,go_sem]
  first | exact hK _ (congrArg num ba) | exact hK _ (congrArg num jC.symm)
 ·rw [if_neg (by simpa using po)] at jC
  simp only [ab,ae,List.length_map,sl,go_sem]
  refine aV (fun oX => ?_) (fun oX => ?_)
  ·have ba : 7 = pU bs d := by rw [jC, if_pos (.inl (by have := of_decide_eq_true oX; omega))]
   simp only [ab,ae,List.length_map,sl,go_sem]
   first | exact hK _ (congrArg num ba) | exact hK _ (congrArg num jC.symm)
  ·simp only [ab,ae,List.length_map,sl,go_sem]
   refine aV (fun nQ => ?_) (fun nQ => ?_)
   ·have ba : 7 = pU bs d := by rw [jC, if_pos (by first | exact .inl (by have := of_decide_eq_true oX; omega) | exact .inr (by have := of_decide_eq_true nQ; omega))]
    simp only [ab,ae,List.length_map,sl,go_sem]
    first | exact hK _ (congrArg num ba) | exact hK _ (congrArg num jC.symm)
   ·rw [if_neg (by have h1_ := of_decide_eq_false oX; have Ym := of_decide_eq_false nQ; omega)] at jC
    simp only [ab,ae,List.length_map,sl,go_sem]
    refine cF (by have h := Gu hG d hp (by omega); simp only [ck,aB,aj,aq] at h; exact h) ?_
    rintro _ rfl
    simp only [ab,ae,List.length_map,sl,go_sem]
    refine aV (fun hH => ?_) (fun hH => ?_)
    ·have ba : 4 = pU bs d := by rw [jC, if_pos (by simpa using hH)]
     simp only [ab,ae,List.length_map,sl,go_sem]
     first | exact hK _ (congrArg num ba) | exact hK _ (congrArg num jC.symm)
    ·rw [if_neg (by simpa using hH)] at jC
     simp only [ab,ae,List.length_map,sl,go_sem]
     refine cS (by have h := J4 d 135 (fun x => decide (x.name = d.name)) bs (fun x _ => Rz d x) Tc; simp only [ck,dH,aB,aj,aq] at h; exact h) ?_
     rintro _ rfl
     simp only [ab,ae,List.length_map,sl,go_sem]
     refine aV (fun RJ => ?_) (fun RJ => ?_)
     ·have ba : 5 = pU bs d := by rw [jC, if_pos RJ]
      simp only [ab,ae,List.length_map,sl,go_sem]
      first | exact hK _ (congrArg num ba) | exact hK _ (congrArg num jC.symm)
     ·rw [if_neg (by rw [RJ]; simp)] at jC
      simp only [ab,ae,List.length_map,sl,go_sem]
      refine gF tt_ok [] (fun a : Nat => [(2, .ptr 0 0), (4, num 0), (5, .mp 1), (39, .slice (d.params.map cb)), (40, num d.params.length), (41, num a)]) (fun a : Nat => [.box [num d.kind, str d.name, bl d.exported, bl d.deprecated, str d.note, .slice (d.params.map cb), num d.lower.kind, str d.lower.mod, str d.lower.name, .slice (aE d.lower.args), .slice (a6 d.lower.aJ), num d.upper.kind, str d.upper.mod, str d.upper.name, .slice (aE d.upper.args), .slice (a6 d.upper.aJ), num d.type.kind, str d.type.mod, str d.type.name, .slice (aE d.type.args), .slice (a6 d.type.aJ), num d.expr.kind, str d.expr.mod, str d.expr.name, str d.expr.text, num d.expr.num, .slice (aE d.expr.types), .slice (d.expr.labels.map aX), .slice (bL d.expr.kids), str d.mod, str d.target], .map (eT strVal 0 (cw [] ((d.params.take a).map Pm.name))) (cw [] ((d.params.take a).map Pm.name)).length]) (fun a => d.params.length - a) (fun a => a ≤ d.params.length) (0) 2 (cV (by omega) (by simp only [ab,ae,List.length_map,sl,List.take_zero,cw,List.foldl_nil,eT,List.all_nil,List.length_nil,Int.cast_ofNat_Int,go_sem] <;> rfl)) (Nat.zero_le _) ?_
      intro i hi
      try dsimp only at hi
      try dsimp only
      have rv := fun n => ((NG.cw (l := (d.params.take i).map Pm.name) NG.nil).1).below n
      intro Z1 cJ
      simp only [rv,ab,ae,List.length_map,sl,go_sem]
      refine aV (fun vr => ?_) (fun vr => ?_)
      ·have aZ : i < d.params.length := by simpa using vr
       obtain ⟨p, hx⟩ : ∃ p, d.params[i]? = some p := ⟨_, List.getElem?_eq_getElem aZ⟩
       have EH := AY Pm.name [] hx
       have aaM := fun B0 B2 => MW (cw [] ((d.params.take i).map Pm.name)) p.name (mem := [B0, .map (eT strVal 0 (cw [] ((d.params.take i).map Pm.name))) (cw [] ((d.params.take i).map Pm.name)).length, B2]) (b := 1) rfl
       have gz := aU i (by omega)
       have aaN := fun n => ((NG.cw (l := (d.params.take (i + 1)).map Pm.name) NG.nil).1).below n
       simp only [rv,List.getElem?_map,hx,cb,aj,aaM,gz,ab,ae,List.length_map,sl,go_sem]
       refine cJ _ ⟨i + 1, ?_, ?_, cV (by omega) (by (simp only [← EH,gz,aaN,rv,go_sem]))⟩
       ·exact aZ
       ·omega
      ·have gv : i = d.params.length := by have := of_decide_eq_false vr; omega
       subst gv
       rw [List.take_length]
       obtain ⟨G, hGr⟩ : ∃ x, x = cw [] (d.params.map Pm.name) := ⟨_, rfl⟩
       have ic := Dd (d.params.map Pm.name)
       rw [← hGr, List.length_map] at ic
       rw [← hGr]
       have hlen := fun B0 => MX (mem := [B0, .map (eT strVal 0 G) G.length]) (b := 1) G G.length rfl
       have mN := fun n => (hGr ▸ (NG.cw (l := d.params.map Pm.name) NG.nil).1 : NG G).below n
       simp only [rv,hlen,mN,ab,ae,List.length_map,sl,go_sem]
       refine aV (fun DN => ?_) (fun DN => ?_)
       ·have y0 : pw (d.params.map Pm.name) = true := by rw [← ic.2]; simpa using DN
        have ba : 5 = pU bs d := by rw [jC, if_pos y0]
        simp only [rv,hlen,mN,ab,ae,List.length_map,sl,go_sem]
        first | exact hK _ (congrArg num ba) | exact hK _ (congrArg num jC.symm)
       ·have y0 : pw (d.params.map Pm.name) = false := by rw [← ic.2]; simpa using DN
        rw [if_neg (by rw [y0]; simp)] at jC
        simp only [rv,hlen,mN,ab,ae,List.length_map,sl,go_sem]
        refine gF tt_ok [] (fun a : Nat × Nat => [(2, .ptr 0 0), (4, num 0), (8, .ms 2 a.2 0 (a.1 + 3)), (63, .slice (d.params.map cb)), (64, num d.params.length), (65, num a.1)]) (fun a : Nat × Nat => [.box [num d.kind, str d.name, bl d.exported, bl d.deprecated, str d.note, .slice (d.params.map cb), num d.lower.kind, str d.lower.mod, str d.lower.name, .slice (aE d.lower.args), .slice (a6 d.lower.aJ), num d.upper.kind, str d.upper.mod, str d.upper.name, .slice (aE d.upper.args), .slice (a6 d.upper.aJ), num d.type.kind, str d.type.mod, str d.type.name, .slice (aE d.type.args), .slice (a6 d.type.aJ), num d.expr.kind, str d.expr.mod, str d.expr.name, str d.expr.text, num d.expr.num, .slice (aE d.expr.types), .slice (d.expr.labels.map aX), .slice (bL d.expr.kids), str d.mod, str d.target], .map (eT strVal 0 G) G.length, .rows a.2 5 (aE (tj d a.1))]) (fun a => d.params.length - a.1) (fun a => a.1 ≤ d.params.length) ((0, 0)) 3 (cV (by omega) (by simp only [rv,hlen,mN,ab,ae,List.length_map,sl,tj,List.take_zero,List.map_nil,List.append_nil,aE,ay,aj,mN,Int.cast_ofNat_Int,go_sem] <;> rfl)) (Nat.zero_le _) ?_
        rintro ⟨j, b7⟩ hj
        try dsimp only at hj
        try dsimp only
        intro Z2 kT
        simp only [rv,hlen,mN,mN,ab,ae,List.length_map,sl,go_sem]
        refine aV (fun RL => ?_) (fun RL => ?_)
        ·have aZ : j < d.params.length := by simpa using RL
         obtain ⟨p, hx⟩ : ∃ p, d.params[j]? = some p := ⟨_, List.getElem?_eq_getElem aZ⟩
         have gz := aU j (by omega)
         have Sp : j + 3 ≤ 34359738367 := by omega
         have aaP : j ≤ 34359738364 := by omega
         have HM : tj d (j + 1) = tj d j ++ [p.bound] := Gx hx
         have Sd := Ka d (j := j) (by omega)
         have tC : cf [V.agg [num p.bound.kind, str p.bound.mod, str p.bound.name, .slice (aE p.bound.args), .slice (a6 p.bound.aJ)]] 0 5 = true := rfl
         simp only [rv,hlen,mN,mN,List.getElem?_map,hx,cb,aj,gz,Sp,aaP,Sd,tC,List.cons_append,List.nil_append,ab,ae,List.length_map,sl,go_sem]
         refine kT _ ⟨(j + 1, b7 + 1), ?_, ?_, cV (by omega) (by (simp [HM, Sd, cg, ay, aj, rT, lk, dC, eL, au, az, mN]))⟩
         ·exact aZ
         ·dsimp only; omega
        ·have gv : j = d.params.length := by have := of_decide_eq_false RL; omega
         subst gv
         have aaQ : tj d d.params.length = acc := by rw [lQ]; exact J9 d
         rw [aaQ, ← Va]
         simp only [rv,hlen,mN,mN,ab,ab,ae,List.length_map,sl,go_sem]
         refine eA tt_ok [] [77] 3 [2,14,18,29,33,42,54,66,75,76] (fun vs => ((acc.length : Int) - Go.Eng.intOf (vs.headD .undef)).toNat) (fun vs => ∃ i : Nat, vs = [num i] ∧ i ≤ acc.length ∧ cB s5 acc = cB s5 (acc.drop i)) (by omega) (by simp only [rv,hlen,mN,mN,ab,ab,ae,List.length_map,sl,go_sem]) (⟨0, rfl, Nat.zero_le _, rfl⟩) fun vs hI Z3 wA => ?_
         obtain ⟨i, rfl, hi, hinv⟩ := hI
         simp only [rv,hlen,mN,mN,ab,ab,ae,List.length_map,sl,go_sem]
         refine aV (fun DC => ?_) (fun DC => ?_)
         ·have aZ : i < acc.length := by simpa using DC
          obtain ⟨u, hu⟩ : ∃ u, acc[i]? = some u := ⟨_, List.getElem?_eq_getElem aZ⟩
          have fI : ((i : Nat) : Int) < ((acc.length : Nat) : Int) := by omega
          have gz := aU i (by omega)
          have rB := xl s5 hu
          simp only [rv,hlen,mN,mN,ab,fI,bt,hu,ay,aj,gz,ab,ae,List.length_map,sl,go_sem]
          refine cF (by have h := rj hG u (by have := u.ca; have := cK u (List.mem_of_getElem? hu); omega) (Ty.UF (by have := cK u (List.mem_of_getElem? hu); omega)); rw [ay] at h; simp only [aj] at h; exact ⟨_, rfl, h⟩) ?_
          rintro _ rfl
          simp only [rv,hlen,mN,mN,ab,fI,bt,hu,ay,aj,gz,ab,ae,List.length_map,sl,go_sem]
          refine aV (fun RM => ?_) (fun RM => ?_)
          ·have ch : s5 u ≠ 0 := by simpa using RM
           have hz : cB s5 ([d.lower, d.upper, d.type] ++ d.params.map Pm.bound) = s5 u := by rw [← lQ, hinv, rB, if_neg ch]
           have ba : s5 u = pU bs d := by rw [jC, if_pos (by rw [hz]; exact ch), hz]
           simp only [rv,hlen,mN,mN,ab,fI,bt,hu,ay,aj,gz,ab,ae,List.length_map,sl,go_sem]
           first | exact hK _ (congrArg num ba) | exact hK _ (congrArg num jC.symm)
          ·have hz : s5 u = 0 := by simpa using RM
           simp only [rv,hlen,mN,mN,ab,fI,bt,hu,ay,aj,gz,ab,ae,List.length_map,sl,go_sem]
           refine wA _ (kB (by omega) (by simp only [rv,hlen,mN,mN,ab,fI,bt,hu,ay,aj,gz,ab,ae,List.length_map,sl,go_sem]) ?_ ?_) <;> simp only [dr,lk,reduceIte,zE]
           ·exact ⟨i + 1, rfl, aZ, by rw [hinv, rB, if_pos hz]⟩
           ·simp only [Go.Eng.intOf,List.headD_cons]; omega
         ·have gv : ¬ i < acc.length := by simpa using DC
          have hz : cB s5 ([d.lower, d.upper, d.type] ++ d.params.map Pm.bound) = 0 := by rw [← lQ, hinv, List.drop_eq_nil_of_le (by omega)]; rfl
          rw [if_neg fun h_ => h_ hz] at jC
          simp only [rv,hlen,mN,mN,ab,ab,ae,List.length_map,sl,go_sem]
          refine cF (by have h := yU hG d.expr (by omega); rw [aI] at h; simp only [aq] at h; exact ⟨_, rfl, h⟩) ?_
          rintro _ rfl
          simp only [rv,hlen,mN,mN,ab,ab,ae,List.length_map,sl,go_sem]
          first | exact hK _ (congrArg num ba) | exact hK _ (congrArg num jC.symm)
end Go.Proofs.YtnboooapeopjoaaGreatDoor
end

section
namespace Go.Proofs.YtnboooapeopjoaaGreatDoor
open Go.Eng
open Nat renaming reduceAdd → zA, reduceLT → zB, reduceLeDiff → zC, reduceMul → zD, reduceEqDiff → zE, reduceSub → zF
variable [aA]
set_option maxRecDepth 100000
set_option maxHeartbeats 4000000
attribute [local irreducible] runM dW pb
theorem Gy (l : List Dc) (i : Nat) {d : Dc} (h : l[i]? = some d) : (l.map aB)[i]? = some (.agg (dH d)) := by rw [List.getElem?_map, h]; rfl
theorem DP (l : List Pm) (i : Nat) {p : Pm} (h : l[i]? = some p) : (l.map cb)[i]? = some (.agg ([str p.name, num p.dn] ++ aj p.bound)) := by rw [List.getElem?_map, h]; rfl

theorem Gz (m : Md) (hm : m.cd ≤ 1048576) : aT Tryz.prog 129 [cM m] (num m.size) := by
 unfold Md.cd at hm
 have ic := bm Dc.cd Dc.fu m.decls
 have hle : ∀ i, aO Dc.size (m.decls.take i) ≤ 1048576 := fun i => by
  have h1 := la Dc.cd m.decls i
  have h2 : ∀ l : List Dc, aO Dc.size l ≤ aO Dc.cd l := fun l => by
   induction l with
   | nil => simp [aO]
   | cons a r ih => have := Dc.size_le a; simp only [aO]; omega
  have := h2 (m.decls.take i); omega
 refine iS tt_ok (fn := Tryz.f129) Tryz.func129 rfl Tryz.call129 ?_
 simp only [ck,bA,Tryz.ntmps129,List.length_cons,List.length_nil,zA,zF,List.replicate_succ,List.replicate_zero]
 rw [nO]
 simp only [oo]
 refine ai tt_ok fun K hK => ?_
 simp only [go_sem]
 refine hK _ ?_
 refine ai tt_ok fun K hK => ?_
 simp only [List.length_map,go_sem]
 refine hK _ ?_
 have gz := oP (1 + (m.imports.length : Int)) (1 + m.imports.length) (by omega) (by omega)
 rw [gz]
 refine aS ?_
 refine ai tt_ok fun K hK => ?_
 simp only [List.length_map,go_sem]
 refine hK _ ?_
 refine bf (cA (fun N st => ∃ (i : Nat), N = m.decls.length - i ∧ i ≤ m.decls.length ∧
  st = { fr := [.undef, .undef, .undef, num ((1 + m.imports.length + aO Dc.size (m.decls.take i) : Nat)), .undef, .undef, .undef, .undef, .undef, .undef, .undef, .undef, .undef, .slice (m.decls.map aB), num m.decls.length, num i] ++ List.replicate 56 .undef, mem := [] }) m.decls.length ?_ ?_)
 ·exact ⟨0, (false::false::false::true::(rp 9 false [true,true,true])), by omega, by simp only [bc,au,aD,az,zB,kC], rfl, 0, by omega, by omega, rfl⟩
 ·rintro N' st ⟨i, rfl, hi, rfl⟩
  simp only [ck,List.replicate_succ,List.replicate_zero]
  by_cases aZ : i < m.decls.length
  ·have hd := jf aZ
   refine ai tt_ok fun K hK => ?_
   simp only [hd,go_sem]
   refine hK _ ?_
   refine aS (aL rfl (bn ?_))
   refine aS (bf ?_)
   obtain ⟨d, PG⟩ : ∃ d, m.decls[i]? = some d := ⟨_, List.getElem?_eq_getElem aZ⟩
   have hds := bG Dc.cd PG
   have mA : d.cd = 1 + d.params.length + aO (fun p => p.bound.size) d.params + d.lower.size + d.upper.size + d.type.size + d.expr.cd := rfl
   have G1 := jK Dc.size PG
   have ka := d.size_le
   have hT := j5 d.type (by omega)
   have hL := j5 d.lower (by omega)
   have hU := j5 d.upper (by omega)
   have hE := xd d.expr (by omega)
   have hC := F4 d (by omega)
   have hse := Ex.mo _ d.expr (Nat.le_refl _)
   have hln := hle (i + 1)
   have R3 := hle i
   rw [ay] at hT hL hU
   rw [aI] at hE
   rw [A7] at hC
   simp only [ck,aj,aq,dH] at hT hL hU hE hC
   have jC := Gy m.decls i PG
   simp only [ck,aj,aq,dH] at jC
   have kg := aU i (by omega)
   have hw3 := oP (1 + (d.params.length : Int)) (1 + d.params.length) (by omega) (by omega)
   have hw4 := oP (((1 + m.imports.length + aO Dc.size (m.decls.take i) : Nat) : Int) + ((1 + d.params.length : Nat) : Int)) (1 + m.imports.length + aO Dc.size (m.decls.take i) + (1 + d.params.length)) (by omega) (by omega)
   obtain ⟨S, hS⟩ : ∃ S, S = 1 + m.imports.length + aO Dc.size (m.decls.take i) + (1 + d.params.length) := ⟨_, rfl⟩
   rw [← hS] at hw4
   refine ai tt_ok fun K hK => ?_
   simp only [jC,go_sem]
   refine hK _ ?_
   refine ai tt_ok fun K hK => ?_
   simp only [List.length_map,hw3,hw4,go_sem]
   refine hK _ ?_
   refine ai tt_ok fun K hK => ?_
   simp only [go_sem]
   refine hK _ ?_
   refine bf ?_
   by_cases h0 : d.kind = 0
   ·have d0 : decide (d.kind = 0) = true := decide_eq_true h0
    refine ai tt_ok fun K hK => ?_
    simp only [d0,go_sem]
    refine hK _ ?_
    refine aL rfl ?_
    show cD _ _ _ _ _ _
    refine ai tt_ok fun K hK => ?_
    simp only [go_sem]
    refine .inl ⟨_, _, by simp only [go_sem,List.take_length], hT, ?_⟩
    try simp only [go_sem]
    refine hK _ ?_
    have hw5 := oP ((S : Int) + (d.type.size : Int)) (S + d.type.size) (by omega) (by omega)
    rw [hw5]
    cases mC : d.clear with
    | true =>
     have hdz : d.size = 1 + d.params.length + d.type.size := by unfold Dc.size; rw [if_pos h0, if_pos mC, Nat.add_zero]
     rw [mC] at hC
     refine ai tt_ok fun K hK => ?_
     simp only [go_sem]
     refine .inl ⟨_, _, by simp only [go_sem,List.take_length], hC, ?_⟩
     try simp only [go_sem]
     refine hK _ ?_
     refine aL rfl (bn ?_)
     show cD _ _ _ _ _ _
     refine aK tt_ok fun K hK => ?_
     simp only [go_sem]
     refine hK _ ?_
     rw [kg]
     have oE : S + d.type.size = 1 + m.imports.length + aO Dc.size (m.decls.take (i + 1)) := by omega
     rw [oE]
     exact ⟨m.decls.length - (i + 1), by omega, 0, (false::false::false::true::(rp 9 false [true,true,true])), by omega, by simp only [bc,au,aD,az,zB,kC], rfl, i + 1, rfl, aZ, by simp [rp,bc]⟩
    | false =>
     have hdz : d.size = 1 + d.params.length + (d.type.size + (d.lower.size + d.upper.size)) := by unfold Dc.size; rw [if_pos h0, if_neg (by rw [mC]; simp)]
     rw [mC] at hC
     refine ai tt_ok fun K hK => ?_
     simp only [go_sem]
     refine .inl ⟨_, _, by simp only [go_sem,List.take_length], hC, ?_⟩
     try simp only [go_sem]
     refine hK _ ?_
     refine aL rfl ?_
     show cD _ _ _ _ _ _
     refine nx tt_ok bj [⟨.n, 0, [], [], []⟩, ⟨.n, 0, [], [], []⟩, ⟨.r, 0, [], [], []⟩, ⟨.n, 0, [], [], []⟩, ⟨.n, 0, [], [], []⟩, ⟨.r, 0, [], [], []⟩, ⟨.n, 0, [], [], []⟩, ⟨.n, 0, [], [], []⟩, ⟨.n, 0, [], [], []⟩, ⟨.n, 0, [], [], []⟩] 0 (by kernel_rfl) fun K hK => ?_
     simp only [go_sem,List.replicate]
     refine ⟨_, _, by simp only [go_sem,List.take_length], .inl (hL), ?_⟩
     try simp only [go_sem,List.replicate]
     refine ⟨_, _, by simp only [go_sem,List.take_length], .inl (hU), ?_⟩
     try simp only [go_sem,List.replicate]
     refine hK _ ?_
     have hw6 := oP ((d.lower.size : Int) + (d.upper.size : Int)) (d.lower.size + d.upper.size) (by omega) (by omega)
     rw [hw6]
     have hw7 := oP (((S + d.type.size : Nat) : Int) + ((d.lower.size + d.upper.size : Nat) : Int)) (S + d.type.size + (d.lower.size + d.upper.size)) (by omega) (by omega)
     rw [hw7]
     show cD _ _ _ _ _ _
     refine aK tt_ok fun K hK => ?_
     simp only [go_sem]
     refine hK _ ?_
     rw [kg]
     have oE : S + d.type.size + (d.lower.size + d.upper.size) = 1 + m.imports.length + aO Dc.size (m.decls.take (i + 1)) := by omega
     rw [oE]
     exact ⟨m.decls.length - (i + 1), by omega, 0, (false::false::false::true::(rp 9 false [true,true,true])), by omega, by simp only [bc,au,aD,az,zB,kC], rfl, i + 1, rfl, aZ, by simp [rp,bc]⟩
   ·have d0 : decide (d.kind = 0) = false := decide_eq_false h0
    refine ai tt_ok fun K hK => ?_
    simp only [d0,go_sem]
    refine hK _ ?_
    refine aL rfl ?_
    show cD _ _ _ _ _ _
    by_cases h1 : d.kind = 1
    ·have d1 : decide (d.kind = 1) = true := decide_eq_true h1
     have hdz : d.size = 1 + d.params.length + (d.type.size + d.expr.size + aO (fun p => p.bound.size) d.params) := by unfold Dc.size; rw [if_neg h0, if_pos h1]
     refine ai tt_ok fun K hK => ?_
     simp only [d1,go_sem]
     refine hK _ ?_
     refine aL rfl ?_
     show cD _ _ _ _ _ _
     refine wo tt_ok bj [⟨.n, 0, [], [], []⟩, ⟨.n, 0, [], [], []⟩, ⟨.r, 0, [], [], []⟩, ⟨.n, 0, [], [], []⟩, ⟨.n, 0, [], [], []⟩, ⟨.r, 0, [], [], []⟩, ⟨.n, 0, [], [], []⟩, ⟨.n, 0, [], [], []⟩, ⟨.n, 0, [], [], []⟩, ⟨.n, 0, [], [], []⟩] 0 (by kernel_rfl) fun K hK => ?_
     simp only [go_sem,List.replicate]
     refine ⟨_, _, by simp only [go_sem,List.take_length], .inl (hT), ?_⟩
     try simp only [go_sem,List.replicate]
     refine ⟨_, _, by simp only [go_sem,List.take_length], .inl (hE), ?_⟩
     try simp only [go_sem,List.replicate]
     refine hK _ ?_
     have hw5 := oP ((d.type.size : Int) + (d.expr.size : Int)) (d.type.size + d.expr.size) (by omega) (by omega)
     rw [hw5]
     have hw6 := oP ((S : Int) + ((d.type.size + d.expr.size : Nat) : Int)) (S + (d.type.size + d.expr.size)) (by omega) (by omega)
     rw [hw6]
     obtain ⟨S1, hS1⟩ : ∃ S1, S1 = S + (d.type.size + d.expr.size) := ⟨_, rfl⟩
     rw [← hS1]
     refine ai tt_ok fun K hK => ?_
     simp only [List.length_map,go_sem]
     refine hK _ ?_
     refine bf (cA (fun N st => ∃ (j : Nat), N = d.params.length - j ∧ j ≤ d.params.length ∧
      st = { fr := [.undef, .undef, .undef, num ((S1 + aO (fun p => p.bound.size) (d.params.take j) : Nat)), .undef, .undef, .undef, .undef, .undef, .undef, .undef, .undef, .undef, .slice (m.decls.map aB), num m.decls.length, num i] ++ List.replicate 42 .undef ++ [.slice (d.params.map cb), num d.params.length, num j] ++ List.replicate 11 .undef, mem := [] }) d.params.length ?_ ?_)
     ·exact ⟨0, (false::false::false::true::(rp 9 false [true,true,true])) ++ List.replicate 42 false ++ [true,true,true], by omega, by simp only [List.replicate_succ,List.replicate_zero,List.cons_append,List.nil_append,bc,au,aD,az,zB,kC], rfl, 0, by omega, by omega, rfl⟩
     ·rintro N' st ⟨j, rfl, hj, rfl⟩
      simp only [ck,List.replicate_succ,List.replicate_zero]
      by_cases Nu : j < d.params.length
      ·have NZ := jf Nu
       obtain ⟨p, hp⟩ : ∃ p, d.params[j]? = some p := ⟨_, List.getElem?_eq_getElem Nu⟩
       have vX := bG (fun p : Pm => p.bound.size) hp
       have hpt := jK (fun p : Pm => p.bound.size) hp
       have AQ := la (fun p : Pm => p.bound.size) d.params (j + 1)
       have hP := j5 p.bound (by omega)
       rw [ay] at hP
       simp only [aj] at hP
       have hpc := DP d.params j hp
       simp only [ck,aj] at hpc
       have hw7 := oP (((S1 + aO (fun p => p.bound.size) (d.params.take j) : Nat) : Int) + (p.bound.size : Int)) (S1 + aO (fun p => p.bound.size) (d.params.take (j + 1))) (by omega) (by omega)
       have hw8 := aU j (by omega)
       refine ai tt_ok fun K hK => ?_
       simp only [NZ,go_sem]
       refine hK _ ?_
       refine aS (aL rfl (bn ?_))
       refine aS (bf ?_)
       refine ai tt_ok fun K hK => ?_
       simp only [hpc,go_sem]
       refine hK _ ?_
       refine aK tt_ok fun K hK => ?_
       simp only [go_sem]
       refine .inl ⟨_, _, by simp only [go_sem,List.take_length], hP, ?_⟩
       try simp only [go_sem]
       refine hK _ ?_
       rw [hw7]
       show cD _ _ _ _ _ _
       refine aK tt_ok fun K hK => ?_
       simp only [go_sem]
       refine hK _ ?_
       rw [hw8]
       exact ⟨d.params.length - (j + 1), by omega, 0, (false::false::false::true::(rp 9 false [true,true,true])) ++ List.replicate 42 false ++ [true,true,true], by omega, by simp only [List.replicate_succ,List.replicate_zero,List.cons_append,List.nil_append,bc,au,aD,az,zB,kC], rfl, j + 1, rfl, Nu, by simp [rp,bc]⟩
      ·have NZ := jg Nu
       have SY : j = d.params.length := by omega
       subst SY
       refine ai tt_ok fun K hK => ?_
       simp only [NZ,go_sem]
       refine hK _ ?_
       refine aS (aL rfl (dy ?_))
       try rw [List.take_length]
       show cD _ _ _ _ _ _
       refine aK tt_ok fun K hK => ?_
       simp only [go_sem]
       refine hK _ ?_
       rw [kg]
       have oE : S1 + aO (fun p => p.bound.size) d.params = 1 + m.imports.length + aO Dc.size (m.decls.take (i + 1)) := by omega
       rw [oE]
       exact ⟨m.decls.length - (i + 1), by omega, 0, (false::false::false::true::(rp 9 false [true,true,true])), by omega, by simp only [bc,au,aD,az,zB,kC], rfl, i + 1, rfl, aZ, by simp [rp,bc]⟩
    ·have d1 : decide (d.kind = 1) = false := decide_eq_false h1
     have hdz : d.size = 1 + d.params.length := by unfold Dc.size; rw [if_neg h0, if_neg h1]; rfl
     refine ai tt_ok fun K hK => ?_
     simp only [d1,go_sem]
     refine hK _ ?_
     refine aL rfl (bn ?_)
     show cD _ _ _ _ _ _
     refine aK tt_ok fun K hK => ?_
     simp only [go_sem]
     refine hK _ ?_
     rw [kg]
     have oE : S = 1 + m.imports.length + aO Dc.size (m.decls.take (i + 1)) := by omega
     rw [oE]
     exact ⟨m.decls.length - (i + 1), by omega, 0, (false::false::false::true::(rp 9 false [true,true,true])), by omega, by simp only [bc,au,aD,az,zB,kC], rfl, i + 1, rfl, aZ, by simp [rp,bc]⟩
  ·have hd := jg aZ
   refine ai tt_ok fun K hK => ?_
   simp only [hd,go_sem]
   refine hK _ ?_
   refine aS (aL rfl (dy ?_))
   have gB : i = m.decls.length := by omega
   subst gB
   show cD _ _ _ _ _ _
   refine ai tt_ok fun K hK => ?_
   simp only [go_sem]
   refine hK _ ?_
   refine aY ⟨.inl rfl, ?_⟩
   try rw [List.take_length]
   rfl
end Go.Proofs.YtnboooapeopjoaaGreatDoor
end
