/-
  CONTRACTS: the closures that compare uses, walked by the kit's own words (the library's sort asks to know their worlds whole).
  CONTRACTS: slices.SortFunc at uses, by the kit's contract.
  CONTRACTS: Mentions of the program: a type's references, in their order.
-/
import Derived.Test.YtpjdfcigadnhcaaGreatDoorF7
import Derived.Shelf.SlSortCmp.InsertionK
import Derived.Laws.Cover1
import Derived.StillTailTactics
import Derived.Lib.Small
import Derived.Lib.Walk
import Derived.Test.YtpjdfcigadnhcaaGreatDoorProg
set_option linter.all false
section
namespace Go.Proofs.YtpjdfcigadnhcaaGreatDoor
open Go.Proofs Go.Shelf Go.Lib Go.Sort Go.RowKit
theorem cell_new (V : World) (cs : Array Value) (T : TypeId) (o : Nat) : (V.alloc (.cells cs T)).cell? ⟨V.heap.size, o, none⟩ = cs[o]? := by
 unfold World.cell? World.alloc
 simp
def cmpB (x y : ByteArray) : Int := if Op.bytesLess x.toList y.toList = true then -1 else if (x.toList == y.toList) = true then 0 else 1
theorem nan125 (x : ByteArray) (w : World) : Calls Tryz.prog 125 #[.string x] w fun e w' => e = .returned (.bool false) ∧ w' = w := by
 go_enter Tryz.func125, Tryz.ntmps125
 go_wp2
 go_ret
 exact ⟨by simp, rfl⟩
set_option maxHeartbeats 2000000 in
set_option maxRecDepth 100000 in
theorem cmp85 (x y : ByteArray) (w : World) : Calls Tryz.prog 85 #[.string x, .string y] w fun e w' => e = .returned (.int .i64 (cmpB x y)) ∧ w' = w := by
 go_enter Tryz.func85, Tryz.ntmps85
 go_wp2_with (go_at_call 125; refine (nan125 _ _).mono ?_; rintro e w' ⟨rfl, hw⟩; rw [hw])
 all_goals (go_ret; refine ⟨?_, rfl⟩; unfold cmpB; simp_all)
set_option maxHeartbeats 2000000 in
set_option maxRecDepth 100000 in
theorem or84 (x y : Int) (blk c : Nat) (w : World) (h0 : w.cell? ⟨blk, 0, none⟩ = some (.int .i64 x)) (h1 : w.cell? ⟨blk, 1, none⟩ = some (.int .i64 y)) : Calls Tryz.prog 84 #[.slice (some ⟨blk, 0, none⟩) 2 c] w fun e w' => e = .returned (.int .i64 (if x = 0 then y else x)) ∧ w' = w := by
 go_enter Tryz.func84, Tryz.ntmps84
 go_wp2
 go_loopg [5,8] 2 (fun gg _ s8 wr => ∃ kk : Nat, kk ≤ 2 ∧ 2 - kk ≤ gg ∧ s8 = .int .i64 kk ∧ wr = w ∧ Aside ((0 < kk → x = 0) ∧ (1 < kk → y = 0)))
 case atStart => exact ⟨0, Nat.zero_le _, by omega, rfl, rfl, fun h => absurd h (Nat.lt_irrefl _), fun h => by omega⟩
 case round =>
  obtain ⟨kk, hkk, hg, rfl, rfl, A⟩ := hrel
  obtain rfl | rfl | rfl : kk = 0 ∨ kk = 1 ∨ kk = 2 := by omega
  ·by_cases hx : x = 0
   ·subst hx
    go_wp2
    go_roundg (1)
    case measure => omega
    case rel => exact ⟨1, by omega, by omega, by go_num, rfl, by simp, by simp⟩
   ·have hd : decide (x = 0) = false := decide_eq_false hx
    go_wp2
    all_goals (go_ret; refine ⟨?_, rfl⟩; first | rfl | simp_all)
  ·have hx : x = 0 := A.out.1 (by omega)
   subst hx
   by_cases hy : y = 0
   ·subst hy
    go_wp2
    go_roundg (0)
    case measure => omega
    case rel => exact ⟨2, by omega, by omega, by go_num, rfl, by simp, by simp⟩
   ·have hd : decide (y = 0) = false := decide_eq_false hy
    go_wp2
    all_goals (go_ret; refine ⟨?_, rfl⟩; first | rfl | simp_all)
  ·have hx : x = 0 := A.out.1 (by omega)
   have hy : y = 0 := A.out.2 (by omega)
   subst hx; subst hy
   go_wp2
   go_ret
   exact ⟨by simp, rfl⟩
set_option maxHeartbeats 4000000 in
set_option maxRecDepth 100000 in
theorem closure83 (a b c d : ByteArray) (w : World) : Calls Tryz.prog 83 #[.agg #[.string a, .string b], .agg #[.string c, .string d]] w fun e w' => e = .returned (.int .i64 (if cmpB a c = 0 then cmpB b d else cmpB a c)) ∧ ∃ q os', w' = grow (w.drewN q) os' := by
 generalize hx : cmpB a c = x
 generalize hy : cmpB b d = y
 have c1 : ∀ W, Calls Tryz.prog 85 #[.string a, .string c] W fun e w' => e = .returned (.int .i64 x) ∧ w' = W := fun W => by rw [← hx]; exact cmp85 a c W
 have c2 : ∀ W, Calls Tryz.prog 85 #[.string b, .string d] W fun e w' => e = .returned (.int .i64 y) ∧ w' = W := fun W => by rw [← hy]; exact cmp85 b d W
 have c3 : ∀ (U : World) blk c, U.cell? ⟨blk, 0, none⟩ = some (.int .i64 x) → U.cell? ⟨blk, 1, none⟩ = some (.int .i64 y) → Calls Tryz.prog 84 #[.slice (some ⟨blk, 0, none⟩) 2 c] U fun e w' => e = .returned (.int .i64 (if x = 0 then y else x)) ∧ w' = U := fun U blk c h0 h1 => or84 x y blk c U h0 h1
 generalize (if x = 0 then y else x) = r at c3 ⊢
 clear hx hy
 go_enter Tryz.func83, Tryz.ntmps83
 go_wp2
 obtain ⟨W, hW⟩ : ∃ W, W = (w.alloc (.cells #[.string a, .string b] 65)).alloc (.cells #[.string c, .string d] 65) := ⟨_, rfl⟩
 obtain ⟨n1, hn1⟩ : ∃ n, n = w.heap.size := ⟨_, rfl⟩
 have A0 : W = grow w #[.cells #[.string a, .string b] 65, .cells #[.string c, .string d] 65] := by rw [hW, alloc_eq_grow, alloc_eq_grow, grow_grow]; rfl
 have b1 : W.heap[n1]? = some (.cells #[.string a, .string b] 65) := by
  rw [A0, hn1]
  show (w.heap ++ _)[w.heap.size]? = _
  rw [Array.getElem?_append_right (Nat.le_refl _), Nat.sub_self]; rfl
 have b2 : W.heap[n1 + 1]? = some (.cells #[.string c, .string d] 65) := by
  rw [A0, hn1]
  show (w.heap ++ _)[w.heap.size + 1]? = _
  rw [Array.getElem?_append_right (Nat.le_succ _)]
  simp
 have cellat : ∀ {V : World} {k o : Nat} {cs : Array Value}, V.heap[k]? = some (.cells cs 65) → V.cell? ⟨k, o, none⟩ = cs[o]? := fun {V k o cs} h => by unfold World.cell?; rw [h]; rfl
 have A : Aside (W = grow w #[.cells #[.string a, .string b] 65, .cells #[.string c, .string d] 65]) := A0
 rw [← hW, ← hn1]
 clear hW hn1 A0
 refine wp_region_still_tail 10 (by kernel_rfl) (by kernel_rfl) ?_
 simp only [ltb]
 have f1 : W.drew.cell? ⟨n1, 0, none⟩ = some (.string a) := cellat b1
 have f2 : W.drew.cell? ⟨n1, 1, none⟩ = some (.string b) := cellat b1
 have f3 : W.drew.cell? ⟨n1 + 1, 0, none⟩ = some (.string c) := cellat b2
 have f4 : W.drew.cell? ⟨n1 + 1, 1, none⟩ = some (.string d) := cellat b2
 have hd : W.drew = W.drewN 1 := rfl
 have A2 : Aside (W.drew = grow (w.drewN 1) #[.cells #[.string a, .string b] 65, .cells #[.string c, .string d] 65]) := by show W.drew = _; rw [A.out]; rfl
 clear b1 b2 cellat hd
 change wpStill _ _ W.drew _ _ _
 generalize W.drew = V at f1 f2 f3 f4 A2 ⊢
 still_step
 still_step
 still_step
 still_step
 still_call (c1 _)
 still_step
 still_step
 still_step
 still_step
 still_call (c2 _)
 refine wpStill_nil ?_
 go_wp2_with (go_at_call 84; refine (c3 _ _ _ (cell_new _ _ _ 0) (cell_new _ _ _ 1)).mono ?_; rintro e w' ⟨rfl, hw⟩; rw [hw])
 go_ret
 refine ⟨rfl, 1, #[.cells #[.string a, .string b] 65, .cells #[.string c, .string d] 65, .cells #[.int .i64 x, .int .i64 y] 3], ?_⟩
 rw [A.out, alloc_eq_grow, grow_grow]
 rfl
theorem cmpB_ltS {x y : ByteArray} : decide (cmpB x y < 0) = Op.bytesLess x.toList y.toList := by
 unfold cmpB
 cases Op.bytesLess x.toList y.toList
 ·simp only [Bool.false_eq_true,if_false]; split <;> rfl
 ·rfl
theorem cmpB_eq {x y : ByteArray} : cmpB x y = 0 ↔ x.toList = y.toList := by
 unfold cmpB
 cases h : Op.bytesLess x.toList y.toList
 ·simp
 ·simp
  intro e
  rw [e, Proofs.bytesLess_eq] at h
  exact List.lt_irrefl _ (of_decide_eq_true h)
end Go.Proofs.YtpjdfcigadnhcaaGreatDoor
end

section
namespace Go.Eng
variable [Glob]
theorem Sim.repl {E : Env} {w w' : World} {a : Act} {st : St} (hs : Sim E w a st) {b v e g c : Nat} {rs rs' : List V} {T : TypeId} {ys : Array Value} (hm : st.mem[b]? = some (.rows v e rs)) (hb : E.blk b v = some (g, e, c)) (hF : ∀ o, E.F ⟨g, o, none⟩ = none)
  (hos : w'.os = w.os) (htape : w'.tape = w.tape) (hout : w'.output = w.output) (hsz : w.heap.size ≤ w'.heap.size) (hh : w'.heap[g]? = some (.cells ys T (0, 0))) (hother : ∀ k, k < w.heap.size → k ≠ g → w'.heap[k]? = w.heap[k]?)
  (hy1 : ys.size = c * e) (hy2 : rs'.length ≤ c) (hy3 : RowsOk E.pure e rs' (fun o => ys[o]?)) : Sim E w' a { st with mem := st.mem.set b (.rows v e rs') } ∧ Evo E w E w' := by
 have hlt := (List.getElem?_eq_some_iff.1 hm).1
 have hFg : ∀ ad x, E.F ad = some x → ad.block ≠ g := fun ad x h e => by
  have hc := hs.F ad x h
  obtain ⟨blk, off, spot⟩ := ad
  obtain rfl : blk = g := e
  have hsp : spot = none := by
   unfold World.cell? at hc
   split at hc
   ·dsimp only at hc
    cases spot with
    | none => rfl
    | some s => simp at hc
   ·cases hc
  subst hsp
  rw [hF] at h; cases h
 refine ⟨⟨fun ad x h => ?_, fun k v g e c h => Nat.lt_of_lt_of_le (hs.lt _ _ _ _ _ h) hsz, fun k B hk => ?_, fun k hk => hs.top k (by simpa using hk), fun k B hk v hv => ?_, hs.apart, hs.fr⟩,
  ⟨E.le_refl, fun k v g e c h => .inl ⟨k, v, e, c, h⟩, fun _ _ h => .inl h, hos, htape, hout, hsz, fun k hk hne => hother k hk fun e => by subst e; exact hne _ _ _ _ hb⟩⟩
 ·have h1 := hs.F ad x h
  have h2 := World.block_lt_of_cell? w ad h1
  rw [← h1]
  unfold World.cell?
  rw [hother _ h2 (hFg ad x h)]
 ·rw [List.getElem?_set] at hk
  split at hk
  ·rename_i he; subst he
   cases hk
   exact .inr ⟨g, T, ys, c, hb, hh, hy1, hy2, hy3, hF⟩
  ·rename_i hne
   refine (hs.mem k B hk).mono E.le_refl (fun _ h => h) (fun g' e' c' h => hother g' (hs.lt _ _ _ _ _ h) fun e => ?_) fun _ _ _ _ _ h => h
   subst e
   exact hne (hs.apart _ _ _ _ _ _ _ _ _ hb h)
 ·rw [List.getElem?_set] at hk
  split at hk
  ·rename_i he; subst he
   cases hk
   exact hs.ver b _ hm v hv
  ·exact hs.ver k B hk v hv
end Go.Eng
namespace Go.Proofs.YtpjdfcigadnhcaaGreatDoor
open Go.Eng
open Go.Sort (SWO grow flatK HoldsK PermIn SortedIn)
variable [Glob]
def encK (u : Us) : List Value := [.string u.1, .string u.2]
theorem flat_get (d : Array Us) (i j : Nat) (hi : i < d.size) (hj : j < 2) : (flatK encK 2 d)[i * 2 + j]! = (encK d[i]!)[j]! := by
 rw [Go.Sort.get_flatK _ _ _ _ (by omega)]
 rw [show (i * 2 + j) / 2 = i by omega, show (i * 2 + j) % 2 = j by omega]
theorem sortU_ok (g : Nat) (cf : Us → Us → Int) (hO : SWO (ltOf cf)) (eg : ∀ args w, (callFunc g args).run Tryz.prog w = .ok (.enter g args) w)
  (hcl : ∀ (x y : Us) (W : World), Calls Tryz.prog g #[.agg #[.string x.1, .string x.2], .agg #[.string y.1, .string y.2]] W fun e w' => e = .returned (.int .i64 (cf x y)) ∧ ∃ q os', w' = grow (W.drewN q) os')
  (m : List Blk) (b v : Nat) (l : List Us) (hb : m[b]? = some (.rows v 2 (l.map encU))) (h0 : 0 < l.length) (hl : l.length ≤ 1048576) :
  FnOkR Tryz.prog 43 [.ms b v 0 l.length, .sc (.func (.func g) #[] #[])] m fun r m' => r = .sc (.tuple #[]) ∧ ∃ l' : List Us, l'.Perm l ∧ (∀ (i j : Nat) (x y : Us), i < j → l'[i]? = some x → l'[j]? = some y → ltOf cf y x = false) ∧ m' = m.set b (.rows v 2 (l'.map encU)) := by
 refine ⟨Tryz.call43, fun E w xs hs hx => ?_⟩
 obtain ⟨x, ys, hxs, hr, hrest⟩ := hx.of_cons
 obtain ⟨f, zs, hys, hrf, hz⟩ := hrest.of_cons
 have hzs := hz.of_nil
 subst hzs
 have hf := rep_sc hrf
 subst hf
 obtain rfl : xs = #[x, .func (.func g) #[] #[]] := by rw [← Array.toArray_toList (xs := xs), hxs, hys]
 rcases hs.mem b _ hb with ⟨hnil, -⟩ | ⟨gb, T, cs, c, hblk, hh, hcs, hlc, hrows, hF⟩
 ·rw [List.map_eq_nil_iff] at hnil; subst hnil; simp at h0
 rw [List.length_map] at hlc
 obtain ⟨cap, rfl⟩ : ∃ cap, x = .slice (some ⟨gb, 0, none⟩) l.length cap := by
  clear hrest hx hxs hrows hl
  generalize l.length = nl at hr h0 hlc ⊢
  cases hr with
  | ms _ _ _ _ _ g' e' c' a cap hb' hl' h0' hc' =>
   rw [hblk] at hb'; cases hb'
   obtain ⟨rfl, -⟩ := h0' rfl
   exact ⟨cap, rfl⟩
  | msnil => exact absurd h0 (Nat.lt_irrefl _)
 have hcell : ∀ (i : Nat) (u : Us), l[i]? = some u → cs[i * 2]? = some (.string u.1) ∧ cs[i * 2 + 1]? = some (.string u.2) := fun i u hu => by
  obtain ⟨-, h2⟩ := hrows i (encU u) (by rw [List.getElem?_map, hu]; rfl)
  constructor
  ·obtain ⟨y, hy, -, hyr⟩ := h2 0 (str u.1) rfl
   rw [rep_sc hyr] at hy; exact hy
  ·obtain ⟨y, hy, -, hyr⟩ := h2 1 (str u.2) rfl
   rw [rep_sc hyr] at hy; exact hy
 have hgw : gb < w.heap.size := (Array.getElem?_eq_some_iff.1 hh).1
 have hget : ∀ i, i < l.length → l[i]? = some (l.toArray[i]!) := fun i hi => by
  rw [getElem!_pos l.toArray i (by simpa using hi)]
  simp [List.getElem?_eq_getElem hi]
 have hH : HoldsK encK 2 w gb 0 l.toArray := fun t ht => by
  have ht' : t < l.length * 2 := by simpa using ht
  obtain ⟨i, j, hi, hj, rfl⟩ : ∃ i j, i < l.length ∧ j < 2 ∧ t = i * 2 + j := ⟨t / 2, t % 2, by omega, by omega, by omega⟩
  have hc := hcell i _ (hget i hi)
  refine ⟨?_, by simp [World.frozen?, hh]⟩
  rw [cell_at hh, Nat.zero_add, flat_get _ _ _ (by simpa using hi) hj]
  obtain rfl | rfl : j = 0 ∨ j = 1 := by omega
  ·exact hc.1
  ·exact hc.2
 have call := AnyQ.slices_SortFunc sortUs 2 Tryz.isAgg65 Tryz.sizeOf65 encK (fun _ => rfl) (fun x v hv => by simp [encK] at hv; rcases hv with rfl | rfl <;> rfl) cf hO g #[] gb 0 cap l.toArray w eg (fun _ _ _ _ x y => hcl x y _) hH hgw (by simp; omega)
 have e1 : l.toArray.size = l.length := List.size_toArray
 rw [e1] at call
 change Calls Tryz.prog 43 _ _ _ at call
 refine call.mono ?_
 rintro e w' ⟨rfl, d', n, os, hp, hsrt, rfl⟩
 have hsize : d'.size = l.length := by rw [hp.1]; simp
 have hheap : (sortWorldK encK 2 w gb 0 n d' os).heap[gb]? = some (.cells (Go.Sort.putCells id 0 (flatK encK 2 d') cs) T (0, 0)) := by
  show (_ ++ os)[gb]? = _
  rw [Array.getElem?_append_left (by simpa [Go.Sort.putRowK] using hgw)]
  show ((w.heap.modify gb _))[gb]? = _
  rw [Array.getElem?_modify, if_pos rfl, hh]; rfl
 obtain ⟨h1, h2⟩ := hs.repl (w' := sortWorldK encK 2 w gb 0 n d' os) (rs' := d'.toList.map encU) hb hblk hF rfl rfl rfl (by
   show _ ≤ (_ ++ os).size
   rw [Array.size_append]
   show _ ≤ (w.heap.modify gb _).size + _
   rw [Array.size_modify]; omega) hheap (fun k hk hne => by
   show (_ ++ os)[k]? = _
   rw [Array.getElem?_append_left (by simpa [Go.Sort.putRowK] using hk)]
   show ((w.heap.modify gb _))[k]? = _
   rw [Array.getElem?_modify, if_neg (fun e => hne e.symm)]) (by simp [Go.Sort.putCells, hcs]) (by simp [hsize]; exact hlc) (fun i row hi => by
   rw [List.getElem?_map, Option.map_eq_some_iff] at hi
   obtain ⟨u, hu, rfl⟩ := hi
   have hid : i < d'.size := by simpa using (List.getElem?_eq_some_iff.1 hu).1
   have hu' : d'[i]! = u := by
    rw [getElem!_pos d' i hid]
    have := (List.getElem?_eq_some_iff.1 hu).2
    simpa using this
   have key : ∀ j, j < 2 → (Go.Sort.putCells id 0 (flatK encK 2 d') cs)[i * 2 + j]? = some ((encK u)[j]!) := fun j hj => by
    have hlt : i * 2 + j < cs.size := by rw [hcs]; omega
    unfold Go.Sort.putCells
    rw [Array.getElem?_mapIdx, Array.getElem?_eq_getElem hlt, Option.map_some, if_pos ⟨Nat.zero_le _, by simp; omega⟩]
    simp only [id,Nat.sub_zero]
    rw [flat_get _ _ _ hid hj, hu']
   refine ⟨rfl, fun j cc hj => ?_⟩
   match j, hj with
   | 0, hj => cases hj; exact ⟨.string u.1, by simpa [encK] using key 0 (by omega), rfl, .sc _ _⟩
   | 1, hj => cases hj; exact ⟨.string u.2, by simpa [encK] using key 1 (by omega), rfl, .sc _ _⟩
   | j + 2, hj => simp [encU, V.cells] at hj)
 refine ⟨E, _, _, _, rfl, ⟨rfl, d'.toList, ?_, ?_, rfl⟩, h2, h1, .sc _ _⟩
 ·have := hp.2.2
  simpa [hsize, Array.extract_eq_self_of_le] using this
 ·intro i j x y hij hxi hyj
  have hj : j < d'.size := by simpa using (List.getElem?_eq_some_iff.1 hyj).1
  have ex : d'[i]! = x := by
   rw [getElem!_pos d' i (by omega)]
   have := (List.getElem?_eq_some_iff.1 hxi).2
   simpa using this
  have ey : d'[j]! = y := by
   rw [getElem!_pos d' j hj]
   have := (List.getElem?_eq_some_iff.1 hyj).2
   simpa using this
  have := hsrt i j (Nat.zero_le _) hij (by simpa [hsize] using hj)
  rw [ex, ey] at this
  exact this
end Go.Proofs.YtpjdfcigadnhcaaGreatDoor
end

section
namespace Go.Proofs.YtpjdfcigadnhcaaGreatDoor
open Go.Eng
open Nat (reduceAdd reduceLT reduceLeDiff reduceMul reduceEqDiff reduceSub)
variable [Glob]
set_option maxHeartbeats 4000000
set_option maxRecDepth 100000
theorem noNat_ok : NatFOk Tryz.prog (fun _ _ => none) := fun f vs r h => by cases h
theorem sortNil_ok : FnOk Tryz.prog 43 [.slice [], .sc (.func (.func 83) #[] #[])] (.tup []) := ev_call noOrc_ok noNat_ok 3000 (by kernel_rfl)
def cf83 (x y : Us) : Int := if cmpB x.1 y.1 = 0 then cmpB x.2 y.2 else cmpB x.1 y.1
theorem ltO83 (x y : Us) : ltOf cf83 x y = ltU x y := by
 have key : ∀ a b : ByteArray, decide (cmpB a b < 0) = ltS a b := fun a b => cmpB_ltS
 show decide (cf83 x y < 0) = ltU x y
 unfold ltU
 by_cases h : cmpB x.1 y.1 = 0
 ·have e1 : x.1 = y.1 := tl_eq (cmpB_eq.1 h)
  have e2 : ltS x.1 y.1 = false := by rw [e1]; exact lin_str.irrefl _
  have e3 : cf83 x y = cmpB x.2 y.2 := if_pos h
  rw [e3, key, e2, decide_eq_true e1]; rfl
 ·have e1 : ¬ x.1 = y.1 := fun e => h (cmpB_eq.2 (by rw [e]))
  have e3 : cf83 x y = cmpB x.1 y.1 := if_neg h
  rw [e3, key, decide_eq_false e1, Bool.false_and, Bool.or_false]
theorem lin_swo {α : Type} {lt : α → α → Bool} (h : Lin lt) : Go.Sort.SWO lt := by
 refine ⟨h.irrefl, h.trans, fun x y z h1 h2 => ?_⟩
 cases h3 : lt x z with
 | false => rfl
 | true =>
  cases h4 : lt y x with
  | true => have := h.trans y x z h4 h3; rw [h2] at this; cases this
  | false => rw [h.tri x y h1 h4, h2] at h3; cases h3
theorem swo83 : Go.Sort.SWO (ltOf cf83) := by
 have e : ltOf cf83 = ltU := by funext x y; exact ltO83 x y
 rw [e]; exact lin_swo lin_us
theorem ukeys_ok (m : List Blk) (kb : Nat) (hkb : kb < m.length) (hb : m.all (belowB (m.length + 1)) = true) : FnOkS Tryz.prog 82 [.mp kb] m (.clo (.func 124) [] [.ptr m.length 0]) (m ++ [.box [.mp kb]]) := by
 refine fns_ok tt_ok (fn := Tryz.f82) (m.length + 1) (by omega) Tryz.func82 rfl Tryz.call82 ?_
 simp only [ltb,startSt,Tryz.ntmps82,List.length_cons,List.length_nil,reduceAdd,reduceSub,List.replicate_succ,List.replicate_zero]
 refine tri_seq_region tt_ok fun K hK => ?_
 simp only [go_sem,reduceIte,reduceAdd,reduceLT,reduceLeDiff,reduceMul,reduceEqDiff,reduceSub,reduceCtorEq]
 refine hK _ ?_
 refine tri_seq_region tt_ok fun K hK => ?_
 simp only [go_sem,reduceIte,reduceAdd,reduceLT,reduceLeDiff,reduceMul,reduceEqDiff,reduceSub,reduceCtorEq]
 refine hK _ ?_
 have ht : ∀ B : Blk, (m ++ [B]).take (m.length + 1) = m ++ [B] := fun B => List.take_of_length_le (by simp)
 refine tri_ret ⟨.inl rfl, rfl, by simp [belowV, belowL], ?_, ?_⟩
 ·dsimp only; rw [ht]; simp [hb, belowB, belowV]; omega
 ·dsimp only; rw [ht]
theorem ucoll_ok (m : List Blk) (kc kb : Nat) {kvs : List Ent} {clock : Nat} (hkc : m[kc]? = some (.box [.mp kb])) (hkb : m[kb]? = some (.map kvs clock)) (hg : UGood (kvs, clock)) (hlen : kvs.length ≤ 1048576) (hb : m.all (belowB m.length) = true) :
  FnOkR Tryz.prog 123 [.clo (.func 124) [] [.ptr kc 0]] m fun r m' => ∃ l : List Us, l.Perm (kvs.map keyU) ∧ r = .ms (m.length + 1) l.length 0 l.length ∧ m' = m ++ [.box [.ms (m.length + 1) l.length 0 l.length], .rows l.length 2 (l.map encU)] := by
 refine fnr_ok tt_ok (fn := Tryz.f123) Tryz.func123 rfl Tryz.call123 ?_
 simp only [ltb,startSt,Tryz.ntmps123,List.length_cons,List.length_nil,reduceAdd,reduceSub,List.replicate_succ,List.replicate_zero]
 refine tri_seq_region tt_ok fun K hK => ?_
 simp only [go_sem,reduceIte,reduceAdd,reduceLT,reduceLeDiff,reduceMul,reduceEqDiff,reduceSub,reduceCtorEq]
 refine hK _ ?_
 refine tri_seq_region tt_ok fun K hK => ?_
 simp only [go_sem,reduceIte,reduceAdd,reduceLT,reduceLeDiff,reduceMul,reduceEqDiff,reduceSub,reduceCtorEq]
 refine .inr <| .inr <| .inl ⟨_, useq_ok m kc kb hkc hkb hg hlen hb, ?_⟩
 rintro r m' ⟨l, hl, rfl, rfl⟩
 try simp only [go_sem,reduceIte,reduceAdd,reduceLT,reduceLeDiff,reduceMul,reduceEqDiff,reduceSub,reduceCtorEq]
 refine hK _ ?_
 have ht : ∀ l : List Blk, (m ++ l).take (m.length + 2) = m ++ l.take 2 := fun l => by rw [List.take_append, List.take_of_length_le (by omega), Nat.add_sub_cancel_left]
 refine tri_ret ⟨.inl rfl, .ms (m.length + 1) l.length 0 l.length, m.length + 2, by omega, rfl, by simp [belowV], ?_, l, hl, rfl, ?_⟩
 ·dsimp only
  rw [ht, List.all_append, Bool.and_eq_true]
  exact ⟨belowBs_mono (by omega) hb, by simp [belowB, belowV]⟩
 ·dsimp only
  rw [ht]; rfl
theorem asc_of {l : List Us} (hn : l.Nodup) (h : ∀ (i j : Nat) (x y : Us), i < j → l[i]? = some x → l[j]? = some y → ltU y x = false) : Asc ltU l := by
 refine List.pairwise_iff_getElem.2 fun i j hi hj hij => ?_
 have h1 := h i j _ _ hij (List.getElem?_eq_getElem hi) (List.getElem?_eq_getElem hj)
 cases h2 : ltU l[i] l[j] with
 | true => rfl
 | false => exact absurd (lin_us.tri _ _ h2 h1) (List.pairwise_iff_getElem.1 hn i j hi hj hij)
theorem usort_ok (m : List Blk) (kc kb : Nat) {kvs : List Ent} {clock : Nat} (hkc : m[kc]? = some (.box [.mp kb])) (hkb : m[kb]? = some (.map kvs clock)) (hg : UGood (kvs, clock)) (hlen : kvs.length ≤ 1048576) (hb : m.all (belowB m.length) = true)
  (L : List Us) (hL : Asc ltU L) (hmem : ∀ x, x ∈ L ↔ x ∈ kvs.map keyU) :
  FnOkS Tryz.prog 81 [.clo (.func 124) [] [.ptr kc 0], .sc (.func (.func 83) #[] #[])] m (.ms (m.length + 1) L.length 0 L.length) (m ++ [.box [.ms (m.length + 1) L.length 0 L.length], .rows L.length 2 (L.map encU)]) := by
 refine FnOkR.det ?_
 refine fnr_ok tt_ok (fn := Tryz.f81) Tryz.func81 rfl Tryz.call81 ?_
 simp only [ltb,startSt,Tryz.ntmps81,List.length_cons,List.length_nil,reduceAdd,reduceSub,List.replicate_succ,List.replicate_zero]
 have a1 : ∀ l : List Blk, (m ++ l)[m.length + 1]? = l[1]? := fun l => by rw [List.getElem?_append_right (by omega), Nat.add_sub_cancel_left]
 have s1 : ∀ (l : List Blk) X, (m ++ l).set (m.length + 1) X = m ++ l.set 1 X := fun l X => by rw [List.set_append_right _ _ (by omega), Nat.add_sub_cancel_left]
 have ht : ∀ l : List Blk, (m ++ l).take (m.length + 2) = m ++ l.take 2 := fun l => by rw [List.take_append, List.take_of_length_le (by omega), Nat.add_sub_cancel_left]
 refine tri_seq_region tt_ok fun K hK => ?_
 simp only [go_sem,reduceIte,reduceAdd,reduceLT,reduceLeDiff,reduceMul,reduceEqDiff,reduceSub,reduceCtorEq]
 refine hK _ ?_
 refine tri_seq_region tt_ok fun K hK => ?_
 simp only [go_sem,reduceIte,reduceAdd,reduceLT,reduceLeDiff,reduceMul,reduceEqDiff,reduceSub,reduceCtorEq]
 refine .inr <| .inr <| .inl ⟨_, ucoll_ok m kc kb hkc hkb hg hlen hb, ?_⟩
 rintro r m' ⟨l, hl, rfl, rfl⟩
 try simp only [go_sem,reduceIte,reduceAdd,reduceLT,reduceLeDiff,reduceMul,reduceEqDiff,reduceSub,reduceCtorEq]
 refine hK _ ?_
 have hnd : l.Nodup := hl.nodup_iff.2 hg.nodup
 have hll : l.length ≤ 1048576 := by rw [hl.length_eq, List.length_map]; exact hlen
 refine tri_seq_region tt_ok fun K hK => ?_
 simp only [go_sem,reduceIte,reduceAdd,reduceLT,reduceLeDiff,reduceMul,reduceEqDiff,reduceSub,reduceCtorEq]
 have fin : ∀ l' : List Us, l'.Perm l → Asc ltU l' → l' = L := fun l' hp ha => Asc.ext lin_us ha hL fun x => by rw [hp.mem_iff, hl.mem_iff, hmem]
 have hll2 : l.length = L.length := by
  have h1 : L.Nodup := hL.imp fun h e => by subst e; rw [lin_us.irrefl] at h; cases h
  have h2 : l.Perm L := (List.perm_ext_iff_of_nodup hnd h1).2 fun x => by rw [hl.mem_iff, hmem]
  exact h2.length_eq
 rcases Nat.eq_zero_or_pos l.length with h0 | h0
 ·obtain rfl : l = [] := List.length_eq_zero_iff.1 h0
  obtain rfl : [] = L := fin [] (List.Perm.refl _) List.Pairwise.nil
  refine .inl ⟨[.slice [], .sc (.func (.func 83) #[] #[])], _, by simp [purL, pur1, purCell, a1, nilS], sortNil_ok, ?_⟩
  simp only [memAfter,flatV,if_true,go_sem,reduceIte,reduceAdd,reduceLT,reduceLeDiff,reduceMul,reduceEqDiff,reduceSub,reduceCtorEq]
  refine hK _ ?_
  refine tri_seq_region tt_ok fun K hK => ?_
  simp only [go_sem,reduceIte,reduceAdd,reduceLT,reduceLeDiff,reduceMul,reduceEqDiff,reduceSub,reduceCtorEq]
  refine hK _ ?_
  refine tri_ret ⟨.inl rfl, _, m.length + 2, by omega, rfl, by simp [belowV], ?_, rfl, ?_⟩
  ·dsimp only
   rw [ht, List.all_append, Bool.and_eq_true]
   exact ⟨belowBs_mono (by omega) hb, by simp [belowB, belowV]⟩
  ·dsimp only
   rw [ht]; rfl
 ·refine .inr <| .inr <| .inl ⟨_, sortU_ok 83 cf83 swo83 Tryz.call83 (fun x y W => closure83 x.1 x.2 y.1 y.2 W) _ (m.length + 1) l.length l (by rw [a1]; rfl) h0 hll, ?_⟩
  rintro r m' ⟨rfl, l', hp, hs, rfl⟩
  obtain rfl : l' = L := fin l' hp (asc_of (hp.nodup_iff.2 hnd) fun i j x y h1 h2 h3 => by rw [← ltO83]; exact hs i j x y h1 h2 h3)
  simp only [s1,List.set_cons_succ,List.set_cons_zero,hll2]
  try simp only [go_sem,reduceIte,reduceAdd,reduceLT,reduceLeDiff,reduceMul,reduceEqDiff,reduceSub,reduceCtorEq]
  refine hK _ ?_
  refine tri_seq_region tt_ok fun K hK => ?_
  simp only [go_sem,reduceIte,reduceAdd,reduceLT,reduceLeDiff,reduceMul,reduceEqDiff,reduceSub,reduceCtorEq]
  refine hK _ ?_
  refine tri_ret ⟨.inl rfl, _, m.length + 2, by omega, rfl, by simp [belowV], ?_, rfl, ?_⟩
  ·dsimp only
   rw [ht, List.all_append, Bool.and_eq_true]
   exact ⟨belowBs_mono (by omega) hb, by simp [belowB, belowV]⟩
  ·dsimp only
   rw [ht]; rfl
theorem ment_ok (t : Ty) (ht : t.size ≤ 1048576) : FnOk Tryz.prog 39 [encTy t] (.slice ((gathT ltU usOf t).map encU)) := by
 have hvl := useMap_length t
 have h51 := fun B0 B1 B2 h => types_ok t [B0, B1, B2] h
 refine fn_ok tt_ok (fn := Tryz.f39) Tryz.func39 rfl Tryz.call39 ?_
 simp only [ltb,startSt,Tryz.ntmps39,List.length_cons,List.length_nil,reduceAdd,reduceSub,List.replicate_succ,List.replicate_zero]
 rw [encTy_eq] at h51 ⊢
 simp only [tyCells] at h51 ⊢
 refine tri_seq_region tt_ok fun K hK => ?_
 simp only [go_sem,reduceIte,reduceAdd,reduceLT,reduceLeDiff,reduceMul,reduceEqDiff,reduceSub,reduceCtorEq]
 refine hK _ ?_
 refine tri_seq_region tt_ok fun K hK => ?_
 simp only [go_sem,reduceIte,reduceAdd,reduceLT,reduceLeDiff,reduceMul,reduceEqDiff,reduceSub,reduceCtorEq]
 refine hK _ ?_
 refine tri_seq ?_
 refine tri_seq_region tt_ok fun K hK => ?_
 simp only [go_sem,reduceIte,reduceAdd,reduceLT,reduceLeDiff,reduceMul,reduceEqDiff,reduceSub,reduceCtorEq]
 refine .inr <| .inl ⟨_, _, h51 _ _ _ rfl, ?_⟩
 try simp only [go_sem,reduceIte,reduceAdd,reduceLT,reduceLeDiff,reduceMul,reduceEqDiff,reduceSub,reduceCtorEq]
 refine hK _ ?_
 refine tri_block (triP_types (t := t) (B := 1048576) (fun s : { s // UGood s } => [.box (tyCells t), .map s.1.1 s.1.2, .box [.mp 1], .box (tyCells t)]) ⟨([], 0), UGood.nil⟩ 4 3 rfl (fun _ => rfl) (by omega) (fun _ => rfl) (fun s => ?_) rfl rfl rfl (fun s u => (stepU s u, none)) (by omega) ht (fun _ => True) (fun _ _ => trivial) ?_ ?_)
 ·show (true && ((s.1.1.all fun e => belowV 5 e.2.2) && (true && (true && true)))) = true
  rw [s.2.below 5]; rfl
 ·intro s u hu hn l LR LB hLR hLB
  obtain ⟨hi, -, -⟩ := insU_ok s (u.mod, u.name)
  have hins := fun B0 B2 B3 B4 B5 => insertV_us (mem := [B0, .map s.1.1 s.1.2, B2, B3, B4, B5]) (b := 1) (u.mod, u.name) hi rfl
  rw [encTy_eq]
  simp only [ltb,setPs,tyCells,List.set_cons_succ,List.set_cons_zero]
  refine tri_last_region tt_ok fun K hK => ?_
  simp only [go_sem,reduceIte,reduceAdd,reduceLT,reduceLeDiff,reduceMul,reduceEqDiff,reduceSub,reduceCtorEq]
  refine hK _ ?_
  refine ⟨rfl, rfl, tri_block ?_⟩
  simp only [List.set_cons_succ,List.set_cons_zero]
  cases h9 : decide (u.kind = 10) with
  | true =>
   have e0 : stepU s u = insU s (u.mod, u.name) := by unfold stepU; rw [if_pos h9]
   rw [e0]
   refine tri_seq_region tt_ok fun K hK => ?_
   simp only [h9,go_sem,reduceIte,reduceAdd,reduceLT,reduceLeDiff,reduceMul,reduceEqDiff,reduceSub,reduceCtorEq]
   refine hK _ ?_
   refine tri_cond rfl ?_
   refine tri_last_region tt_ok fun K hK => ?_
   simp only [hins,go_sem,reduceIte,reduceAdd,reduceLT,reduceLeDiff,reduceMul,reduceEqDiff,reduceSub,reduceCtorEq]
   refine hK _ ?_
   exact ⟨rfl, rfl, rfl⟩
  | false =>
   have e0 : stepU s u = s := by unfold stepU; rw [h9]; rfl
   rw [e0]
   refine tri_seq_region tt_ok fun K hK => ?_
   simp only [h9,go_sem,reduceIte,reduceAdd,reduceLT,reduceLeDiff,reduceMul,reduceEqDiff,reduceSub,reduceCtorEq]
   refine hK _ ?_
   refine tri_cond rfl (tri_skip ?_)
   exact ⟨rfl, rfl, rfl⟩
 ·rw [stepJ_pure]
  have ev : t.nodes.foldl stepU ⟨([], 0), UGood.nil⟩ = useMap t := rfl
  rw [ev]
  have hmem : ∀ x, x ∈ gathT ltU usOf t ↔ x ∈ (useMap t).1.1.map keyU := fun x => by rw [gathT_mem, useMap_mem]
  obtain ⟨s, hs⟩ : ∃ s, s = useMap t := ⟨_, rfl⟩
  rw [← hs] at hvl hmem ⊢
  show Tri _ _ _ _ _ _
  have h82 := ukeys_ok [.box (tyCells t), .map s.1.1 s.1.2, .box [.mp 1], .box (tyCells t), .dead] 1 (by simp) (by
   show (true && ((s.1.1.all fun e => belowV 6 e.2.2) && (true && (true && (true && true))))) = true
   rw [s.2.below 6]; rfl)
  have h81 := usort_ok ([.box (tyCells t), .map s.1.1 s.1.2, .box [.mp 1], .box (tyCells t), .dead] ++ [.box [.mp 1]]) 5 1 rfl rfl s.2 (Nat.le_trans hvl ht) (by
   show (true && ((s.1.1.all fun e => belowV 6 e.2.2) && (true && (true && (true && (true && true)))))) = true
   rw [s.2.below 6]; rfl) (gathT ltU usOf t) (gathT_asc lin_us usOf_len t) hmem
  simp only [ltb,tyCells,List.length_cons,List.length_nil,reduceAdd] at h82 h81
  refine tri_seq_region tt_ok fun K hK => ?_
  simp only [go_sem,reduceIte,reduceAdd,reduceLT,reduceLeDiff,reduceMul,reduceEqDiff,reduceSub,reduceCtorEq]
  refine .inr <| .inl ⟨_, _, h82, ?_⟩
  try simp only [go_sem,reduceIte,reduceAdd,reduceLT,reduceLeDiff,reduceMul,reduceEqDiff,reduceSub,reduceCtorEq]
  refine .inr <| .inl ⟨_, _, h81, ?_⟩
  try simp only [go_sem,reduceIte,reduceAdd,reduceLT,reduceLeDiff,reduceMul,reduceEqDiff,reduceSub,reduceCtorEq]
  refine hK _ ?_
  refine tri_ret ⟨.inl rfl, ?_⟩
  simp [retV, resL, resV, Tryz.f39, pur, pur1, purCell, take_len_map]
end Go.Proofs.YtpjdfcigadnhcaaGreatDoor
end
