-- This session's own text, written by wip/tools/xall.py after the form of the kit's print.
import Derived.Test.YtpioelilfhkfdaaXAllx0
import Derived.Test.YtpioelilfhkfdaaXAllx5
namespace Go.Proofs.Ytpioelilfhkfdaa.XAll
open Go.RowKit Go.Proofs.YtpioelilfhkfdaaW.PrintWords Go.Proofs.YtpioelilfhkfdaaW.PrintLast Go.Proofs.YtpioelilfhkfdaaW.PrintMore
attribute [local go_sem] max2_int min2_int max_two min_two max_three min_three max_four min_four   -- for this text's walks alone
set_option linter.unusedVariables false
set_option linter.unusedSimpArgs false

/-! ### search_finder_fits: function 75 -/
/-- The duration of an activity between two times. -/
def lastsF (P : Int) (a : S62) (x y : Int) : Int := a.f3 + (y - x - a.f3) % P
/-- The cost with the slacks of the activities that are ready now; none: one is not satisfied. -/
def fitsF (P : Int) (ac : List S62) (ts : List Int) : List Int → Int → Option Int
 | [], s => some s
 | k :: ks, s => if lastsF P (rd_T62 ac k) (rd ts (rd_T62 ac k).f1) (rd ts (rd_T62 ac k).f2) > (rd_T62 ac k).f4 then none else fitsF P ac ts ks (s + (rd_T62 ac k).f5 * (lastsF P (rd_T62 ac k) (rd ts (rd_T62 ac k).f1) (rd ts (rd_T62 ac k).f2) - (rd_T62 ac k).f3))
/-- An activity of a permitted network. -/
structure GoodAct (P : Int) (n : Nat) (a : S62) : Prop where
 f1 : 0 ≤ a.f1 ∧ a.f1 < n
 f2 : 0 ≤ a.f2 ∧ a.f2 < n
 f3 : -65536 ≤ a.f3 ∧ a.f3 ≤ 65536
 f4 : a.f3 ≤ a.f4 ∧ a.f4 ≤ 65536
 f5 : 0 ≤ a.f5 ∧ a.f5 ≤ 1048576
theorem mod_f (a b : Int) (h : 1 ≤ b) (hb : b ≤ 1000000) (ha : -1000000000 ≤ a ∧ a ≤ 1000000000) : arith_Mod.f a b = some (a % b) := by
 unfold arith_Mod.f
 rw [if_neg (by omega), if_neg (by omega)]
 have h3 := Int.tmod_eq_emod (a := a) (b := b)
 have h4 := Int.emod_nonneg a (show b ≠ 0 by omega)
 have h5 := Int.emod_lt_of_pos a (show 0 < b by omega)
 by_cases hd : 0 ≤ a ∨ b ∣ a
 ·rw [if_pos hd] at h3
  rw [if_neg (by omega)]
  simp [h3]
 ·rw [if_neg hd] at h3
  have hz : a % b ≠ 0 := fun hz => hd (.inr (Int.dvd_of_emod_eq_zero hz))
  have hn : (b.natAbs : Int) = b := by omega
  rw [if_pos (by omega)]
  have e : wrap64 (a.tmod b + b) = a % b := by unfold wrap64; omega
  rw [e]
theorem lasts_f (P : Int) (a : S62) (x y : Int) (hP : 2 ≤ P ∧ P ≤ 7200) (h3 : -65536 ≤ a.f3 ∧ a.f3 ≤ 65536) (hx : 0 ≤ x ∧ x ≤ 7200) (hy : 0 ≤ y ∧ y ≤ 7200) : network_Lasts.f P a.f0 a.f1 a.f2 a.f3 a.f4 a.f5 x y = some (lastsF P a x y) := by
 unfold network_Lasts.f lastsF
 have e1 : wrap64 (y - x) = y - x := by unfold wrap64; omega
 have e2 : wrap64 (y - x - a.f3) = y - x - a.f3 := by unfold wrap64; omega
 rw [e1, e2, mod_f _ _ (by omega) (by omega) (by omega)]
 have h1 := Int.emod_nonneg (y - x - a.f3) (show P ≠ 0 by omega)
 have h2 := Int.emod_lt_of_pos (y - x - a.f3) (show 0 < P by omega)
 have e3 : wrap64 (a.f3 + (y - x - a.f3) % P) = a.f3 + (y - x - a.f3) % P := by unfold wrap64; omega
 show some (wrap64 (a.f3 + (y - x - a.f3) % P)) = _
 rw [e3]
theorem ints_cell {w : World} {T : Nat} {ts : List Int} (h : w.heap[T]? = some (.cells (ts.map (Value.int .i64)).toArray 3 (0, 0))) (i : Int) (h0 : 0 ≤ i) (h1 : i < ts.length) : w.cell? ⟨T, i.toNat, none⟩ = some (.int .i64 (rd ts i)) := by
 rw [qe h]
 have hl : i.toNat < ts.length := by omega
 unfold rd
 simp [List.getElem?_eq_getElem hl, List.getD_eq_getElem?_getD]
theorem rd36' (l : List S62) (i : Int) (h0 : 0 ≤ i) (h : i < l.length) : rd_T62 l i ∈ l := by
 unfold rd_T62
 rw [List.getD_eq_getElem?_getD, List.getElem?_eq_getElem (show i.toNat < l.length by omega)]
 exact List.getElem_mem _
def rdL (xs : List (List Int)) (i : Int) : List Int := xs.getD i.toNat ([] : List Int)
theorem atL {w : World} {A : Option Addr} {n : Nat} {xs : List (List Int)} (h : Kd.C (Kd.slice 3 (Kd.int .i64)) w A n xs) (i : Int) (h0 : 0 ≤ i) (h1 : i < n) : ∃ ad A0 c0, A = some ad ∧ w.cell? (ad.add i.toNat) = some (.slice A0 (rdL xs i).length c0) ∧ (rdL xs i).length ≤ c0 ∧ (Kd.int .i64).C w A0 (rdL xs i).length (rdL xs i) := by
 obtain ⟨ad, c, e, _, hK, hc0⟩ := Kd.C_get h ([] : List Int) i h0 h1
 have hc : ∀ j u, c[j]? = some u → w.cell? (ad.add (i.toNat * 1 + j)) = some u := hc0
 obtain ⟨A0, c0, rfl, l0, g0⟩ := hK
 exact ⟨ad, A0, c0, e, by have hq := hc 0 _ rfl; rwa [Nat.mul_one, Nat.add_zero] at hq, l0, g0⟩
/-- A region that draws: all but its last operations read; the world under a name of its own. -/
theorem still_tail {P : Program} {id : Nat} {Q : Exit → Act → World → Prop} {a : Act} {w : World} {l : List Oper} (n : Nat) (hm : P.follows .mixedOrders = true) (hB : Region.lexTailB .any l.toArray n = true)
  (h : ∀ wd : World, wd = w.drew → wpStill P l.toArray wd (fun a' => wpList P l.toArray Q (l.drop n) a' wd) (l.take n) a) : (Code.region id l.toArray true).wp P Q a w :=
 wp_region_still_tail n hm hB (h _ rfl)
/-- The finder's blocks: the state, and the times. -/
def FS (g T : Nat) : Nat → Prop := fun k => k = g ∨ k = T
set_option maxHeartbeats 2000000 in
set_option maxRecDepth 10000 in
theorem fits_calls (P : Int) (ac : List S62) (ts : List Int) (rdy : List (List Int)) (g T : Nat) (vE vF vS : Value) (Aa Ar : Option Addr) (ca cr cT : Nat) (all broken found : Bool) (left cost : Int) (W : World) (ev : Nat) (s : Int)
  (hg : W.heap[g]? = some (.cells #[.int .i64 P, vE, .slice Aa ac.length ca, vF, .slice Ar rdy.length cr, .bool all, .int .i64 left, .slice (some ⟨T, 0, none⟩) ts.length cT, .bool broken, .bool found, vS, .int .i64 cost] 103 (0, 0)))
  (hT : W.heap[T]? = some (.cells (ts.map (Value.int .i64)).toArray 3 (0, 0)))
  (hac : ∀ W', Kept W W' (FS g T) → Kd.C k62 W' Aa ac.length ac) (hrd : ∀ W', Kept W W' (FS g T) → Kd.C (Kd.slice 3 (Kd.int .i64)) W' Ar rdy.length rdy)
  (hev : ev < rdy.length) (hP : 2 ≤ P ∧ P ≤ 7200) (hgood : ∀ a ∈ ac, GoodAct P ts.length a) (hts : ∀ i, 0 ≤ i → i < (ts.length : Int) → 0 ≤ rd ts i ∧ rd ts i ≤ 7200) (hks : ∀ k ∈ rdL rdy (ev : Int), 0 ≤ k ∧ k < (ac.length : Int)) (hlen : (rdL rdy (ev : Int)).length ≤ 512) (hs : -1000000000000000 ≤ s ∧ s ≤ 1000000000000000) :
  Calls Try.prog 75 #[.pointer (some ⟨g, 0, none⟩), .int .i64 (ev : Int), .int .i64 s] W fun e w' => e = .returned (.tuple #[.int .i64 ((fitsF P ac ts (rdL rdy (ev : Int)) s).getD 0), .bool (fitsF P ac ts (rdL rdy (ev : Int)) s).isSome]) ∧ Below W.heap.size W w' := by
 have HG := qo hg
 have HT := qo hT
 have HAC := qo hac
 have HGOOD := qo hgood
 have HTS := qo hts
 have HKS := qo hks
 obtain ⟨ad, A0, c0, rfl, hrow, hcap, hC⟩ := atL (hrd W (Kept.refl _ _)) (ev : Int) (by omega) (by omega)
 rw [Int.toNat_natCast] at hrow
 generalize hl : rdL rdy (ev : Int) = l at *
 have HC := qo hC
 have hg4 : W.cell? ⟨g, 4, none⟩ = some (.slice (some ad) rdy.length cr) := (qe hg 4).trans rfl
 clear hg hT hac hrd hgood hts hks hC hl hcap
 go_enter Try.func75, Try.ntmps75
 go_wp2_with fail
 have hll : l.length ≤ 512 := hlen
 go_loopg [2, 20] l.length (fun kq v2 v20 w' => ∃ (i : Nat) (s1 : Int), v2 = .int .i64 s1 ∧ v20 = .int .i64 i ∧ Aside0 (i + kq = l.length) ∧ Aside0 (fitsF P ac ts (l.drop i) s1 = fitsF P ac ts l s) ∧ Aside0 (-1000000000000000 - 137506062336 * (i : Int) ≤ s1 ∧ s1 ≤ 1000000000000000 + 137506062336 * (i : Int)) ∧ Aside0 (Below W.heap.size W w'))
 case atStart => exact ⟨0, s, rfl, rfl, ⟨by omega⟩, ⟨rfl⟩, ⟨by omega⟩, ⟨qaj _ _⟩⟩
 case round =>
  obtain ⟨i, s1, rfl, rfl, HK, HE, HS, HB⟩ := hrel
  have hle : i ≤ l.length := by have := HK.out; omega
  by_cases hlt : i < l.length
  ·obtain ⟨ad0, hA0, hc0⟩ := Kd.at_int (qs HC.out HB.out) (i : Int) (by omega) (by omega)
   obtain rfl := hA0
   rw [Int.toNat_natCast] at hc0
   have hk := HKS.out (rd l (i : Int)) (by unfold rd; rw [Int.toNat_natCast, List.getD_eq_getElem?_getD, List.getElem?_eq_getElem hlt]; exact List.getElem_mem _)
   have hd : l.drop i = rd l (i : Int) :: l.drop (i + 1) := by
    unfold rd
    rw [Int.toNat_natCast, List.getD_eq_getElem?_getD, List.getElem?_eq_getElem hlt]
    exact List.drop_eq_getElem_cons hlt
   have HD := qo hd
   clear hd
   generalize hkk : rd l (i : Int) = k at *
   clear hkk
   obtain ⟨hk0, hk1⟩ := hk
   have hga := HGOOD.out _ (rd36' ac k hk0 hk1)
   obtain ⟨aa, rfl, ha0, ha1, ha2, ha3, ha4, ha5⟩ := at_T62 (HAC.out wr (Kept.of_below HB.out _)) k hk0 hk1
   generalize hx : rd_T62 ac k = x at *
   have HX := qo hx
   clear hx
   obtain ⟨⟨q1, q1'⟩, ⟨q2, q2'⟩, ⟨q3, q3'⟩, ⟨q4, q4'⟩, q5, q5'⟩ := hga
   have hg := qaa HG.out HB.out
   have hTr := qaa HT.out HB.out
   have hg0 : wr.cell? ⟨g, 0, none⟩ = some (.int .i64 P) := (qe hg 0).trans rfl
   have hg2 : wr.cell? ⟨g, 2, none⟩ = some (.slice (some aa) ac.length ca) := (qe hg 2).trans rfl
   have hg7 : wr.cell? ⟨g, 7, none⟩ = some (.slice (some ⟨T, 0, none⟩) ts.length cT) := (qe hg 7).trans rfl
   have ht1 := ints_cell hTr x.f1 q1 q1'
   have ht2 := ints_cell hTr x.f2 q2 q2'
   have hb1 := HTS.out x.f1 q1 q1'
   have hb2 := HTS.out x.f2 q2 q2'
   generalize hy1 : rd ts x.f1 = y1 at *
   generalize hy2 : rd ts x.f2 = y2 at *
   have HY1 := qo hy1
   have HY2 := qo hy2
   clear hy1 hy2 hg hTr
   go_wp2_with fail
   refine still_tail 22 (by kernel_rfl) (by kernel_rfl) (fun wd hwd => ?_)
   simp only [List.take_succ_cons, List.take_zero, List.drop_succ_cons, List.drop_zero]
   have hbd : Below wr.heap.size wr wd := by rw [hwd]; exact qd (qc (qaj _ _) _)
   have e0 : wd.cell? ⟨g, 0, none⟩ = some (.int .i64 P) := pw_cell_below hbd hg0
   have e7 : wd.cell? ⟨g, 7, none⟩ = some (.slice (some ⟨T, 0, none⟩) ts.length cT) := pw_cell_below hbd hg7
   have e1 := pw_cell_below hbd ht1
   have e2 := pw_cell_below hbd ht2
   have eb : wd.heap[wr.heap.size]? = some (.cells #[.int .i64 x.f0, .int .i64 x.f1, .int .i64 x.f2, .int .i64 x.f3, .int .i64 x.f4, .int .i64 x.f5] 62 (0, 0)) := by rw [hwd]; exact qm (blk_new _ _)
   have b0 := (qe eb 0).trans rfl
   have b1 := (qe eb 1).trans rfl
   have b2 := (qe eb 2).trans rfl
   have b3 := (qe eb 3).trans rfl
   have b4 := (qe eb 4).trans rfl
   have b5 := (qe eb 5).trans rfl
   clear hwd eb hg0 hg7 ht1 ht2 hg2 ha0 ha1 ha2 ha3 ha4 ha5 hc0
   have HBD := qo hbd
   clear hbd
   repeat still_step
   refine wpStill_nil ?_
   have HLF := qo (lasts_f P x y1 y2 hP ⟨q3, q3'⟩ hb1 hb2)
   have hd0 : x.f3 ≤ lastsF P x y1 y2 ∧ lastsF P x y1 y2 < x.f3 + P := by
    have h1 := Int.emod_nonneg (y2 - y1 - x.f3) (show P ≠ 0 by omega)
    have h2 := Int.emod_lt_of_pos (y2 - y1 - x.f3) (show 0 < P by omega)
    unfold lastsF
    omega
   have hstep : fitsF P ac ts (l.drop i) s1 = if lastsF P x y1 y2 > x.f4 then none else fitsF P ac ts (l.drop (i + 1)) (s1 + x.f5 * (lastsF P x y1 y2 - x.f3)) := by
    rw [HD.out]
    simp only [fitsF, HX.out, HY1.out, HY2.out]
   have HST := qo hstep
   clear hstep
   generalize hdd : lastsF P x y1 y2 = d at *
   clear hdd
   obtain ⟨hd1, hd2⟩ := hd0
   have hm0 : 0 ≤ x.f5 * (d - x.f3) := Int.mul_nonneg q5 (by omega)
   have hm1 : x.f5 * (d - x.f3) ≤ 1048576 * 7200 := Int.mul_le_mul q5' (by omega) (by omega) (by omega)
   have hs1 := HS.out.1
   have hs2 := HS.out.2
   have hi512 : i ≤ 512 := by omega
   have after : ∀ w3 : World, Below wd.heap.size wd w3 → w3.cell? ⟨wr.heap.size, 3, none⟩ = some (.int .i64 x.f3) ∧ w3.cell? ⟨wr.heap.size, 4, none⟩ = some (.int .i64 x.f4) ∧ w3.cell? ⟨wr.heap.size, 5, none⟩ = some (.int .i64 x.f5) := fun w3 h => ⟨pw_cell_below h b3, pw_cell_below h b4, pw_cell_below h b5⟩
   have AF := qo after
   clear after b0 b1 b2 b3 b4 b5 e0 e7 e1 e2
   by_cases hgt : d > x.f4
   ·go_wp2_with (go_at_call 83; refine (network_Lasts.calls P x.f0 x.f1 x.f2 x.f3 x.f4 x.f5 y1 y2 d _ HLF.out).mono ?_; rintro e w3 ⟨rfl, hb3⟩; have HB3 := qo hb3; obtain ⟨k3, k4, k5⟩ := AF.out w3 hb3; clear hb3)
    go_ret2
    rw [if_pos hgt] at HST
    rw [← HE.out, HST.out]
    exact ⟨rfl, qt HB.out (qt HBD.out HB3.out)⟩
   ·go_wp2_with (go_at_call 83; refine (network_Lasts.calls P x.f0 x.f1 x.f2 x.f3 x.f4 x.f5 y1 y2 d _ HLF.out).mono ?_; rintro e w3 ⟨rfl, hb3⟩; have HB3 := qo hb3; obtain ⟨k3, k4, k5⟩ := AF.out w3 hb3; clear hb3)
    rw [if_neg (show ¬ d > x.f4 by omega)] at HST
    go_roundg (gk - 1)
    case measure => have := HK.out; omega
    case rel => exact ⟨i + 1, s1 + x.f5 * (d - x.f3), rfl, by go_num, ⟨by have := HK.out; omega⟩, ⟨by rw [← HE.out, HST.out]⟩, ⟨by omega⟩, ⟨qt HB.out (qt HBD.out HB3.out)⟩⟩
  ·have hi : i = l.length := by omega
   have HI := qo hi
   clear hi
   go_wp2_with fail
   go_ret2
   have h1 := HE.out
   rw [HI.out, List.drop_length] at h1
   rw [← h1]
   exact ⟨rfl, HB.out⟩
/-- The finder's state that changes. -/
structure St where
 left : Int
 ts : List Int
 broken : Bool
 found : Bool
 res : List Int
 cost : Int
/-- At most d trials, from t on; a trial tells whether to stop. -/
def loopF (step : Int → St → St × Bool) : Nat → Int → St → St
 | 0, _, st => st
 | d + 1, t, st => if (step t st).2 = true then (step t st).1 else loopF step d (t + 1) (step t st).1
/-- One trial: sub goes on with the next event. -/
def trialF (P : Int) (ac : List S62) (rdy : List (List Int)) (all : Bool) (ev : Nat) (s : Int) (sub : Int → St → St) (t : Int) (st : St) : St × Bool :=
 if st.left = 0 then ({ st with broken := true }, true)
 else match fitsF P ac (st.ts.set ev t) (rdL rdy (ev : Int)) s with
  | none => ({ st with left := st.left - 1, ts := st.ts.set ev t }, false)
  | some nx =>
   if st.found = true ∧ nx ≥ st.cost then ({ st with left := st.left - 1, ts := st.ts.set ev t }, false)
   else (sub nx { st with left := st.left - 1, ts := st.ts.set ev t }, (sub nx { st with left := st.left - 1, ts := st.ts.set ev t }).broken || ((sub nx { st with left := st.left - 1, ts := st.ts.set ev t }).found && !all))
/-- Times for an event and for all others after it. -/
def extF (P : Int) (n : Nat) (ac : List S62) (first : List Bool) (rdy : List (List Int)) (all : Bool) : Nat → Nat → Int → St → St
 | 0, _, _, st => st
 | k + 1, ev, s, st => if ev = n then { st with found := true, cost := s, res := st.ts }
  else loopF (trialF P ac rdy all ev s (extF P n ac first rdy all k (ev + 1))) (if first.getD ev false = true then 1 else P.toNat) 0 st
/-- What the search keeps. -/
structure Inv (n : Nat) (st : St) : Prop where
 len : st.ts.length = n
 ts : ∀ i, 0 ≤ i → i < (n : Int) → 0 ≤ rd st.ts i ∧ rd st.ts i ≤ 7200
 left : 0 ≤ st.left ∧ st.left ≤ 1048576
theorem rd_set (ts : List Int) (j : Nat) (x i : Int) (hj : j < ts.length) (h0 : 0 ≤ i) (h1 : i < ts.length) : rd (ts.set j x) i = if i = (j : Int) then x else rd ts i := by
 unfold rd
 rw [List.getD_eq_getElem?_getD, List.getElem?_set, List.getD_eq_getElem?_getD]
 by_cases e : i = (j : Int)
 ·subst e
  simp [hj]
 ·rw [if_neg (by omega), if_neg e]
theorem Inv.trial {n : Nat} {st : St} (h : Inv n st) {ev : Nat} {t : Int} (hev : ev < n) (ht : 0 ≤ t ∧ t ≤ 7200) (hl : ¬ st.left = 0) : Inv n { st with left := st.left - 1, ts := st.ts.set ev t } := by
 refine ⟨by simp [h.len], fun i h0 h1 => ?_, by have := h.left; show 0 ≤ st.left - 1 ∧ st.left - 1 ≤ 1048576; omega⟩
 show 0 ≤ rd (st.ts.set ev t) i ∧ rd (st.ts.set ev t) i ≤ 7200
 rw [rd_set _ _ _ _ (by rw [h.len]; exact hev) h0 (by rw [h.len]; exact h1)]
 split
 ·exact ht
 ·exact h.ts i h0 h1
theorem loopF_inv {n : Nat} {step : Int → St → St × Bool} {B : Int} (hs : ∀ t st, 0 ≤ t → t < B → Inv n st → Inv n (step t st).1) : ∀ (d : Nat) (t : Int) (st : St), 0 ≤ t → t + d ≤ B → Inv n st → Inv n (loopF step d t st)
 | 0, _, _, _, _, h => h
 | d + 1, t, st, h0, h1, h => by
  unfold loopF
  have h2 := hs t st h0 (by omega) h
  split
  ·exact h2
  ·exact loopF_inv hs d (t + 1) _ (by omega) (by omega) h2
theorem trialF_inv {n : Nat} {P : Int} {ac : List S62} {rdy : List (List Int)} {all : Bool} {ev : Nat} {s : Int} {sub : Int → St → St} (hev : ev < n) (hsub : ∀ nx st, Inv n st → Inv n (sub nx st)) (t : Int) (st : St) (ht : 0 ≤ t ∧ t ≤ 7200) (h : Inv n st) : Inv n (trialF P ac rdy all ev s sub t st).1 := by
 unfold trialF
 by_cases hl : st.left = 0
 ·rw [if_pos hl]; exact ⟨h.len, h.ts, h.left⟩
 ·rw [if_neg hl]
  have h1 := h.trial hev ht hl
  split
  ·exact h1
  ·split
   ·exact h1
   ·exact hsub _ _ h1
theorem extF_inv {P : Int} {n : Nat} {ac : List S62} {first : List Bool} {rdy : List (List Int)} {all : Bool} (hP : 2 ≤ P ∧ P ≤ 7200) : ∀ (k ev : Nat) (s : Int) (st : St), ev ≤ n → Inv n st → Inv n (extF P n ac first rdy all k ev s st)
 | 0, _, _, _, _, h => h
 | k + 1, ev, s, st, hev, h => by
  unfold extF
  split
  ·exact ⟨h.len, h.ts, h.left⟩
  ·rename_i hne
   refine loopF_inv (B := P) (fun t st h0 h1 h => trialF_inv (by omega) (fun nx st h => extF_inv hP k (ev + 1) nx st (by omega) h) t st (by omega) h) _ 0 st (by omega) ?_ h
   split <;> omega
/-- The sums stay small. -/
theorem fitsF_bd {P : Int} {ac : List S62} {ts : List Int} {n : Nat} (hP : 2 ≤ P ∧ P ≤ 7200) (hgood : ∀ a ∈ ac, GoodAct P n a) : ∀ (l : List Int) (s r : Int), (∀ k ∈ l, 0 ≤ k ∧ k < (ac.length : Int)) → fitsF P ac ts l s = some r → s ≤ r ∧ r ≤ s + 7549747200 * (l.length : Int)
 | [], s, r, _, h => by
  have := Option.some.inj h
  subst this
  simp
 | k :: l, s, r, hk, h => by
  unfold fitsF at h
  split at h
  ·exact absurd h (by simp)
  ·have ⟨hk0, hk1⟩ := hk k List.mem_cons_self
   have hg := hgood _ (rd36' ac k hk0 hk1)
   generalize rd_T62 ac k = x at *
   have h1 := Int.emod_nonneg (rd ts x.f2 - rd ts x.f1 - x.f3) (show P ≠ 0 by omega)
   have h2 := Int.emod_lt_of_pos (rd ts x.f2 - rd ts x.f1 - x.f3) (show 0 < P by omega)
   have hd : lastsF P x (rd ts x.f1) (rd ts x.f2) = x.f3 + (rd ts x.f2 - rd ts x.f1 - x.f3) % P := rfl
   generalize lastsF P x (rd ts x.f1) (rd ts x.f2) = d at *
   have h3 : 0 ≤ x.f5 * (d - x.f3) := Int.mul_nonneg hg.f5.1 (by omega)
   have h4 : x.f5 * (d - x.f3) ≤ 1048576 * 7200 := Int.mul_le_mul hg.f5.2 (by omega) (by omega) (by omega)
   have ih := fitsF_bd hP hgood l _ r (fun k hk' => hk k (List.mem_cons_of_mem _ hk')) h
   have e : ((k :: l).length : Int) = (l.length : Int) + 1 := by simp
   omega

end Go.Proofs.Ytpioelilfhkfdaa.XAll
