-- This session's own text, written by wip/tools/xall.py after the form of the kit's print.
import Derived.Test.YtpioelilfhkfdaaXAllx0
import Derived.Test.YtpioelilfhkfdaaXAllx1
import Derived.Test.YtpioelilfhkfdaaXAllx6
import Derived.Test.YtpioelilfhkfdaaXAllx7
import Derived.Test.YtpioelilfhkfdaaXAllx8
import Derived.Test.YtpioelilfhkfdaaXAllx9
import Derived.Test.YtpioelilfhkfdaaXAllx10
import Derived.Test.YtpioelilfhkfdaaXAllx14
import Derived.Test.YtpioelilfhkfdaaXAllx16
import Derived.Test.YtpioelilfhkfdaaXAllx17
namespace Go.Proofs.Ytpioelilfhkfdaa.XAll
open Go.RowKit Go.Proofs.YtpioelilfhkfdaaW.PrintWords Go.Proofs.YtpioelilfhkfdaaW.PrintLast Go.Proofs.YtpioelilfhkfdaaW.PrintMore
attribute [local go_sem] max2_int min2_int max_two min_two max_three min_three max_four min_four   -- for this text's walks alone
set_option linter.unusedVariables false
set_option linter.unusedSimpArgs false

/-! ### railplanref17_search_visit: function 64 -/
theorem wrap_succ (i : Nat) (h : i ≤ 1000000) : wrap64 ((i : Int) + 1) = ((i + 1 : Nat) : Int) := by unfold wrap64; omega
theorem refin_f (a lo hi : Int) : railplanref11_in.f a lo hi = some (decide (lo ≤ a) && decide (a ≤ hi)) := by
 unfold railplanref11_in.f
 by_cases h : lo ≤ a
 ·by_cases h2 : a ≤ hi <;> simp [h, h2]
 ·simp [h]
theorem refcheck_l0 (P : Int) (le : List S60) (ac : List S62) (hle : le.length ≤ 48) (hac : ac.length ≤ 512) : ∀ (d i k : Nat), i + d = ac.length → d < k → railplanref11_Check.l0 k (i : Int) P le ac = some (!(ac.drop i).any (badAct P ((le.length : Int) - 1)))
 | 0, i, k, hi, hk => by
  obtain ⟨k, rfl⟩ : ∃ m, k = m + 1 := ⟨k - 1, by omega⟩
  simp only [railplanref11_Check.l0]
  rw [if_neg (by omega), List.drop_of_length_le (by omega)]
  rfl
 | d + 1, i, k, hi, hk => by
  obtain ⟨k, rfl⟩ : ∃ m, k = m + 1 := ⟨k - 1, by omega⟩
  have ih := refcheck_l0 P le ac hle hac d (i + 1) k (by omega) (by omega)
  simp only [railplanref11_Check.l0]
  rw [if_pos (by omega), if_pos (by omega), rd36d ac i (by omega), List.any_cons]
  generalize rd_T62 ac (i : Int) = x
  have e0 : wrap64 ((le.length : Int) - 1) = (le.length : Int) - 1 := by unfold wrap64; omega
  rw [e0, wrap_succ i (by omega), ih, refin_f, refin_f, refin_f]
  simp only [Option.bind_some]
  generalize (List.drop (i + 1) ac).any (badAct P ((le.length : Int) - 1)) = b
  have hb : badAct P ((le.length : Int) - 1) x = (!(decide (0 ≤ x.f1) && decide (x.f1 ≤ (le.length : Int) - 1)) || (!(decide (0 ≤ x.f2) && decide (x.f2 ≤ (le.length : Int) - 1)) || (decide (x.f1 = x.f2) || (decide (x.f3 < -65536) || (decide (x.f3 > x.f4) || (decide (x.f4 > 65536) || (decide (x.f4 - x.f3 ≥ P) || !(decide (0 ≤ x.f5) && decide (x.f5 ≤ 1048576))))))))) := rfl
  rw [hb]
  generalize (decide (0 ≤ x.f1) && decide (x.f1 ≤ (le.length : Int) - 1)) = b1
  generalize (decide (0 ≤ x.f2) && decide (x.f2 ≤ (le.length : Int) - 1)) = b2
  generalize (decide (0 ≤ x.f5) && decide (x.f5 ≤ 1048576)) = b5
  cases b1
  ·simp
  ·cases b2
   ·simp
   ·simp only [if_true]
    by_cases h3 : x.f1 = x.f2
    ·simp [h3]
    ·by_cases h4 : x.f3 < -65536
     ·simp [h3, h4]
     ·by_cases h5 : x.f4 > 65536
      ·simp [h3, h4, h5]
      ·by_cases h6 : x.f3 > x.f4
       ·simp [h3, h4, h5, h6]
       ·have e2 : wrap64 (x.f4 - x.f3) = x.f4 - x.f3 := by unfold wrap64; omega
        rw [if_neg h3, if_neg h4, if_neg h5, if_neg h6, e2]
        by_cases h7 : x.f4 - x.f3 ≥ P
        ·simp [h3, h4, h5, h6, h7]
        ·rw [if_neg h7]
         cases b5 <;> simp [h3, h4, h5, h6, h7]
theorem refcheck_f (P : Int) (le : List S60) (ac : List S62) (k : Nat) (hk : 600 ≤ k) : railplanref11_Check.f k P le ac = some (okNet P le ac) := by
 obtain ⟨k, rfl⟩ : ∃ m, k = m + 1 := ⟨k - 1, by omega⟩
 unfold railplanref11_Check.f okNet
 rw [refin_f]
 simp only [Option.bind_some]
 have hj : railplanref11_Check.j0 (k + 1) true P le ac = some false := by simp [railplanref11_Check.j0]
 by_cases hP : 2 ≤ P ∧ P ≤ 7200
 ·rw [if_pos (by simp [hP])]
  by_cases h1 : (le.length : Int) > 48
  ·rw [if_pos h1, hj, qad (by omega)]
   rfl
  ·rw [if_neg h1]
   by_cases h2 : (ac.length : Int) > 512
   ·rw [qac h2, hj, qad (by omega)]
    rfl
   ·rw [qad h2, qac (by omega)]
    simp only [railplanref11_Check.j0]
    rw [if_neg (by simp)]
    have := refcheck_l0 P le ac (by omega) (by omega) ac.length 0 k (by omega) (by omega)
    rw [List.drop_zero] at this
    simpa using this
 ·rw [if_neg (by simp; omega), hj, qad (by omega)]
  rfl
/-- Times within a period. -/
def InP (P : Int) (ts : List Int) : Prop := ∀ i, 0 ≤ i → i < (ts.length : Int) → 0 ≤ rd ts i ∧ rd ts i ≤ P - 1
theorem refgood_l0 (P : Int) (le : List S60) (ac : List S62) (ts : List Int) (hP : 2 ≤ P ∧ P ≤ 7200) (hts : InP P ts) (hl : ts.length ≤ 48) : ∀ (d i k : Nat), i + d = ts.length → d < k → railplanref11_Good.l0 k ts (i : Int) P le ac = some true
 | 0, i, k, hi, hk => by
  obtain ⟨k, rfl⟩ : ∃ m, k = m + 1 := ⟨k - 1, by omega⟩
  simp only [railplanref11_Good.l0]
  rw [if_neg (by omega)]
 | d + 1, i, k, hi, hk => by
  obtain ⟨k, rfl⟩ : ∃ m, k = m + 1 := ⟨k - 1, by omega⟩
  have ih := refgood_l0 P le ac ts hP hts hl d (i + 1) k (by omega) (by omega)
  simp only [railplanref11_Good.l0]
  have h0 := hts (i : Int) (by omega) (by omega)
  have e0 : wrap64 (P - 1) = P - 1 := by unfold wrap64; omega
  rw [if_pos (by omega), if_pos (by omega), refin_f, e0, wrap_succ i (by omega), ih]
  simp [h0]
theorem refgood_f (P : Int) (le : List S60) (ac : List S62) (ts : List Int) (k : Nat) (hk : 600 ≤ k) (hok : okNet P le ac = true) (hl : ts.length = le.length) (hts : InP P ts) : railplanref11_Good.f k P le ac ts = some true := by
 obtain ⟨hP, hle, _, _⟩ := okNet_good hok
 obtain ⟨k, rfl⟩ : ∃ m, k = m + 1 := ⟨k - 1, by omega⟩
 unfold railplanref11_Good.f
 rw [refcheck_f P le ac _ hk, hok]
 simp only [Option.bind_some, if_true, railplanref11_Good.j0]
 rw [if_neg (by simp [hl])]
 have := refgood_l0 P le ac ts hP hts (by omega) ts.length 0 k (by omega) (by omega)
 simpa using this
theorem wrap_id (a : Int) (h : -9000000000000000000 ≤ a) (h' : a ≤ 9000000000000000000) : wrap64 a = a := by unfold wrap64; omega
theorem term_bd (x d : Int) (q5 : 0 ≤ x) (q5' : x ≤ 1048576) (h : -65536 ≤ d) (h' : d ≤ 72736) : -80000000000 ≤ x * d ∧ x * d ≤ 80000000000 := by
 have h1 : x * d ≤ 1048576 * 72736 := by
  rcases Int.lt_or_le d 0 with hd | hd
  ·have : x * d ≤ 0 := Int.mul_nonpos_of_nonneg_of_nonpos q5 (by omega)
   omega
  ·exact Int.mul_le_mul q5' h' hd (by omega)
 have h2 : x * (-d) ≤ 1048576 * 65536 := by
  rcases Int.lt_or_le (-d) 0 with hd | hd
  ·have : x * (-d) ≤ 0 := Int.mul_nonpos_of_nonneg_of_nonpos q5 (by omega)
   omega
  ·exact Int.mul_le_mul q5' (by omega) hd (by omega)
 rw [Int.mul_neg] at h2
 omega
theorem step_bd (s t i : Int) (h1 : -80000000000 * i ≤ s) (h2 : s ≤ 80000000000 * i) (h3 : -80000000000 ≤ t) (h4 : t ≤ 80000000000) (hi : i ≤ 512) (h0 : 0 ≤ i) : (-9000000000000000000 ≤ s + t ∧ s + t ≤ 9000000000000000000) ∧ -80000000000 * (i + 1) ≤ s + t ∧ s + t ≤ 80000000000 * (i + 1) := by omega
/-- The weighted durations. -/
def costL (P : Int) (ts : List Int) : List S62 → Int → Int
 | [], s => s
 | a :: al, s => costL P ts al (s + a.f5 * lastsF P a (rd ts a.f1) (rd ts a.f2))
set_option maxRecDepth 100000 in
theorem refcost_l0 (P : Int) (le : List S60) (ac : List S62) (ts : List Int) (hP : 2 ≤ P ∧ P ≤ 7200) (hts : InP P ts) (hlen : ac.length ≤ 512) (hgood : ∀ a ∈ ac, GoodAct P ts.length a) : ∀ (d i k : Nat) (s : Int), i + d = ac.length → d < k → (-80000000000 * (i : Int) ≤ s ∧ s ≤ 80000000000 * (i : Int)) → railplanref11_Cost.l0 k ts s (i : Int) P le ac = some (costL P ts (ac.drop i) s, 0)
 | 0, i, k, s, hi, hk, hs => by
  obtain ⟨k, rfl⟩ : ∃ m, k = m + 1 := ⟨k - 1, by omega⟩
  simp only [railplanref11_Cost.l0]
  rw [if_neg (by omega), List.drop_of_length_le (by omega)]
  rfl
 | d + 1, i, k, s, hi, hk, hs => by
  obtain ⟨k, rfl⟩ : ∃ m, k = m + 1 := ⟨k - 1, by omega⟩
  have hga := hgood _ (rd36' ac (i : Int) (by omega) (by omega))
  have hlf := reflasts_f P le ac ts _ hP hga (fun i h0 h1 => ⟨(hts i h0 h1).1, by have := (hts i h0 h1).2; omega⟩)
  have ih := fun s hs => refcost_l0 P le ac ts hP hts hlen hgood d (i + 1) k s (by omega) (by omega) hs
  simp only [railplanref11_Cost.l0]
  rw [if_pos (by omega), if_pos (by omega), hlf, rd36d ac i (by omega)]
  simp only [Option.bind_some, costL]
  generalize rd_T62 ac (i : Int) = x at *
  obtain ⟨⟨q1, q1'⟩, ⟨q2, q2'⟩, ⟨q3, q3'⟩, ⟨q4, q4'⟩, q5, q5'⟩ := hga
  have hd0 : x.f3 ≤ lastsF P x (rd ts x.f1) (rd ts x.f2) ∧ lastsF P x (rd ts x.f1) (rd ts x.f2) < x.f3 + P := by
   have h1 := Int.emod_nonneg (rd ts x.f2 - rd ts x.f1 - x.f3) (show P ≠ 0 by omega)
   have h2 := Int.emod_lt_of_pos (rd ts x.f2 - rd ts x.f1 - x.f3) (show 0 < P by omega)
   unfold lastsF
   omega
  generalize lastsF P x (rd ts x.f1) (rd ts x.f2) = dd at *
  have ht := term_bd x.f5 dd q5 q5' (by omega) (by omega)
  have hst := step_bd s (x.f5 * dd) (i : Int) hs.1 hs.2 ht.1 ht.2 (by omega) (by omega)
  have e2 : wrap64 (x.f5 * dd) = x.f5 * dd := wrap_id _ (by omega) (by omega)
  have e3 : wrap64 (s + x.f5 * dd) = s + x.f5 * dd := wrap_id _ hst.1.1 hst.1.2
  rw [wrap_succ i (by omega), e2, e3]
  exact ih _ (by rw [show ((i + 1 : Nat) : Int) = (i : Int) + 1 from rfl]; exact hst.2)
theorem refcost_f (P : Int) (le : List S60) (ac : List S62) (ts : List Int) (k : Nat) (hk : 600 ≤ k) (hok : okNet P le ac = true) (hl : ts.length = le.length) (hts : InP P ts) : railplanref11_Cost.f k P le ac ts = some (costL P ts ac 0, 0) := by
 obtain ⟨hP, hle, hac, hgood⟩ := okNet_good hok
 unfold railplanref11_Cost.f
 rw [refgood_f P le ac ts k hk hok hl hts]
 simp only [Option.bind_some, if_true]
 have := refcost_l0 P le ac ts hP hts hac (by rw [hl]; exact hgood) ac.length 0 k 0 (by omega) (by omega) (by omega)
 simpa using this
theorem InP.le {P : Int} {ts : List Int} (h : InP P ts) (hP : P ≤ 7200) : ∀ i, 0 ≤ i → i < (ts.length : Int) → 0 ≤ rd ts i ∧ rd ts i ≤ 7200 := fun i h0 h1 => by have := h i h0 h1; omega
theorem InP.set {P : Int} {ts : List Int} (h : InP P ts) {ev : Nat} {t : Int} (hev : ev < ts.length) (h0 : 0 ≤ t) (h1 : t ≤ P - 1) : InP P (ts.set ev t) := by
 intro i hi0 hi1
 rw [List.length_set] at hi1
 rw [rd_set _ _ _ _ hev hi0 hi1]
 split
 ·exact ⟨h0, h1⟩
 ·exact h i hi0 hi1
/-- The reference's state that changes. -/
structure RSt where
 used : Int
 ts : List Int
 over : Bool
 found : Bool
 res : List Int
 best : Int
/-- At most d trials, from t on; a trial tells whether to stop. -/
def loopV (step : Int → RSt → RSt × Bool) : Nat → Int → RSt → RSt × Bool
 | 0, _, st => (st, true)
 | d + 1, t, st => if (step t st).2 = true then ((step t st).1, false) else loopV step d (t + 1) (step t st).1
/-- One trial of the reference. -/
def trialV (P : Int) (ac : List S62) (budget : Int) (all : Bool) (ev : Nat) (sub : RSt → RSt × Bool) (t : Int) (st : RSt) : RSt × Bool :=
 if st.used + 1 > budget then ({ st with used := st.used + 1, over := true }, true)
 else if discF P ac (st.ts.set ev t) (ev : Int) all st.found st.best = true then ({ st with used := st.used + 1, ts := st.ts.set ev t }, false)
 else ((sub { st with used := st.used + 1, ts := st.ts.set ev t }).1, !(sub { st with used := st.used + 1, ts := st.ts.set ev t }).2)
/-- The reference's search from an event on. -/
def visitF (P : Int) (n : Nat) (ac : List S62) (first : List Bool) (budget : Int) (all : Bool) : Nat → Nat → RSt → RSt × Bool
 | 0, _, st => (st, false)
 | k + 1, ev, st => if ev = n then ({ st with found := true, res := st.ts, best := costL P st.ts ac 0 }, all)
  else loopV (trialV P ac budget all ev (visitF P n ac first budget all k (ev + 1))) (if first.getD ev false = true then 1 else P.toNat) 0 st
/-- What the search keeps. -/
structure RInv (P : Int) (n : Nat) (budget : Int) (st : RSt) : Prop where
 len : st.ts.length = n
 ts : InP P st.ts
 used : 0 ≤ st.used ∧ st.used ≤ budget + 1
theorem RInv.trial {P : Int} {n : Nat} {budget : Int} {st : RSt} (h : RInv P n budget st) {ev : Nat} {t : Int} (hev : ev < n) (h0 : 0 ≤ t) (h1 : t ≤ P - 1) (hl : ¬ st.used + 1 > budget) : RInv P n budget { st with used := st.used + 1, ts := st.ts.set ev t } :=
 ⟨by simp [h.len], h.ts.set (by rw [h.len]; exact hev) h0 h1, by have := h.used; show 0 ≤ st.used + 1 ∧ st.used + 1 ≤ budget + 1; omega⟩
theorem loopV_inv {P : Int} {n : Nat} {budget : Int} {step : Int → RSt → RSt × Bool} {B : Int} (hs : ∀ t st, 0 ≤ t → t < B → RInv P n budget st → st.used ≤ budget → RInv P n budget (step t st).1 ∧ ((step t st).2 = false → (step t st).1.used ≤ budget)) : ∀ (d : Nat) (t : Int) (st : RSt), 0 ≤ t → t + d ≤ B → RInv P n budget st → st.used ≤ budget → RInv P n budget (loopV step d t st).1 ∧ ((loopV step d t st).2 = true → (loopV step d t st).1.used ≤ budget)
 | 0, _, _, _, _, h, hu => ⟨h, fun _ => hu⟩
 | d + 1, t, st, h0, h1, h, hu => by
  unfold loopV
  have h2 := hs t st h0 (by omega) h hu
  by_cases hc : (step t st).2 = true
  ·rw [if_pos hc]; exact ⟨h2.1, fun hx => absurd hx (by simp)⟩
  ·rw [if_neg hc]
   exact loopV_inv hs d (t + 1) _ (by omega) (by omega) h2.1 (h2.2 (by simpa using hc))
theorem trialV_inv {P : Int} {n : Nat} {ac : List S62} {budget : Int} {all : Bool} {ev : Nat} {sub : RSt → RSt × Bool} (hev : ev < n) (hsub : ∀ st, RInv P n budget st → st.used ≤ budget → RInv P n budget (sub st).1 ∧ ((sub st).2 = true → (sub st).1.used ≤ budget)) (t : Int) (st : RSt) (h0 : 0 ≤ t) (h1 : t < P) (h : RInv P n budget st) (hu : st.used ≤ budget) :
  RInv P n budget (trialV P ac budget all ev sub t st).1 ∧ ((trialV P ac budget all ev sub t st).2 = false → (trialV P ac budget all ev sub t st).1.used ≤ budget) := by
 unfold trialV
 by_cases hl : st.used + 1 > budget
 ·rw [if_pos hl]
  exact ⟨⟨h.len, h.ts, by have := h.used; show 0 ≤ st.used + 1 ∧ st.used + 1 ≤ budget + 1; omega⟩, fun hx => absurd hx (by simp)⟩
 ·rw [if_neg hl]
  have h2 := h.trial hev h0 (by omega) hl
  split
  ·exact ⟨h2, fun _ => by show st.used + 1 ≤ budget; omega⟩
  ·have h3 := hsub _ h2 (by show st.used + 1 ≤ budget; omega)
   exact ⟨h3.1, fun hx => h3.2 (by simpa using hx)⟩
theorem visitF_inv {P : Int} {n : Nat} {ac : List S62} {first : List Bool} {budget : Int} {all : Bool} (hP : 2 ≤ P ∧ P ≤ 7200) : ∀ (k ev : Nat) (st : RSt), ev ≤ n → RInv P n budget st → st.used ≤ budget → RInv P n budget (visitF P n ac first budget all k ev st).1 ∧ ((visitF P n ac first budget all k ev st).2 = true → (visitF P n ac first budget all k ev st).1.used ≤ budget)
 | 0, _, _, _, h, hu => ⟨h, fun _ => hu⟩
 | k + 1, ev, st, hev, h, hu => by
  unfold visitF
  split
  ·exact ⟨⟨h.len, h.ts, h.used⟩, fun _ => hu⟩
  ·rename_i hne
   refine loopV_inv (B := P) (fun t st h0 h1 h hu => trialV_inv (by omega) (fun st h hu => visitF_inv hP k (ev + 1) st (by omega) h hu) t st h0 h1 h hu) _ 0 st (by omega) ?_ h hu
   split <;> omega
/-- The reference's state at block g, its times at block T. -/
def RFIN (w0 W : World) (g T : Nat) (P : Int) (n : Nat) (ac : List S62) (first : List Bool) (budget : Int) (all : Bool) (AE Aa Af : Option Addr) (cE ca cf : Nat) (st : RSt) : Prop :=
 ∃ vS : Value, W.heap[g]? = some (.cells #[.int .i64 P, .slice AE n cE, .slice Aa ac.length ca, .slice Af first.length cf, .int .i64 budget, .int .i64 st.used, .bool st.over, .bool all, .bool st.found, .int .i64 st.best, vS, .slice (some ⟨T, 0, none⟩) st.ts.length st.ts.length] 79 (0, 0)) ∧
  W.heap[T]? = some (.cells (st.ts.map (Value.int .i64)).toArray 3 (0, 0)) ∧ Kd.R (Kd.int .i64) 3 W w0.heap.size (fun k => k ≠ g ∧ k ≠ T) vS st.res
theorem RFIN.kept {w0 W W1 : World} {g T : Nat} {P : Int} {n : Nat} {ac : List S62} {first : List Bool} {budget : Int} {all : Bool} {AE Aa Af : Option Addr} {cE ca cf : Nat} {st : RSt} (h : RFIN w0 W g T P n ac first budget all AE Aa Af cE ca cf st) (hb : Below W.heap.size W W1) : RFIN w0 W1 g T P n ac first budget all AE Aa Af cE ca cf st := by
 obtain ⟨vS, h1, h2, h3⟩ := h
 exact ⟨vS, qaa h1 hb, qaa h2 hb, qae h3 hb⟩
theorem RFIN.use {w0 W : World} {g T : Nat} {P : Int} {n : Nat} {ac : List S62} {first : List Bool} {budget : Int} {all : Bool} {AE Aa Af : Option Addr} {cE ca cf : Nat} {st : RSt} (h : RFIN w0 W g T P n ac first budget all AE Aa Af cE ca cf st) (hne : g ≠ T) (u : Int) :
  RFIN w0 (W.setCell ⟨g, 5, none⟩ (.int .i64 u)) g T P n ac first budget all AE Aa Af cE ca cf { st with used := u } := by
 obtain ⟨vS, h1, h2, h3⟩ := h
 refine ⟨vS, by simpa using blk_set h1 5 (.int .i64 u), qam h2 (p := ⟨g, 5, none⟩) (Ne.symm hne) _, qz (p := ⟨g, 5, none⟩) h3 (fun k hk => hk.1) _⟩
theorem RFIN.brk {w0 W : World} {g T : Nat} {P : Int} {n : Nat} {ac : List S62} {first : List Bool} {budget : Int} {all : Bool} {AE Aa Af : Option Addr} {cE ca cf : Nat} {st : RSt} (h : RFIN w0 W g T P n ac first budget all AE Aa Af cE ca cf st) (hne : g ≠ T) :
  RFIN w0 (W.setCell ⟨g, 6, none⟩ (.bool true)) g T P n ac first budget all AE Aa Af cE ca cf { st with over := true } := by
 obtain ⟨vS, h1, h2, h3⟩ := h
 refine ⟨vS, by simpa using blk_set h1 6 (.bool true), qam h2 (p := ⟨g, 6, none⟩) (Ne.symm hne) _, qz (p := ⟨g, 6, none⟩) h3 (fun k hk => hk.1) _⟩
theorem RFIN.lay {w0 W : World} {g T : Nat} {P : Int} {n : Nat} {ac : List S62} {first : List Bool} {budget : Int} {all : Bool} {AE Aa Af : Option Addr} {cE ca cf : Nat} {st : RSt} (h : RFIN w0 W g T P n ac first budget all AE Aa Af cE ca cf st) (hne : g ≠ T) (ev : Nat) (t : Int) :
  RFIN w0 (W.setCell ⟨T, ev, none⟩ (.int .i64 t)) g T P n ac first budget all AE Aa Af cE ca cf { st with ts := st.ts.set ev t } := by
 obtain ⟨vS, h1, h2, h3⟩ := h
 refine ⟨vS, ?_, ?_, qz (p := ⟨T, ev, none⟩) h3 (fun k hk => hk.2) _⟩
 ·have := qam h1 (p := ⟨T, ev, none⟩) hne (.int .i64 t)
  simpa using this
 ·have := blk_set h2 ev (.int .i64 t)
  simpa [List.map_set] using this
theorem RFIN.bst {w0 W : World} {g T : Nat} {P : Int} {n : Nat} {ac : List S62} {first : List Bool} {budget : Int} {all : Bool} {AE Aa Af : Option Addr} {cE ca cf : Nat} {st : RSt} (h : RFIN w0 W g T P n ac first budget all AE Aa Af cE ca cf st) (hne : g ≠ T) (c : Int) :
  RFIN w0 (W.setCell ⟨g, 9, none⟩ (.int .i64 c)) g T P n ac first budget all AE Aa Af cE ca cf { st with best := c } := by
 obtain ⟨vS, h1, h2, h3⟩ := h
 refine ⟨vS, by simpa using blk_set h1 9 (.int .i64 c), qam h2 (p := ⟨g, 9, none⟩) (Ne.symm hne) _, qz (p := ⟨g, 9, none⟩) h3 (fun k hk => hk.1) _⟩
def VisPost (w0 W : World) (g T : Nat) (P : Int) (n : Nat) (ac : List S62) (first : List Bool) (budget : Int) (all : Bool) (AE Aa Af : Option Addr) (cE ca cf : Nat) (r : RSt × Bool) (e : Ending) (w' : World) : Prop :=
 e = .returned (.bool r.2) ∧ RFIN w0 w' g T P n ac first budget all AE Aa Af cE ca cf r.1 ∧ Kept W w' (FS g T) ∧ Below w0.heap.size w0 w'
theorem visI_info : (Try.prog.info? 3).map (fun i => (i.zero, i.size, i.bytes)) = some (some (.int .i64 0), 1, 8) := by kernel_rfl
theorem visI_KM (w W : World) (base : Nat) (ok : Nat → Prop) : ∀ (x : Int) cs, (Kd.int .i64).K w x cs → (Kd.int .i64).M W base ok x cs := fun x cs h => h
set_option maxHeartbeats 4000000 in
set_option maxRecDepth 100000 in
theorem visit_calls (w0 : World) (g T : Nat) (P : Int) (le : List S60) (ac : List S62) (first : List Bool) (budget : Int) (all : Bool) (AE Aa Af : Option Addr) (cE ca cf k0 : Nat)
  (hok : okNet P le ac = true) (hk0 : 600 ≤ k0) (hfl : first.length = le.length) (hca : ac.length ≤ ca) (hcE : le.length ≤ cE) (hbud : 1 ≤ budget ∧ budget ≤ 1048576) (hne : g ≠ T) (hg0 : w0.heap.size ≤ g) (hT0 : w0.heap.size ≤ T) (fuel : Nat) :
  ∀ (ev : Nat) (st : RSt) (W : World), ev ≤ le.length → ev + fuel = le.length + 1 → RInv P le.length budget st → st.used ≤ budget → RFIN w0 W g T P le.length ac first budget all AE Aa Af cE ca cf st → Below w0.heap.size w0 W →
  (∀ W', Kept W W' (FS g T) → Kd.C k62 W' Aa ac.length ac) → (∀ W', Kept W W' (FS g T) → Kd.C k60 W' AE le.length le) → (∀ W', Kept W W' (FS g T) → Kd.C Kd.bool W' Af first.length first) →
  Calls Try.prog 64 #[.pointer (some ⟨g, 0, none⟩), .int .i64 (ev : Int)] W (VisPost w0 W g T P le.length ac first budget all AE Aa Af cE ca cf (visitF P le.length ac first budget all fuel ev st)) := by
 obtain ⟨hP, hn, hm, hgood⟩ := okNet_good hok
 induction fuel with
 | zero =>
  intro ev st W hle hf
  omega
 | succ fuel ih =>
  intro ev st W hle hf hinv hused hfin hbel hac hev hfi
  have HIH := qo ih
  have HINV := qo hinv
  have HFIN := qo hfin
  have HBEL := qo hbel
  have HAC := qo hac
  have HEV := qo hev
  have HFI := qo hfi
  have HGOOD := qo hgood
  have HFL := qo hfl
  have HNE := qo hne
  have HOK := qo hok
  have HCA := qo hca
  have HCE := qo hcE
  obtain ⟨vS, hg, hT, hR⟩ := hfin
  obtain ⟨AS, cS, rfl⟩ := qak hR
  have HG := qo hg
  have HR := qo hR
  have HT := qo hT
  have g1 : W.cell? ⟨g, 1, none⟩ = some (.slice AE le.length cE) := (qe hg 1).trans rfl
  have hilen := hinv.len
  have HIL := qo hilen
  clear ih hinv hac hev hfi hgood hfl hbel hR hilen hne hT hok hca hcE
  have hunf : visitF P le.length ac first budget all (fuel + 1) ev st = if ev = le.length then ({ st with found := true, res := st.ts, best := costL P st.ts ac 0 }, all) else loopV (trialV P ac budget all ev (visitF P le.length ac first budget all fuel (ev + 1))) (if first.getD ev false = true then 1 else P.toNat) 0 st := rfl
  have HU := qo hunf
  clear hunf
  by_cases hevn : ev = le.length
  ·have c0 : ((ev : Int) == (le.length : Int)) = true := beq_iff_eq.2 (by omega)
   rw [if_pos hevn] at HU
   clear hevn
   obtain ⟨g8, g9, g10, g11⟩ : W.cell? ⟨g, 8, none⟩ = some (.bool st.found) ∧ W.cell? ⟨g, 9, none⟩ = some (.int .i64 st.best) ∧ W.cell? ⟨g, 10, none⟩ = some (.slice AS st.res.length cS) ∧ W.cell? ⟨g, 11, none⟩ = some (.slice (some ⟨T, 0, none⟩) st.ts.length st.ts.length) := ⟨(qe hg 8).trans rfl, (qe hg 9).trans rfl, (qe hg 10).trans rfl, (qe hg 11).trans rfl⟩
   have f8 := qf hg 8
   clear hg
   obtain ⟨WX, hWX⟩ : ∃ WX, WX = W.setCell ⟨g, 8, none⟩ (.bool true) := ⟨_, rfl⟩
   have hgX : WX.heap[g]? = some (.cells #[.int .i64 P, .slice AE le.length cE, .slice Aa ac.length ca, .slice Af first.length cf, .int .i64 budget, .int .i64 st.used, .bool st.over, .bool all, .bool true, .int .i64 st.best, .slice AS st.res.length cS, .slice (some ⟨T, 0, none⟩) st.ts.length st.ts.length] 79 (0, 0)) := by
    rw [hWX]
    simpa using blk_set HG.out 8 (.bool true)
   have hTX : WX.heap[T]? = some (.cells (st.ts.map (Value.int .i64)).toArray 3 (0, 0)) := by
    rw [hWX]
    exact qam (p := ⟨g, 8, none⟩) HT.out (Ne.symm HNE.out) _
   have hkX : Kept W WX (FS g T) := by
    rw [hWX]
    exact Kept.setCell (p := ⟨g, 8, none⟩) (Kept.refl _ _) (.inl (.inl rfl)) _
   have hbX : Below w0.heap.size w0 WX := by
    rw [hWX]
    exact qn HBEL.out hg0
   have hCX : Kd.C (Kd.int .i64) WX (some ⟨T, 0, none⟩) st.ts.length st.ts := C_blk hTX (by rw [HIL.out]; omega)
   have x11 : WX.cell? ⟨g, 11, none⟩ = some (.slice (some ⟨T, 0, none⟩) st.ts.length st.ts.length) := (qe hgX 11).trans rfl
   have HGX := qo hgX
   have HTX := qo hTX
   have HKX := qo hkX
   have HBX := qo hbX
   have HCX := qo hCX
   have HLIM : Aside0 ((([] : List Int).length + st.ts.length) * 8 ≤ 140737488355328) := ⟨by rw [HIL.out]; simp; omega⟩
   have HKP : Aside0 (W.cell? ⟨g, 8, none⟩ = some (.bool st.found) ∧ W.frozen? ⟨g, 8, none⟩ = false) := ⟨g8, f8⟩
   have HWX := qo hWX
   have h8' : W.cell? ⟨g, 8, none⟩ = some (.bool st.found) := g8
   clear hWX hgX hTX hkX hbX hCX HKP g9 g10 h8'
   go_enter Try.func64, Try.ntmps64
   go_wp2_with ((with_reducible refine gate_dst (N := 23) rfl ?_); (rw [← HWX.out]); refine Kd.R_append_rows (Kd.int .i64) (w0 := WX) (Rr := (Kd.int .i64).K WX) WX.heap.size rfl (.const (.slice none 0 0)) (.tmp 22) 22 3 _ 8 rfl Try.underlying22 visI_info rfl (by decide) (by omega) (.slice none 0 0) [] st.ts _ _ _ (fun _ => True) (fun _ => False) rfl rfl (Kd.R_nil _ _ _ _ _) HCX.out (visI_KM _ _ _ _) (fun _ hk => hk.elim) (fun _ _ => trivial) (qaj _ _) (Nat.le_refl _) HLIM.out ?_; intro v3 w3 ho3 hb3 hg3 hat3; obtain ⟨A3, c3, rfl⟩ := qak ho3; have k10 : w3.cell? ⟨g, 10, none⟩ = some (.slice AS st.res.length cS) := (qe (qaa HGX.out hb3) 10).trans rfl; have f10 := qf (qaa HGX.out hb3) 10; have HO3 := qo ho3; have HB3 := qo hb3; clear ho3 hb3 hg3 hat3)
   generalize hW4 : World.setCell w3 _ _ = W4
   obtain ⟨st4, hst4⟩ : ∃ st4 : RSt, st4 = { st with found := true, res := st.ts } := ⟨_, rfl⟩
   have hlt3 : ∀ k, (Value.slice A3 st.ts.length c3).ownBlock = some k → WX.heap.size ≤ k := Kd.R_base HO3.out
   have hfin4 : RFIN w0 W4 g T P le.length ac first budget all AE Aa Af cE ca cf st4 := by
    rw [← hW4, hst4]
    refine ⟨.slice A3 st.ts.length c3, ?_, ?_, ?_⟩
    ·simpa using blk_set (qaa HGX.out HB3.out) 10 (.slice A3 st.ts.length c3)
    ·exact qam (p := ⟨g, 10, none⟩) (qaa HTX.out HB3.out) (Ne.symm HNE.out) _
    ·refine qz (p := ⟨g, 10, none⟩) ?_ (fun k hk => hk.1) _
     have hgl : g < WX.heap.size := blk_lt HGX.out
     have hTl : T < WX.heap.size := blk_lt HTX.out
     refine qag (qy (Kd.R_bound HO3.out) (fun k hk => ⟨by have := hk.2.1; omega, by have := hk.2.1; omega⟩)) HBX.out.size
   have hk4 : Kept W W4 (FS g T) := by rw [← hW4]; exact Kept.setCell (p := ⟨g, 10, none⟩) (Kept.below HKX.out HB3.out) (.inl (.inl rfl)) _
   have hb4 : Below w0.heap.size w0 W4 := by rw [← hW4]; exact qn (qt HBX.out HB3.out) hg0
   have hc4 : Kd.C k60 W4 AE le.length le ∧ Kd.C k62 W4 Aa ac.length ac ∧ Kd.C (Kd.int .i64) W4 (some ⟨T, 0, none⟩) st.ts.length st.ts := by
    obtain ⟨_, _, hT4, _⟩ := hfin4
    refine ⟨HEV.out W4 hk4, HAC.out W4 hk4, C_blk (ts := st.ts) (by simpa [hst4] using hT4) (by rw [HIL.out]; omega)⟩
   have hcost := refcost_f P le ac st.ts k0 hk0 HOK.out HIL.out HINV.out.ts
   have HCO := qo hcost
   have HF4 := qo hfin4
   have HK4 := qo hk4
   have HB4 := qo hb4
   have HC4 := qo hc4
   have HST4 := qo hst4
   obtain ⟨v4, q1, q2, q3⟩ := hfin4
   have e0 : W4.cell? ⟨g, 0, none⟩ = some (.int .i64 P) := (qe q1 0).trans rfl
   have e1 : W4.cell? ⟨g, 1, none⟩ = some (.slice AE le.length cE) := (qe q1 1).trans rfl
   have e2 : W4.cell? ⟨g, 2, none⟩ = some (.slice Aa ac.length ca) := (qe q1 2).trans rfl
   have e9 : W4.cell? ⟨g, 9, none⟩ = some (.int .i64 st.best) := (qe q1 9).trans (by rw [hst4]; rfl)
   have e11 : W4.cell? ⟨g, 11, none⟩ = some (.slice (some ⟨T, 0, none⟩) st.ts.length st.ts.length) := (qe q1 11).trans (by rw [hst4]; rfl)
   have ff9 := qf q1 9
   have haft : ∀ w5 : World, Below W4.heap.size W4.drew w5 → w5.cell? ⟨g, 0, none⟩ = some (.int .i64 P) ∧ w5.cell? ⟨g, 1, none⟩ = some (.slice AE le.length cE) ∧ w5.cell? ⟨g, 2, none⟩ = some (.slice Aa ac.length ca) ∧ w5.cell? ⟨g, 11, none⟩ = some (.slice (some ⟨T, 0, none⟩) st.ts.length st.ts.length) ∧ w5.cell? ⟨g, 9, none⟩ = some (.int .i64 st.best) ∧ w5.frozen? ⟨g, 9, none⟩ = false := fun w5 h => by
    have q := qaa (qm q1) h
    exact ⟨(qe q 0).trans rfl, (qe q 1).trans rfl, (qe q 2).trans rfl, (qe q 11).trans (by rw [hst4]; rfl), (qe q 9).trans (by rw [hst4]; rfl), qf q 9⟩
   have AFT := qo haft
   have HQ4 := qo q1
   have HC5 := qo (⟨qx hc4.1, qx hc4.2.1, qx hc4.2.2⟩ : Kd.C k60 W4.drew AE le.length le ∧ Kd.C k62 W4.drew Aa ac.length ac ∧ Kd.C (Kd.int .i64) W4.drew (some ⟨T, 0, none⟩) st.ts.length st.ts)
   clear haft hW4 hst4 hk4 hb4 hc4 hcost q1 q2 q3 hlt3 k10 f10 g8 f8 g11 x11 g1
   go_region_held3 (fun w' => w'.cell? ⟨g, 0, none⟩ = some (.int .i64 P) ∧ w'.cell? ⟨g, 1, none⟩ = some (.slice AE le.length cE) ∧ w'.cell? ⟨g, 2, none⟩ = some (.slice Aa ac.length ca) ∧ w'.cell? ⟨g, 11, none⟩ = some (.slice (some ⟨T, 0, none⟩) st.ts.length st.ts.length)) (first | go_keep | exact ⟨(qe (blk_set HQ5.out 9 _) 0).trans rfl, (qe (blk_set HQ5.out 9 _) 1).trans rfl, (qe (blk_set HQ5.out 9 _) 2).trans rfl, (qe (blk_set HQ5.out 9 _) 11).trans (by rw [HST4.out]; rfl)⟩)
    ((go_at_call 26; refine (railplanref11_Cost.calls k0 P AE cE le Aa ca ac (some ⟨T, 0, none⟩) st.ts.length st.ts _ _ W4.drew HC5.out.1 HCE.out HC5.out.2.1 HCA.out HC5.out.2.2 (Nat.le_refl _) HCO.out).mono ?_; rintro e w5 ⟨rfl, hb5⟩; obtain ⟨z0, z1, z2, z11, z9, zf9⟩ := AFT.out w5 hb5; have HB5 := qo hb5; have HQ5 := qo (qaa (qm HQ4.out) hb5); clear hb5))
   have k7 : W4.cell? ⟨g, 7, none⟩ = some (.bool all) := (qe HQ4.out 7).trans rfl
   clear k7
   have g7 : (w5.setCell ⟨g, 9, none⟩ (.int .i64 (costL P st.ts ac 0))).cell? ⟨g, 7, none⟩ = some (.bool all) := (qe (blk_set HQ5.out 9 _) 7).trans rfl
   go_wp2_with fail
   go_ret
   rw [HU.out]
   have hb6 : Below W4.heap.size W4 w5 := qt (qd (qaj _ _)) HB5.out
   have hf6 := RFIN.bst (HF4.out.kept hb6) HNE.out (costL P st.ts ac 0)
   rw [HST4.out] at hf6
   exact ⟨rfl, hf6, Kept.setCell (p := ⟨g, 9, none⟩) (Kept.below HK4.out hb6) (.inl (.inl rfl)) _, qn (qt HB4.out hb6) hg0⟩
  ·have c0 : ((ev : Int) == (le.length : Int)) = false := beq_eq_false_iff_ne.2 (by omega)
   rw [if_neg hevn] at HU
   have hlt : ev < le.length := by omega
   clear hevn
   obtain ⟨af, rfl, hfc⟩ := Kd.at_bool (HFI.out W (Kept.refl _ _)) (ev : Int) (by omega) (by have := HFL.out; omega)
   rw [Int.toNat_natCast, show rdOf false first (ev : Int) = first.getD ev false by unfold rdOf; rw [Int.toNat_natCast]] at hfc
   have hfl : (ev : Int) < (first.length : Int) := by have := HFL.out; omega
   obtain ⟨g0, g3⟩ : W.cell? ⟨g, 0, none⟩ = some (.int .i64 P) ∧ W.cell? ⟨g, 3, none⟩ = some (.slice (some af) first.length cf) := ⟨(qe hg 0).trans rfl, (qe hg 3).trans rfl⟩
   clear hg
   obtain ⟨N, hN⟩ : ∃ N : Nat, N = (if first.getD ev false = true then 1 else P.toNat) := ⟨_, rfl⟩
   rw [← hN] at HU
   have hNP : (N : Int) ≤ P := by rw [hN]; split <;> omega
   obtain ⟨TR, hTR⟩ : ∃ TR, TR = trialV P ac budget all ev (visitF P le.length ac first budget all fuel (ev + 1)) := ⟨_, rfl⟩
   rw [← hTR] at HU
   have HTR := qo hTR
   clear hTR
   have hP1 := hP.1
   have hP2 := hP.2
   have hb1 := hbud.1
   have hb2 := hbud.2
   have HP := qo hP
   have HUS := qo hused
   have HBUD := qo hbud
   clear hP hused hbud
   cases hb : first.getD ev false with
   | true =>
    rw [hb] at hfc
    rw [hb, if_pos rfl] at hN
    have hn1 : (N : Int) ≤ 1 := by omega
    have hn2 : 1 ≤ (N : Int) := by omega
    clear hN hb
    go_enter Try.func64, Try.ntmps64
    go_wp2_with fail
    go_loopg [6] N (fun kq v6 w' => ∃ (t : Nat) (st1 : RSt), v6 = .int .i64 t ∧ Aside0 (t + kq = N) ∧ Aside0 (loopV TR (N - t) (t : Int) st1 = loopV TR N 0 st) ∧ Aside0 (RInv P le.length budget st1) ∧ Aside0 (st1.used ≤ budget) ∧ Aside0 (RFIN w0 w' g T P le.length ac first budget all AE Aa (some af) cE ca cf st1) ∧ Aside0 (Kept W w' (FS g T)) ∧ Aside0 (Below w0.heap.size w0 w'))
    case atStart => exact ⟨0, st, rfl, ⟨by omega⟩, ⟨rfl⟩, HINV, HUS, HFIN, ⟨Kept.refl _ _⟩, HBEL⟩
    case round =>
     obtain ⟨t, st1, rfl, HK, HL, HI1, HU1, HF1, HKE, HB1⟩ := hrel
     have htN : t ≤ N := by have := HK.out; omega
     obtain ⟨vS1, hg, hT, hR⟩ := HF1.out
     obtain ⟨AS1, cS1, rfl⟩ := qak hR
     have HG1 := qo hg
     clear hT hR
     by_cases hlt2 : t < N
     ·have hls : loopV TR (N - t) (t : Int) st1 = if (TR (t : Int) st1).2 = true then ((TR (t : Int) st1).1, false) else loopV TR (N - (t + 1)) (((t + 1 : Nat) : Int)) (TR (t : Int) st1).1 := by
       rw [show N - t = (N - (t + 1)) + 1 by omega]
       simp only [loopV]
       rfl
      have HLS := qo hls
      clear hls
      have g5 : wr.cell? ⟨g, 5, none⟩ = some (.int .i64 st1.used) := (qe hg 5).trans rfl
      have g4 : wr.cell? ⟨g, 4, none⟩ = some (.int .i64 budget) := (qe hg 4).trans rfl
      have f5 := qf hg 5
      have hu0 := HI1.out.used.1
      have hu1 := HU1.out
      by_cases hov : st1.used + 1 > budget
      ·have g6 : wr.cell? ⟨g, 6, none⟩ = some (.bool st1.over) := (qe hg 6).trans rfl
       have f6 := qf hg 6
       have htr : TR (t : Int) st1 = ({ st1 with used := st1.used + 1, over := true }, true) := by rw [HTR.out]; unfold trialV; rw [if_pos hov]
       have HTT := qo htr
       clear htr hg
       go_wp2_with fail
       go_quiet (fail)
       go_wp2_with fail
       go_ret
       rw [HU.out, ← HL.out, HLS.out, HTT.out]
       exact ⟨rfl, RFIN.brk (RFIN.kept (RFIN.use HF1.out HNE.out (st1.used + 1)) (qb (qaj _ _) _)) HNE.out, Kept.setCell (p := ⟨g, 6, none⟩) (Kept.drewN (Kept.setCell (p := ⟨g, 5, none⟩) HKE.out (.inl (.inl rfl)) _) _) (.inl (.inl rfl)) _, qn (qb (qn HB1.out hg0) _) hg0⟩
      ·have g11 : wr.cell? ⟨g, 11, none⟩ = some (.slice (some ⟨T, 0, none⟩) st1.ts.length st1.ts.length) := (qe hg 11).trans rfl
       have hevl : (ev : Int) < (st1.ts.length : Int) := by have := HI1.out.len; omega
       have hevn : ev < st1.ts.length := by omega
       obtain ⟨_, _, hT2, _⟩ := HF1.out
       have tc := ints_cell hT2 (ev : Int) (by omega) hevl
       rw [Int.toNat_natCast] at tc
       have ft := qf hT2 ev
       have hgT : ¬ g = T := HNE.out
       have hTg : ¬ T = g := Ne.symm HNE.out
       have HOV := qo hov
       clear hg hT2
       go_wp2_with fail
       go_quiet (fail)
       go_wp2_with fail
       rename_i nq
       obtain ⟨st2, hst2⟩ : ∃ st2 : RSt, st2 = { st1 with used := st1.used + 1, ts := st1.ts.set ev (t : Int) } := ⟨_, rfl⟩
       generalize hW2 : World.setCell (World.drewN (World.setCell wr _ _) _) _ _ = W2
       have hf2 : RFIN w0 W2 g T P le.length ac first budget all AE Aa (some af) cE ca cf st2 := by rw [← hW2, hst2]; exact RFIN.lay (RFIN.kept (RFIN.use HF1.out HNE.out (st1.used + 1)) (qb (qaj _ _) _)) HNE.out ev (t : Int)
       have hi2 : RInv P le.length budget st2 := by rw [hst2]; exact HI1.out.trial hlt (by omega) (by omega) (by have := HOV.out; omega)
       have hk2 : Kept W W2 (FS g T) := by rw [← hW2]; exact Kept.setCell (p := ⟨T, ev, none⟩) (Kept.drewN (Kept.setCell (p := ⟨g, 5, none⟩) HKE.out (.inl (.inl rfl)) _) _) (.inl (.inr rfl)) _
       have hb2 : Below w0.heap.size w0 W2 := by rw [← hW2]; exact qn (qb (qn HB1.out hg0) _) hT0
       have hu2 : st2.used ≤ budget := by rw [hst2]; show st1.used + 1 ≤ budget; have := HOV.out; omega
       have htr2 : TR (t : Int) st1 = if discF P ac st2.ts (ev : Int) all st2.found st2.best = true then (st2, false) else ((visitF P le.length ac first budget all fuel (ev + 1) st2).1, !(visitF P le.length ac first budget all fuel (ev + 1) st2).2) := by
        rw [HTR.out]; unfold trialV; rw [if_neg (by have := HOV.out; omega), hst2]
       have HTT := qo htr2
       clear htr2 hW2 hst2 tc ft g4 g5 g11 f5 hevl hevn hu0 hu1 hov
       have HF2 := qo hf2
       have HI2 := qo hi2
       have HK2 := qo hk2
       have HB2 := qo hb2
       have HU2 := qo hu2
       obtain ⟨vS2, hg2, hT2, hR2⟩ := hf2
       have hdc := disc_calls P le ac st2.ts g T _ vS2 AE Aa cE ca _ _ all _ _ _ _ W2 (ev : Int) hg2 hT2 (Kd.C_kept_step HAC.out HK2.out) (Kd.C_kept_step HEV.out HK2.out) HCA.out HCE.out (Nat.le_refl _) (by rw [HI2.out.len]; exact hn) HP.out (by rw [HI2.out.len]; exact HGOOD.out) (HI2.out.ts.le (by omega)) hm
       clear hg2 hT2 hR2 hi2 hk2 hb2 hu2
       cases hdd : discF P ac st2.ts (ev : Int) all st2.found st2.best with
       | true =>
        rw [hdd] at hdc HTT
        rw [if_pos rfl] at HTT
        clear hdd
        refine hdc.mono ?_
        rintro e w3 ⟨rfl, hb3⟩
        have HB3 := qo hb3
        clear hb3 hdc
        go_wp2_with fail
        go_roundg (gk - 1)
        case measure => have := HK.out; omega
        case rel => exact ⟨t + 1, st2, by go_num, ⟨by have := HK.out; omega⟩, ⟨by rw [← HL.out, HLS.out, HTT.out]; rfl⟩, HI2, HU2, ⟨RFIN.kept HF2.out HB3.out⟩, ⟨Kept.below HK2.out HB3.out⟩, ⟨qt HB2.out HB3.out⟩⟩
       | false =>
        rw [hdd] at hdc HTT
        rw [if_neg (by simp)] at HTT
        clear hdd
        refine hdc.mono ?_
        rintro e w3 ⟨rfl, hb3⟩
        have HF3 := qo (RFIN.kept HF2.out hb3)
        have HK3 := qo (Kept.below HK2.out hb3)
        have HB3 := qo (qt HB2.out hb3)
        clear hb3 hdc HF2 HK2 HB2
        have hih := HIH.out (ev + 1) st2 w3 (by omega) (by omega) HI2.out HU2.out HF3.out HB3.out (Kd.C_kept_step HAC.out HK3.out) (Kd.C_kept_step HEV.out HK3.out) (Kd.C_kept_step HFI.out HK3.out)
        rw [show (((ev + 1 : Nat)) : Int) = (ev : Int) + 1 by omega] at hih
        have HIV := qo (visitF_inv (ac := ac) (first := first) (budget := budget) (all := all) HP.out fuel (ev + 1) st2 (by omega) HI2.out HU2.out)
        generalize hst4 : visitF P le.length ac first budget all fuel (ev + 1) st2 = r4 at *
        clear hst4
        have HH := qo hih
        clear hih
        go_wp2_with fail
        refine HH.out.mono ?_
        rintro e w4 ⟨rfl, hf4, hk4, hb4⟩
        have HF4 := qo hf4
        have HK4 := qo (HK3.out.then_ hk4 (fun _ h => .inl h))
        have HB4 := qo hb4
        clear hf4 hk4 hb4
        cases hr4 : r4.2 with
        | false =>
         rw [hr4] at HTT
         clear hr4
         go_wp2_with fail
         go_ret
         rw [HU.out, ← HL.out, HLS.out, HTT.out]
         exact ⟨rfl, HF4.out, HK4.out, HB4.out⟩
        | true =>
         rw [hr4] at HTT HIV
         clear hr4
         go_wp2_with fail
         go_roundg (gk - 1)
         case measure => have := HK.out; omega
         case rel => exact ⟨t + 1, r4.1, by go_num, ⟨by have := HK.out; omega⟩, ⟨by rw [← HL.out, HLS.out, HTT.out]; rfl⟩, ⟨HIV.out.1⟩, ⟨by first | exact HIV.out.2 rfl | exact HIV.out.2 trivial⟩, HF4, HK4, HB4⟩
     ·go_wp2_with fail
      go_ret
      have htN' : t = N := by omega
      rw [HU.out, ← HL.out, htN', Nat.sub_self]
      exact ⟨rfl, HF1.out, HKE.out, HB1.out⟩
   | false =>
    rw [hb] at hfc
    rw [hb, if_neg (by simp)] at hN
    have hn1 : (N : Int) ≤ P := by omega
    have hn2 : P ≤ (N : Int) := by omega
    clear hN hb
    go_enter Try.func64, Try.ntmps64
    go_wp2_with fail
    go_loopg [6] N (fun kq v6 w' => ∃ (t : Nat) (st1 : RSt), v6 = .int .i64 t ∧ Aside0 (t + kq = N) ∧ Aside0 (loopV TR (N - t) (t : Int) st1 = loopV TR N 0 st) ∧ Aside0 (RInv P le.length budget st1) ∧ Aside0 (st1.used ≤ budget) ∧ Aside0 (RFIN w0 w' g T P le.length ac first budget all AE Aa (some af) cE ca cf st1) ∧ Aside0 (Kept W w' (FS g T)) ∧ Aside0 (Below w0.heap.size w0 w'))
    case atStart => exact ⟨0, st, rfl, ⟨by omega⟩, ⟨rfl⟩, HINV, HUS, HFIN, ⟨Kept.refl _ _⟩, HBEL⟩
    case round =>
     obtain ⟨t, st1, rfl, HK, HL, HI1, HU1, HF1, HKE, HB1⟩ := hrel
     have htN : t ≤ N := by have := HK.out; omega
     obtain ⟨vS1, hg, hT, hR⟩ := HF1.out
     obtain ⟨AS1, cS1, rfl⟩ := qak hR
     have HG1 := qo hg
     clear hT hR
     by_cases hlt2 : t < N
     ·have hls : loopV TR (N - t) (t : Int) st1 = if (TR (t : Int) st1).2 = true then ((TR (t : Int) st1).1, false) else loopV TR (N - (t + 1)) (((t + 1 : Nat) : Int)) (TR (t : Int) st1).1 := by
       rw [show N - t = (N - (t + 1)) + 1 by omega]
       simp only [loopV]
       rfl
      have HLS := qo hls
      clear hls
      have g5 : wr.cell? ⟨g, 5, none⟩ = some (.int .i64 st1.used) := (qe hg 5).trans rfl
      have g4 : wr.cell? ⟨g, 4, none⟩ = some (.int .i64 budget) := (qe hg 4).trans rfl
      have f5 := qf hg 5
      have hu0 := HI1.out.used.1
      have hu1 := HU1.out
      by_cases hov : st1.used + 1 > budget
      ·have g6 : wr.cell? ⟨g, 6, none⟩ = some (.bool st1.over) := (qe hg 6).trans rfl
       have f6 := qf hg 6
       have htr : TR (t : Int) st1 = ({ st1 with used := st1.used + 1, over := true }, true) := by rw [HTR.out]; unfold trialV; rw [if_pos hov]
       have HTT := qo htr
       clear htr hg
       go_wp2_with fail
       go_quiet (fail)
       go_wp2_with fail
       go_ret
       rw [HU.out, ← HL.out, HLS.out, HTT.out]
       exact ⟨rfl, RFIN.brk (RFIN.kept (RFIN.use HF1.out HNE.out (st1.used + 1)) (qb (qaj _ _) _)) HNE.out, Kept.setCell (p := ⟨g, 6, none⟩) (Kept.drewN (Kept.setCell (p := ⟨g, 5, none⟩) HKE.out (.inl (.inl rfl)) _) _) (.inl (.inl rfl)) _, qn (qb (qn HB1.out hg0) _) hg0⟩
      ·have g11 : wr.cell? ⟨g, 11, none⟩ = some (.slice (some ⟨T, 0, none⟩) st1.ts.length st1.ts.length) := (qe hg 11).trans rfl
       have hevl : (ev : Int) < (st1.ts.length : Int) := by have := HI1.out.len; omega
       have hevn : ev < st1.ts.length := by omega
       obtain ⟨_, _, hT2, _⟩ := HF1.out
       have tc := ints_cell hT2 (ev : Int) (by omega) hevl
       rw [Int.toNat_natCast] at tc
       have ft := qf hT2 ev
       have hgT : ¬ g = T := HNE.out
       have hTg : ¬ T = g := Ne.symm HNE.out
       have HOV := qo hov
       clear hg hT2
       go_wp2_with fail
       go_quiet (fail)
       go_wp2_with fail
       rename_i nq
       obtain ⟨st2, hst2⟩ : ∃ st2 : RSt, st2 = { st1 with used := st1.used + 1, ts := st1.ts.set ev (t : Int) } := ⟨_, rfl⟩
       generalize hW2 : World.setCell (World.drewN (World.setCell wr _ _) _) _ _ = W2
       have hf2 : RFIN w0 W2 g T P le.length ac first budget all AE Aa (some af) cE ca cf st2 := by rw [← hW2, hst2]; exact RFIN.lay (RFIN.kept (RFIN.use HF1.out HNE.out (st1.used + 1)) (qb (qaj _ _) _)) HNE.out ev (t : Int)
       have hi2 : RInv P le.length budget st2 := by rw [hst2]; exact HI1.out.trial hlt (by omega) (by omega) (by have := HOV.out; omega)
       have hk2 : Kept W W2 (FS g T) := by rw [← hW2]; exact Kept.setCell (p := ⟨T, ev, none⟩) (Kept.drewN (Kept.setCell (p := ⟨g, 5, none⟩) HKE.out (.inl (.inl rfl)) _) _) (.inl (.inr rfl)) _
       have hb2 : Below w0.heap.size w0 W2 := by rw [← hW2]; exact qn (qb (qn HB1.out hg0) _) hT0
       have hu2 : st2.used ≤ budget := by rw [hst2]; show st1.used + 1 ≤ budget; have := HOV.out; omega
       have htr2 : TR (t : Int) st1 = if discF P ac st2.ts (ev : Int) all st2.found st2.best = true then (st2, false) else ((visitF P le.length ac first budget all fuel (ev + 1) st2).1, !(visitF P le.length ac first budget all fuel (ev + 1) st2).2) := by
        rw [HTR.out]; unfold trialV; rw [if_neg (by have := HOV.out; omega), hst2]
       have HTT := qo htr2
       clear htr2 hW2 hst2 tc ft g4 g5 g11 f5 hevl hevn hu0 hu1 hov
       have HF2 := qo hf2
       have HI2 := qo hi2
       have HK2 := qo hk2
       have HB2 := qo hb2
       have HU2 := qo hu2
       obtain ⟨vS2, hg2, hT2, hR2⟩ := hf2
       have hdc := disc_calls P le ac st2.ts g T _ vS2 AE Aa cE ca _ _ all _ _ _ _ W2 (ev : Int) hg2 hT2 (Kd.C_kept_step HAC.out HK2.out) (Kd.C_kept_step HEV.out HK2.out) HCA.out HCE.out (Nat.le_refl _) (by rw [HI2.out.len]; exact hn) HP.out (by rw [HI2.out.len]; exact HGOOD.out) (HI2.out.ts.le (by omega)) hm
       clear hg2 hT2 hR2 hi2 hk2 hb2 hu2
       cases hdd : discF P ac st2.ts (ev : Int) all st2.found st2.best with
       | true =>
        rw [hdd] at hdc HTT
        rw [if_pos rfl] at HTT
        clear hdd
        refine hdc.mono ?_
        rintro e w3 ⟨rfl, hb3⟩
        have HB3 := qo hb3
        clear hb3 hdc
        go_wp2_with fail
        go_roundg (gk - 1)
        case measure => have := HK.out; omega
        case rel => exact ⟨t + 1, st2, by go_num, ⟨by have := HK.out; omega⟩, ⟨by rw [← HL.out, HLS.out, HTT.out]; rfl⟩, HI2, HU2, ⟨RFIN.kept HF2.out HB3.out⟩, ⟨Kept.below HK2.out HB3.out⟩, ⟨qt HB2.out HB3.out⟩⟩
       | false =>
        rw [hdd] at hdc HTT
        rw [if_neg (by simp)] at HTT
        clear hdd
        refine hdc.mono ?_
        rintro e w3 ⟨rfl, hb3⟩
        have HF3 := qo (RFIN.kept HF2.out hb3)
        have HK3 := qo (Kept.below HK2.out hb3)
        have HB3 := qo (qt HB2.out hb3)
        clear hb3 hdc HF2 HK2 HB2
        have hih := HIH.out (ev + 1) st2 w3 (by omega) (by omega) HI2.out HU2.out HF3.out HB3.out (Kd.C_kept_step HAC.out HK3.out) (Kd.C_kept_step HEV.out HK3.out) (Kd.C_kept_step HFI.out HK3.out)
        rw [show (((ev + 1 : Nat)) : Int) = (ev : Int) + 1 by omega] at hih
        have HIV := qo (visitF_inv (ac := ac) (first := first) (budget := budget) (all := all) HP.out fuel (ev + 1) st2 (by omega) HI2.out HU2.out)
        generalize hst4 : visitF P le.length ac first budget all fuel (ev + 1) st2 = r4 at *
        clear hst4
        have HH := qo hih
        clear hih
        go_wp2_with fail
        refine HH.out.mono ?_
        rintro e w4 ⟨rfl, hf4, hk4, hb4⟩
        have HF4 := qo hf4
        have HK4 := qo (HK3.out.then_ hk4 (fun _ h => .inl h))
        have HB4 := qo hb4
        clear hf4 hk4 hb4
        cases hr4 : r4.2 with
        | false =>
         rw [hr4] at HTT
         clear hr4
         go_wp2_with fail
         go_ret
         rw [HU.out, ← HL.out, HLS.out, HTT.out]
         exact ⟨rfl, HF4.out, HK4.out, HB4.out⟩
        | true =>
         rw [hr4] at HTT HIV
         clear hr4
         go_wp2_with fail
         go_roundg (gk - 1)
         case measure => have := HK.out; omega
         case rel => exact ⟨t + 1, r4.1, by go_num, ⟨by have := HK.out; omega⟩, ⟨by rw [← HL.out, HLS.out, HTT.out]; rfl⟩, ⟨HIV.out.1⟩, ⟨by first | exact HIV.out.2 rfl | exact HIV.out.2 trivial⟩, HF4, HK4, HB4⟩
     ·go_wp2_with fail
      go_ret
      have htN' : t = N := by omega
      rw [HU.out, ← HL.out, htN', Nat.sub_self]
      exact ⟨rfl, HF1.out, HKE.out, HB1.out⟩

end Go.Proofs.Ytpioelilfhkfdaa.XAll
