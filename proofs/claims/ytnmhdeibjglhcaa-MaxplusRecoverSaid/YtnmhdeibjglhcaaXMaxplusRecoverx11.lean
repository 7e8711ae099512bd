-- This session's own text, written by wip/tools/xprint.py after the form of the kit's print.
import Derived.Test.YtnmhdeibjglhcaaXMaxplusRecoverx0
import Derived.Test.YtnmhdeibjglhcaaXMaxplusRecoverx8
import Derived.Test.YtnmhdeibjglhcaaXMaxplusRecoverx10
namespace Go.Proofs.Ytnmhdeibjglhcaa.XMaxplusRecover
open Go.RowKit Go.Proofs.YtnmhdeibjglhcaaW.PrintWords Go.Proofs.YtnmhdeibjglhcaaW.PrintLast Go.Proofs.YtnmhdeibjglhcaaW.PrintMore
attribute [local go_sem] max2_int min2_int max_two min_two max_three min_three max_four min_four   -- for this text's walks alone
set_option linter.unusedVariables false
set_option linter.unusedSimpArgs false

/-! ### railplanref30_raw: function 48 -/
mutual
def railplanref30_raw.l0 : Nat → List (List Int) → List (List Int) → List (List Int) → Int → Int → Option ((List (List Int)))
 | 0, _, _, _, _, _ => none
 | k + 1, x0, x1, x5, x12, x13 => if x13 < x12 then (railplanref30_raw.l1 k x0 x1 x5 x13 ([] : List Int) x12 x13 (x0.length : Int) 0) else (some x5)
def railplanref30_raw.l1 : Nat → List (List Int) → List (List Int) → List (List Int) → Int → List Int → Int → Int → Int → Int → Option ((List (List Int)))
 | 0, _, _, _, _, _, _, _, _, _ => none
 | k + 1, x0, x1, x5, x6, x7, x12, x13, x17, x18 => if x18 < x17 then (railplanref30_raw.l2 k x0 x1 x5 x6 x7 x18 (-1125899906842624) x12 x13 x17 x18 (x0.length : Int) 0) else (if x5.length < 5864062014805 then (railplanref30_raw.l0 k x0 x1 (x5 ++ [x7]) x12 (wrap64 (x13 + 1))) else (none))
def railplanref30_raw.l2 : Nat → List (List Int) → List (List Int) → List (List Int) → Int → List Int → Int → Int → Int → Int → Int → Int → Int → Int → Option ((List (List Int)))
 | 0, _, _, _, _, _, _, _, _, _, _, _, _, _ => none
 | k + 1, x0, x1, x5, x6, x7, x8, x9, x12, x13, x17, x18, x22, x23 => if x23 < x22 then (if 0 ≤ x6 then (if x6 < (x0.length : Int) then (if 0 ≤ x23 then (if x23 < ((rd_L1 x0 x6).length : Int) then (if x23 < (x1.length : Int) then (if 0 ≤ x8 then (if x8 < ((rd_L1 x1 x23).length : Int) then ((railplanref30_plus.f (rd (rd_L1 x0 x6) x23) (rd (rd_L1 x1 x23) x8)).bind fun t282 => (railplanref30_raw.l2 k x0 x1 x5 x6 x7 x8 (mx x9 t282) x12 x13 x17 x18 x22 (wrap64 (x23 + 1)))) else (none)) else (none)) else (none)) else (none)) else (none)) else (none)) else (none)) else (if x7.length < 17592186044416 then (railplanref30_raw.l1 k x0 x1 x5 x6 (x7 ++ [x9]) x12 x13 x17 (wrap64 (x18 + 1))) else (none))
end
def railplanref30_raw.f (k : Nat) (l0 : List (List Int)) (l1 : List (List Int)) : Option ((List (List Int))) := railplanref30_raw.l0 k l0 l1 ([] : List (List Int)) (l0.length : Int) 0
theorem railplanref30_raw.mono_l : ∀ k, (∀ y0 y1 y2 y3 y4, LeO (railplanref30_raw.l0 k y0 y1 y2 y3 y4) (railplanref30_raw.l0 (k + 1) y0 y1 y2 y3 y4)) ∧ (∀ y0 y1 y2 y3 y4 y5 y6 y7 y8, LeO (railplanref30_raw.l1 k y0 y1 y2 y3 y4 y5 y6 y7 y8) (railplanref30_raw.l1 (k + 1) y0 y1 y2 y3 y4 y5 y6 y7 y8)) ∧ (∀ y0 y1 y2 y3 y4 y5 y6 y7 y8 y9 y10 y11 y12, LeO (railplanref30_raw.l2 k y0 y1 y2 y3 y4 y5 y6 y7 y8 y9 y10 y11 y12) (railplanref30_raw.l2 (k + 1) y0 y1 y2 y3 y4 y5 y6 y7 y8 y9 y10 y11 y12))
 | 0 => ⟨fun _ _ _ _ _ r h => by simp [railplanref30_raw.l0] at h, fun _ _ _ _ _ _ _ _ _ r h => by simp [railplanref30_raw.l1] at h, fun _ _ _ _ _ _ _ _ _ _ _ _ _ r h => by simp [railplanref30_raw.l2] at h⟩
 | k + 1 => by
  obtain ⟨ih0, ih1, ih2⟩ := railplanref30_raw.mono_l k
  refine ⟨?_, ?_, ?_⟩
  ·intro y0 y1 y2 y3 y4
   unfold railplanref30_raw.l0
   repeat' first
   | (with_reducible exact ih0 _ _ _ _ _)
   | (with_reducible exact ih1 _ _ _ _ _ _ _ _ _)
   | (with_reducible exact ih2 _ _ _ _ _ _ _ _ _ _ _ _ _)
   | (with_reducible exact LeO.refl _)
   | (with_reducible exact LeO.none _)
   | (with_reducible refine LeO.ite ?_ ?_)
   | (with_reducible refine LeO.bind ?_ (fun _ => ?_))
   | exact ih0 _ _ _ _ _
   | exact ih1 _ _ _ _ _ _ _ _ _
   | exact ih2 _ _ _ _ _ _ _ _ _ _ _ _ _
   | exact LeO.none _
   | refine LeO.ite ?_ ?_
   | refine LeO.bind ?_ (fun _ => ?_)
  ·intro y0 y1 y2 y3 y4 y5 y6 y7 y8
   unfold railplanref30_raw.l1
   repeat' first
   | (with_reducible exact ih0 _ _ _ _ _)
   | (with_reducible exact ih1 _ _ _ _ _ _ _ _ _)
   | (with_reducible exact ih2 _ _ _ _ _ _ _ _ _ _ _ _ _)
   | (with_reducible exact LeO.refl _)
   | (with_reducible exact LeO.none _)
   | (with_reducible refine LeO.ite ?_ ?_)
   | (with_reducible refine LeO.bind ?_ (fun _ => ?_))
   | exact ih0 _ _ _ _ _
   | exact ih1 _ _ _ _ _ _ _ _ _
   | exact ih2 _ _ _ _ _ _ _ _ _ _ _ _ _
   | exact LeO.none _
   | refine LeO.ite ?_ ?_
   | refine LeO.bind ?_ (fun _ => ?_)
  ·intro y0 y1 y2 y3 y4 y5 y6 y7 y8 y9 y10 y11 y12
   unfold railplanref30_raw.l2
   repeat' first
   | (with_reducible exact ih0 _ _ _ _ _)
   | (with_reducible exact ih1 _ _ _ _ _ _ _ _ _)
   | (with_reducible exact ih2 _ _ _ _ _ _ _ _ _ _ _ _ _)
   | (with_reducible exact LeO.refl _)
   | (with_reducible exact LeO.none _)
   | (with_reducible refine LeO.ite ?_ ?_)
   | (with_reducible refine LeO.bind ?_ (fun _ => ?_))
   | exact ih0 _ _ _ _ _
   | exact ih1 _ _ _ _ _ _ _ _ _
   | exact ih2 _ _ _ _ _ _ _ _ _ _ _ _ _
   | exact LeO.none _
   | refine LeO.ite ?_ ?_
   | refine LeO.bind ?_ (fun _ => ?_)
theorem railplanref30_raw.mono : ∀ a0 a1 k, LeO (railplanref30_raw.f k a0 a1) (railplanref30_raw.f (k + 1) a0 a1) := by
 intro a0 a1 k
 obtain ⟨ih0, ih1, ih2⟩ := railplanref30_raw.mono_l k
 unfold railplanref30_raw.f
 repeat' first
   | (with_reducible exact ih0 _ _ _ _ _)
   | (with_reducible exact ih1 _ _ _ _ _ _ _ _ _)
   | (with_reducible exact ih2 _ _ _ _ _ _ _ _ _ _ _ _ _)
   | (with_reducible exact LeO.refl _)
   | (with_reducible exact LeO.none _)
   | (with_reducible refine LeO.ite ?_ ?_)
   | (with_reducible refine LeO.bind ?_ (fun _ => ?_))
   | exact ih0 _ _ _ _ _
   | exact ih1 _ _ _ _ _ _ _ _ _
   | exact ih2 _ _ _ _ _ _ _ _ _ _ _ _ _
   | exact LeO.none _
   | refine LeO.ite ?_ ?_
   | refine LeO.bind ?_ (fun _ => ?_)
set_option maxHeartbeats 8000000 in
set_option maxRecDepth 100000 in
theorem railplanref30_raw.calls (k : Nat) (A0 : Option Addr) (c0 : Nat) (l0 : List (List Int)) (A1 : Option Addr) (c1 : Nat) (l1 : List (List Int)) (r : List (List Int)) (w : World) (hr0 : Kd.C (Kd.slice 3 (Kd.int .i64)) w A0 l0.length l0) (hc0 : l0.length ≤ c0) (hr1 : Kd.C (Kd.slice 3 (Kd.int .i64)) w A1 l1.length l1) (hc1 : l1.length ≤ c1) (h : railplanref30_raw.f k l0 l1 = some r) :
  Calls Try.prog 48 #[.slice A0 l0.length c0, .slice A1 l1.length c1] w fun e w' => ∃ v0_ : Value, e = .returned (v0_) ∧ Kd.S (Kd.slice 3 (Kd.int .i64)) 22 w' w.heap.size (fun _ => True) v0_ r ∧ Below w.heap.size w w' := by
 have HR0 := Aside0.mk hr0
 have HC0 := Aside0.mk hc0
 clear hr0 hc0
 have HR1 := Aside0.mk hr1
 have HC1 := Aside0.mk hc1
 clear hr1 hc1
 have HB := Aside0.mk (Below.refl w.heap.size w)
 have H : (railplanref30_raw.l0 k l0 l1 ([] : List (List Int)) (l0.length : Int) 0) = some r := h
 clear h
 have H' := Aside0.mk H
 clear H
 go_enter Try.func48, Try.ntmps48
 go_wp2
 repeat (go_quiet (fail); try go_wp2)
 go_loopg [5, 13] k (fun kq v5 v13 w' => ∃ (x5_1 : List (List Int)) (x13_1 : Int), v13 = .int .i64 x13_1 ∧ Aside0 (railplanref30_raw.l0 kq l0 l1 x5_1 (l0.length : Int) x13_1 = some r) ∧ Aside0 (kq ≤ k) ∧ Aside0 (Kd.S (Kd.slice 3 (Kd.int .i64)) 22 w' w.heap.size (fun _ => True) v5 x5_1) ∧ Aside0 (Below w.heap.size w w'))
 case atStart => exact ⟨(([] : List (List Int))), (0), (by first | rfl | (simp; done) | (simp [*]; done)), H', ⟨Nat.le_refl _⟩, ⟨by first | exact Kd.S_nil _ _ _ _ _ | exact Kd.N_nil _ _ _ _ _ | exact Kd.V_nil _ _ _ _ _ | exact Kd.Q_nil _ _ _ _ _ | exact Kd.R_nil _ _ _ _ _⟩, ⟨by repeat (first | (with_reducible first | exact HB.out | apply below_alloc | apply pw_below_drewN | apply below_drew1) | exact HB.out)⟩⟩
 case round =>
  clear H'
  try clear c1
  try clear p2
  obtain ⟨x5_1, x13_1, rfl, HA, HK1, HO_5, HB⟩ := hrel
  cases gk with
  | zero => exact absurd HA.out (by simp [railplanref30_raw.l0])
  | succ k1 =>
   have H := HA.out
   clear HA
   simp only [railplanref30_raw.l0] at H
   by_cases c3 : x13_1 < (l0.length : Int)
   ·rw [if_pos c3] at H
    have c3b0 : decide (x13_1 < (l0.length : Int)) = true := decide_eq_true c3
    clear c3
    have H' := Aside0.mk H
    clear H
    go_wp2
    repeat (go_quiet (fail); try go_wp2)
    go_loopg [7, 18] k1 (fun kq v7 v18 w' => ∃ (x7_2 : List Int) (x18_2 : Int), v18 = .int .i64 x18_2 ∧ Aside0 (railplanref30_raw.l1 kq l0 l1 x5_1 x13_1 x7_2 (l0.length : Int) x13_1 (l0.length : Int) x18_2 = some r) ∧ Aside0 (kq ≤ k1) ∧ Aside0 (Kd.S (Kd.slice 3 (Kd.int .i64)) 22 w' w.heap.size (fun k_ => some k_ ≠ (v7 : Value).ownBlock) u5 x5_1) ∧ Aside0 (Kd.R (Kd.int .i64) 3 w' w.heap.size (fun _ => True) v7 x7_2) ∧ Aside0 (Below w.heap.size w w'))
    case atStart => exact ⟨(([] : List Int)), (0), (by first | rfl | (simp; done) | (simp [*]; done)), H', ⟨Nat.le_refl _⟩, ⟨by (with_reducible repeat (first | apply Kd.S_alloc | apply Kd.S_drewN | apply Kd.S_drew)); exact Kd.S_mono HO_5.out (fun _ hk => (by simp [Value.ownBlock]))⟩, ⟨by first | exact Kd.R_nil _ _ _ _ _ | exact Kd.N_nil _ _ _ _ _ | exact Kd.V_nil _ _ _ _ _ | exact Kd.Q_nil _ _ _ _ _ | exact Kd.S_nil _ _ _ _ _⟩, ⟨by repeat (first | (with_reducible first | exact HB.out | apply below_alloc | apply pw_below_drewN | apply below_drew1) | exact HB.out)⟩⟩
    case round =>
     clear H'
     try clear c1
     try clear p2
     try clear c3
     try clear c3b0
     try clear p2
     obtain ⟨x7_2, x18_2, rfl, HA, HK2, HO_5, HO_7, HB⟩ := hrel
     cases gk with
     | zero => exact absurd HA.out (by simp [railplanref30_raw.l1])
     | succ k2 =>
      have H := HA.out
      clear HA
      simp only [railplanref30_raw.l1] at H
      by_cases c4 : x18_2 < (l0.length : Int)
      ·rw [if_pos c4] at H
       have c4b0 : decide (x18_2 < (l0.length : Int)) = true := decide_eq_true c4
       clear c4
       have H' := Aside0.mk H
       clear H
       go_wp2
       repeat (go_quiet (fail); try go_wp2)
       go_loopg [9, 23] k2 (fun kq v9 v23 w' => ∃ (x9_3 : Int) (x23_3 : Int), v9 = .int .i64 x9_3 ∧ v23 = .int .i64 x23_3 ∧ Aside0 (railplanref30_raw.l2 kq l0 l1 x5_1 x13_1 x7_2 x18_2 x9_3 (l0.length : Int) x13_1 (l0.length : Int) x18_2 (l0.length : Int) x23_3 = some r) ∧ Aside0 (kq ≤ k2) ∧ Aside0 (Kd.S (Kd.slice 3 (Kd.int .i64)) 22 w' w.heap.size (fun k_ => some k_ ≠ (u7 : Value).ownBlock) u5 x5_1) ∧ Aside0 (Kd.R (Kd.int .i64) 3 w' w.heap.size (fun _ => True) u7 x7_2) ∧ Aside0 (Below w.heap.size w w'))
       case atStart => exact ⟨((-1125899906842624)), (0), (by first | rfl | (simp; done) | (simp [*]; done)), (by first | rfl | (simp; done) | (simp [*]; done)), H', ⟨Nat.le_refl _⟩, ⟨by (with_reducible repeat (first | apply Kd.S_alloc | apply Kd.S_drewN | apply Kd.S_drew)); exact HO_5.out⟩, ⟨by (with_reducible repeat (first | apply Kd.R_alloc | apply Kd.R_drewN | apply Kd.R_drew)); exact HO_7.out⟩, ⟨by repeat (first | (with_reducible first | exact HB.out | apply below_alloc | apply pw_below_drewN | apply below_drew1) | exact HB.out)⟩⟩
       case round =>
        clear H'
        try clear c1
        try clear p2
        try clear c3
        try clear c3b0
        try clear c4
        try clear c4b0
        try clear p2
        obtain ⟨x9_3, x23_3, rfl, rfl, HA, HK3, HO_5, HO_7, HB⟩ := hrel
        cases gk with
        | zero => exact absurd HA.out (by simp [railplanref30_raw.l2])
        | succ k3 =>
         have H := HA.out
         clear HA
         simp only [railplanref30_raw.l2] at H
         by_cases c5 : x23_3 < (l0.length : Int)
         ·rw [if_pos c5] at H
          have c5b0 : decide (x23_3 < (l0.length : Int)) = true := decide_eq_true c5
          clear c5
          by_cases c6 : 0 ≤ x13_1
          ·rw [if_pos c6] at H
           have c6b0 : decide (0 ≤ x13_1) = true := decide_eq_true c6
           clear c6
           by_cases c7 : x13_1 < (l0.length : Int)
           ·rw [if_pos c7] at H
            have c7b0 : decide (x13_1 < (l0.length : Int)) = true := decide_eq_true c7
            clear c7
            by_cases c8 : 0 ≤ x23_3
            ·rw [if_pos c8] at H
             have c8b0 : decide (0 ≤ x23_3) = true := decide_eq_true c8
             clear c8
             by_cases c9 : x23_3 < ((rd_L1 l0 x13_1).length : Int)
             ·rw [if_pos c9] at H
              have c9b0 : decide (x23_3 < ((rd_L1 l0 x13_1).length : Int)) = true := decide_eq_true c9
              clear c9
              by_cases c10 : x23_3 < (l1.length : Int)
              ·rw [if_pos c10] at H
               have c10b0 : decide (x23_3 < (l1.length : Int)) = true := decide_eq_true c10
               clear c10
               by_cases c11 : 0 ≤ x18_2
               ·rw [if_pos c11] at H
                have c11b0 : decide (0 ≤ x18_2) = true := decide_eq_true c11
                clear c11
                by_cases c12 : x18_2 < ((rd_L1 l1 x23_3).length : Int)
                ·rw [if_pos c12] at H
                 have c12b0 : decide (x18_2 < ((rd_L1 l1 x23_3).length : Int)) = true := decide_eq_true c12
                 clear c12
                 replace H := Option.bind_eq_some_iff.mp H
                 obtain ⟨t282, A130, H⟩ := H
                 replace H : (railplanref30_raw.l2 k3 l0 l1 x5_1 x13_1 x7_2 x18_2 (mx x9_3 t282) (l0.length : Int) x13_1 (l0.length : Int) x18_2 (l0.length : Int) (wrap64 (x23_3 + 1))) = some r := H
                 have A13 := Aside0.mk A130
                 clear A130
                 obtain ⟨ji14, hji14⟩ : ∃ j_ : Int, (mx x9_3 t282) = j_ := ⟨_, rfl⟩
                 replace H : (railplanref30_raw.l2 k3 l0 l1 x5_1 x13_1 x7_2 x18_2 ji14 (l0.length : Int) x13_1 (l0.length : Int) x18_2 (l0.length : Int) (wrap64 (x23_3 + 1))) = some r := by first | (rw [hji14] at H; exact H) | (simp only [hji14] at H ⊢; exact H)
                 (try rw [hji14] at A13)
                 have hji14_ : (if x9_3 < t282 then t282 else x9_3) = ji14 := hji14
                 have H' := Aside0.mk H
                 clear H
                 have p278 : 0 ≤ (x13_1 : Int) := of_decide_eq_true (by first | (with_reducible assumption) | assumption)
                 have q278 : x13_1 < (l0.length : Int) := of_decide_eq_true (by first | (with_reducible assumption) | assumption)
                 obtain ⟨ad278, A278_0, c278_0, e278, hx278_0, hl278_0, hi278_0⟩ := at_L1 HR0.out x13_1 p278 q278
                 cases e278
                 replace hx278_0 := (HB.out.cell (World.block_lt_of_cell? w _ hx278_0)).trans hx278_0
                 have HR278_0 := Aside0.mk hi278_0
                 have HC278_0 := Aside0.mk hl278_0
                 clear hi278_0 hl278_0
                 replace p278 := eq_true p278
                 replace q278 := eq_true q278
                 have p279 : 0 ≤ (x23_3 : Int) := of_decide_eq_true (by first | (with_reducible assumption) | assumption)
                 have q279 : x23_3 < ((rd_L1 l0 x13_1).length : Int) := of_decide_eq_true (by first | (with_reducible assumption) | assumption)
                 obtain ⟨ad279, e279, hx279_0⟩ := Kd.at_int HR278_0.out x23_3 p279 q279
                 cases e279
                 replace hx279_0 := (HB.out.cell (World.block_lt_of_cell? w _ hx279_0)).trans hx279_0
                 replace p279 := eq_true p279
                 replace q279 := eq_true q279
                 have p280 : 0 ≤ (x23_3 : Int) := of_decide_eq_true (by first | (with_reducible assumption) | assumption)
                 have q280 : x23_3 < (l1.length : Int) := of_decide_eq_true (by first | (with_reducible assumption) | assumption)
                 obtain ⟨ad280, A280_0, c280_0, e280, hx280_0, hl280_0, hi280_0⟩ := at_L1 HR1.out x23_3 p280 q280
                 cases e280
                 replace hx280_0 := (HB.out.cell (World.block_lt_of_cell? w _ hx280_0)).trans hx280_0
                 have HR280_0 := Aside0.mk hi280_0
                 have HC280_0 := Aside0.mk hl280_0
                 clear hi280_0 hl280_0
                 replace p280 := eq_true p280
                 replace q280 := eq_true q280
                 have p281 : 0 ≤ (x18_2 : Int) := of_decide_eq_true (by first | (with_reducible assumption) | assumption)
                 have q281 : x18_2 < ((rd_L1 l1 x23_3).length : Int) := of_decide_eq_true (by first | (with_reducible assumption) | assumption)
                 obtain ⟨ad281, e281, hx281_0⟩ := Kd.at_int HR280_0.out x18_2 p281 q281
                 cases e281
                 replace hx281_0 := (HB.out.cell (World.block_lt_of_cell? w _ hx281_0)).trans hx281_0
                 replace p281 := eq_true p281
                 replace q281 := eq_true q281
                 go_wp2_with (first | (go_at_call 50; (with_reducible refine (railplanref30_plus.calls (rd (rd_L1 l0 x13_1) x23_3) (rd (rd_L1 l1 x23_3) x18_2) t282 _ A13.out).mono ?_); rintro e w' ⟨rfl, ⟨nd, rfl⟩⟩; (try first | exact ⟨rfl, _, World.drewN_drewN _ _ _⟩ | exact ⟨rfl, _, Eq.trans (World.drewN_drewN _ _ _) (congrArg (World.drewN _) (Nat.add_assoc _ _ _))⟩)))
                 repeat (go_quiet (first | (go_at_call 50; (with_reducible refine (railplanref30_plus.calls (rd (rd_L1 l0 x13_1) x23_3) (rd (rd_L1 l1 x23_3) x18_2) t282 _ A13.out).mono ?_); rintro e w' ⟨rfl, ⟨nd, rfl⟩⟩; (try first | exact ⟨rfl, _, World.drewN_drewN _ _ _⟩ | exact ⟨rfl, _, Eq.trans (World.drewN_drewN _ _ _) (congrArg (World.drewN _) (Nat.add_assoc _ _ _))⟩))); try go_wp2_with (first | (go_at_call 50; (with_reducible refine (railplanref30_plus.calls (rd (rd_L1 l0 x13_1) x23_3) (rd (rd_L1 l1 x23_3) x18_2) t282 _ A13.out).mono ?_); rintro e w' ⟨rfl, ⟨nd, rfl⟩⟩; (try first | exact ⟨rfl, _, World.drewN_drewN _ _ _⟩ | exact ⟨rfl, _, Eq.trans (World.drewN_drewN _ _ _) (congrArg (World.drewN _) (Nat.add_assoc _ _ _))⟩))))
                 go_roundg k3
                 case measure => have := HK1.out; have := HK2.out; have := HK3.out; omega
                 case rel => exact ⟨(ji14), (wrap64 (x23_3 + 1)), (by first | rfl | (simp; done) | (simp only [← hji14] <;> (first | rfl | simp)) | (simp [*]; done)), (by first | rfl | (simp; done) | (simp [*]; done)), H', ⟨by have := HK1.out; have := HK2.out; have := HK3.out; omega⟩, ⟨by (with_reducible repeat (first | apply Kd.S_alloc | apply Kd.S_drewN | apply Kd.S_drew)); exact HO_5.out⟩, ⟨by (with_reducible repeat (first | apply Kd.R_alloc | apply Kd.R_drewN | apply Kd.R_drew)); exact HO_7.out⟩, ⟨by repeat (first | (with_reducible first | exact HB.out | apply below_alloc | apply pw_below_drewN | apply below_drew1) | exact HB.out)⟩⟩
                ·rw [if_neg c12] at H
                 exact absurd H (by simp)
               ·rw [if_neg c11] at H
                exact absurd H (by simp)
              ·rw [if_neg c10] at H
               exact absurd H (by simp)
             ·rw [if_neg c9] at H
              exact absurd H (by simp)
            ·rw [if_neg c8] at H
             exact absurd H (by simp)
           ·rw [if_neg c7] at H
            exact absurd H (by simp)
          ·rw [if_neg c6] at H
           exact absurd H (by simp)
         ·rw [if_neg c5] at H
          have c5b0 : decide (x23_3 < (l0.length : Int)) = false := decide_eq_false c5
          clear c5
          by_cases c15 : x7_2.length < 17592186044416
          ·rw [if_pos c15] at H
           have LMc15 := Aside0.mk c15
           clear c15
           obtain ⟨y283, hy283⟩ : ∃ y_ : List Int, y_ = (x7_2 ++ [x9_3]) := ⟨_, rfl⟩
           replace H : (railplanref30_raw.l1 k3 l0 l1 x5_1 x13_1 y283 (l0.length : Int) x13_1 (l0.length : Int) (wrap64 (x18_2 + 1))) = some r := by first | (rw [hy283]; with_reducible exact H) | (have H2_ := (Option.bind_some _ _).symm.trans H; rw [hy283]; with_reducible exact H2_) | (have H2_ := (Option.bind_some _ _).symm.trans H; with_reducible exact H2_) | with_reducible exact H | (rw [hy283]; exact H) | exact H
           have Ny283 := Aside0.mk hy283
           clear hy283
           have H' := Aside0.mk H
           clear H
           go_wp2_with (first | ((with_reducible refine gate_builtin (b := .append) (xs := #[.tmp 44, .tmp 46]) rfl ?_); at_builtin; refine Kd.R_append (Kd.int .i64) (w0 := w) w.heap.size rfl (.tmp 44) (.tmp 46) 22 3 (.int .i64 0) 8 rfl Try.underlying22 info3 rfl (by decide) (by omega) u7 x7_2 x9_3 [.int .i64 x9_3] (fun _ => True) (fun _ => False) rfl rfl ?aP (fun _ hk => hk.elim) ?aF ?aO ?aB ?aS ?aL ?_; (case aP => exact rfl); (case aB => exact (by repeat (first | (with_reducible first | exact HB.out | apply below_alloc | apply pw_below_drewN | apply below_drew1) | exact HB.out))); (case aF => exact (fun _ _ => trivial)); (case aO => exact (by (with_reducible repeat (first | apply Kd.R_alloc | apply Kd.R_drewN | apply Kd.R_drew)); exact HO_7.out)); (case aS => exact (below_size (by repeat (first | (with_reducible first | exact HB.out | apply below_alloc | apply pw_below_drewN | apply below_drew1) | exact HB.out)))); (case aL => have := LMc15.out; omega); intro v284 w16 ho hb hg hat; rw [← Ny283.out] at ho; have n0_ := Aside0.mk (Kd.S_after (ok := (fun _ => True)) (by (with_reducible repeat (first | apply Kd.S_alloc | apply Kd.S_drewN | apply Kd.S_drew)); exact Kd.S_mono HO_5.out (fun _ hk => ⟨trivial, hk⟩)) hg hat); have n1_ := Aside0.mk (hb); have n2_ := Aside0.mk (ho); clear HO_5; clear HB; clear HO_7; have HO_5 := n0_; have HB := n1_; have HO285 := n2_; clear n0_ n1_ n2_; clear ho hb hg hat))
           repeat (go_quiet (first | ((with_reducible refine gate_builtin (b := .append) (xs := #[.tmp 44, .tmp 46]) rfl ?_); at_builtin; refine Kd.R_append (Kd.int .i64) (w0 := w) w.heap.size rfl (.tmp 44) (.tmp 46) 22 3 (.int .i64 0) 8 rfl Try.underlying22 info3 rfl (by decide) (by omega) u7 x7_2 x9_3 [.int .i64 x9_3] (fun _ => True) (fun _ => False) rfl rfl ?aP (fun _ hk => hk.elim) ?aF ?aO ?aB ?aS ?aL ?_; (case aP => exact rfl); (case aB => exact (by repeat (first | (with_reducible first | exact HB.out | apply below_alloc | apply pw_below_drewN | apply below_drew1) | exact HB.out))); (case aF => exact (fun _ _ => trivial)); (case aO => exact (by (with_reducible repeat (first | apply Kd.R_alloc | apply Kd.R_drewN | apply Kd.R_drew)); exact HO_7.out)); (case aS => exact (below_size (by repeat (first | (with_reducible first | exact HB.out | apply below_alloc | apply pw_below_drewN | apply below_drew1) | exact HB.out)))); (case aL => have := LMc15.out; omega); intro v284 w16 ho hb hg hat; rw [← Ny283.out] at ho; have n0_ := Aside0.mk (Kd.S_after (ok := (fun _ => True)) (by (with_reducible repeat (first | apply Kd.S_alloc | apply Kd.S_drewN | apply Kd.S_drew)); exact Kd.S_mono HO_5.out (fun _ hk => ⟨trivial, hk⟩)) hg hat); have n1_ := Aside0.mk (hb); have n2_ := Aside0.mk (ho); clear HO_5; clear HB; clear HO_7; have HO_5 := n0_; have HB := n1_; have HO285 := n2_; clear n0_ n1_ n2_; clear ho hb hg hat)); try go_wp2_with (first | ((with_reducible refine gate_builtin (b := .append) (xs := #[.tmp 44, .tmp 46]) rfl ?_); at_builtin; refine Kd.R_append (Kd.int .i64) (w0 := w) w.heap.size rfl (.tmp 44) (.tmp 46) 22 3 (.int .i64 0) 8 rfl Try.underlying22 info3 rfl (by decide) (by omega) u7 x7_2 x9_3 [.int .i64 x9_3] (fun _ => True) (fun _ => False) rfl rfl ?aP (fun _ hk => hk.elim) ?aF ?aO ?aB ?aS ?aL ?_; (case aP => exact rfl); (case aB => exact (by repeat (first | (with_reducible first | exact HB.out | apply below_alloc | apply pw_below_drewN | apply below_drew1) | exact HB.out))); (case aF => exact (fun _ _ => trivial)); (case aO => exact (by (with_reducible repeat (first | apply Kd.R_alloc | apply Kd.R_drewN | apply Kd.R_drew)); exact HO_7.out)); (case aS => exact (below_size (by repeat (first | (with_reducible first | exact HB.out | apply below_alloc | apply pw_below_drewN | apply below_drew1) | exact HB.out)))); (case aL => have := LMc15.out; omega); intro v284 w16 ho hb hg hat; rw [← Ny283.out] at ho; have n0_ := Aside0.mk (Kd.S_after (ok := (fun _ => True)) (by (with_reducible repeat (first | apply Kd.S_alloc | apply Kd.S_drewN | apply Kd.S_drew)); exact Kd.S_mono HO_5.out (fun _ hk => ⟨trivial, hk⟩)) hg hat); have n1_ := Aside0.mk (hb); have n2_ := Aside0.mk (ho); clear HO_5; clear HB; clear HO_7; have HO_5 := n0_; have HB := n1_; have HO285 := n2_; clear n0_ n1_ n2_; clear ho hb hg hat)))
           go_roundg k3
           case measure => have := HK1.out; have := HK2.out; have := HK3.out; omega
           case rel => exact ⟨(y283), (wrap64 (x18_2 + 1)), (by first | rfl | (simp; done) | (simp [*]; done)), H', ⟨by have := HK1.out; have := HK2.out; have := HK3.out; omega⟩, ⟨by (with_reducible repeat (first | apply Kd.S_alloc | apply Kd.S_drewN | apply Kd.S_drew)); exact Kd.S_mono HO_5.out (fun _ hk => hk.2)⟩, ⟨by (with_reducible repeat (first | apply Kd.R_alloc | apply Kd.R_drewN | apply Kd.R_drew)); exact HO285.out⟩, ⟨by repeat (first | (with_reducible first | exact HB.out | apply below_alloc | apply pw_below_drewN | apply below_drew1) | exact HB.out)⟩⟩
          ·rw [if_neg c15] at H
           exact absurd H (by simp)
      ·rw [if_neg c4] at H
       have c4b0 : decide (x18_2 < (l0.length : Int)) = false := decide_eq_false c4
       clear c4
       by_cases c17 : x5_1.length < 5864062014805
       ·rw [if_pos c17] at H
        have LMc17 := Aside0.mk c17
        clear c17
        obtain ⟨y275, hy275⟩ : ∃ y_ : List (List Int), y_ = (x5_1 ++ [x7_2]) := ⟨_, rfl⟩
        replace H : (railplanref30_raw.l0 k2 l0 l1 y275 (l0.length : Int) (wrap64 (x13_1 + 1))) = some r := by first | (rw [hy275]; with_reducible exact H) | (have H2_ := (Option.bind_some _ _).symm.trans H; rw [hy275]; with_reducible exact H2_) | (have H2_ := (Option.bind_some _ _).symm.trans H; with_reducible exact H2_) | with_reducible exact H | (rw [hy275]; exact H) | exact H
        have Ny275 := Aside0.mk hy275
        clear hy275
        have H' := Aside0.mk H
        clear H
        obtain ⟨Ao19, co19, eo19⟩ := Kd.R_slice HO_7.out
        subst eo19
        go_wp2_with (first | ((with_reducible refine gate_builtin (b := .append) (xs := #[.tmp 49, .tmp 51]) rfl ?_); at_builtin; refine Kd.S_append (Kd.slice 3 (Kd.int .i64)) (w0 := w) w.heap.size rfl (.tmp 49) (.tmp 51) 23 22 (.slice none 0 0) 24 rfl Try.underlying23 info22 rfl (by decide) (by omega) u5 x5_1 x7_2 [.slice Ao19 x7_2.length co19] (fun _ => True) (fun k_ => some k_ = (.slice Ao19 x7_2.length co19 : Value).ownBlock) rfl rfl ?aP (fun k_ hk_ => ((Kd.R_mono (ok' := fun k_ => ((fun _ => True)) k_ ∧ some k_ ≠ (u5 : Value).ownBlock) (Kd.R_apart' (HO_7.out) (Kd.S_typed HO_5.out) (by decide)) (fun k_ hk => ⟨trivial, hk.2⟩))).1 k_ hk_.symm) ?aF ?aO ?aB ?aS ?aL ?_; (case aP => exact Kd.M_row (Kd.R_mono (Kd.R_tight rfl (Kd.R_mono (ok' := fun k_ => ((fun _ => True)) k_ ∧ some k_ ≠ (u5 : Value).ownBlock) (Kd.R_apart' (HO_7.out) (Kd.S_typed HO_5.out) (by decide)) (fun k_ hk => ⟨trivial, hk.2⟩))) (fun _ h_ => h_))); (case aB => exact (by repeat (first | (with_reducible first | exact HB.out | apply below_alloc | apply pw_below_drewN | apply below_drew1) | exact HB.out))); (case aF => exact (fun _ _ => trivial)); (case aO => exact (by (with_reducible repeat (first | apply Kd.S_alloc | apply Kd.S_drewN | apply Kd.S_drew)); exact Kd.S_mono HO_5.out (fun k_ hk => ⟨trivial, fun e_ => hk e_⟩))); (case aS => exact (below_size (by repeat (first | (with_reducible first | exact HB.out | apply below_alloc | apply pw_below_drewN | apply below_drew1) | exact HB.out)))); (case aL => have := LMc17.out; omega); intro v276 w18 ho hb hg hat; rw [← Ny275.out] at ho; have n0_ := Aside0.mk (hb); have n1_ := Aside0.mk (ho); clear HB; clear HO_5; clear HO_7; have HB := n0_; have HO277 := n1_; clear n0_ n1_; clear ho hb hg hat))
        repeat (go_quiet (first | ((with_reducible refine gate_builtin (b := .append) (xs := #[.tmp 49, .tmp 51]) rfl ?_); at_builtin; refine Kd.S_append (Kd.slice 3 (Kd.int .i64)) (w0 := w) w.heap.size rfl (.tmp 49) (.tmp 51) 23 22 (.slice none 0 0) 24 rfl Try.underlying23 info22 rfl (by decide) (by omega) u5 x5_1 x7_2 [.slice Ao19 x7_2.length co19] (fun _ => True) (fun k_ => some k_ = (.slice Ao19 x7_2.length co19 : Value).ownBlock) rfl rfl ?aP (fun k_ hk_ => ((Kd.R_mono (ok' := fun k_ => ((fun _ => True)) k_ ∧ some k_ ≠ (u5 : Value).ownBlock) (Kd.R_apart' (HO_7.out) (Kd.S_typed HO_5.out) (by decide)) (fun k_ hk => ⟨trivial, hk.2⟩))).1 k_ hk_.symm) ?aF ?aO ?aB ?aS ?aL ?_; (case aP => exact Kd.M_row (Kd.R_mono (Kd.R_tight rfl (Kd.R_mono (ok' := fun k_ => ((fun _ => True)) k_ ∧ some k_ ≠ (u5 : Value).ownBlock) (Kd.R_apart' (HO_7.out) (Kd.S_typed HO_5.out) (by decide)) (fun k_ hk => ⟨trivial, hk.2⟩))) (fun _ h_ => h_))); (case aB => exact (by repeat (first | (with_reducible first | exact HB.out | apply below_alloc | apply pw_below_drewN | apply below_drew1) | exact HB.out))); (case aF => exact (fun _ _ => trivial)); (case aO => exact (by (with_reducible repeat (first | apply Kd.S_alloc | apply Kd.S_drewN | apply Kd.S_drew)); exact Kd.S_mono HO_5.out (fun k_ hk => ⟨trivial, fun e_ => hk e_⟩))); (case aS => exact (below_size (by repeat (first | (with_reducible first | exact HB.out | apply below_alloc | apply pw_below_drewN | apply below_drew1) | exact HB.out)))); (case aL => have := LMc17.out; omega); intro v276 w18 ho hb hg hat; rw [← Ny275.out] at ho; have n0_ := Aside0.mk (hb); have n1_ := Aside0.mk (ho); clear HB; clear HO_5; clear HO_7; have HB := n0_; have HO277 := n1_; clear n0_ n1_; clear ho hb hg hat)); try go_wp2_with (first | ((with_reducible refine gate_builtin (b := .append) (xs := #[.tmp 49, .tmp 51]) rfl ?_); at_builtin; refine Kd.S_append (Kd.slice 3 (Kd.int .i64)) (w0 := w) w.heap.size rfl (.tmp 49) (.tmp 51) 23 22 (.slice none 0 0) 24 rfl Try.underlying23 info22 rfl (by decide) (by omega) u5 x5_1 x7_2 [.slice Ao19 x7_2.length co19] (fun _ => True) (fun k_ => some k_ = (.slice Ao19 x7_2.length co19 : Value).ownBlock) rfl rfl ?aP (fun k_ hk_ => ((Kd.R_mono (ok' := fun k_ => ((fun _ => True)) k_ ∧ some k_ ≠ (u5 : Value).ownBlock) (Kd.R_apart' (HO_7.out) (Kd.S_typed HO_5.out) (by decide)) (fun k_ hk => ⟨trivial, hk.2⟩))).1 k_ hk_.symm) ?aF ?aO ?aB ?aS ?aL ?_; (case aP => exact Kd.M_row (Kd.R_mono (Kd.R_tight rfl (Kd.R_mono (ok' := fun k_ => ((fun _ => True)) k_ ∧ some k_ ≠ (u5 : Value).ownBlock) (Kd.R_apart' (HO_7.out) (Kd.S_typed HO_5.out) (by decide)) (fun k_ hk => ⟨trivial, hk.2⟩))) (fun _ h_ => h_))); (case aB => exact (by repeat (first | (with_reducible first | exact HB.out | apply below_alloc | apply pw_below_drewN | apply below_drew1) | exact HB.out))); (case aF => exact (fun _ _ => trivial)); (case aO => exact (by (with_reducible repeat (first | apply Kd.S_alloc | apply Kd.S_drewN | apply Kd.S_drew)); exact Kd.S_mono HO_5.out (fun k_ hk => ⟨trivial, fun e_ => hk e_⟩))); (case aS => exact (below_size (by repeat (first | (with_reducible first | exact HB.out | apply below_alloc | apply pw_below_drewN | apply below_drew1) | exact HB.out)))); (case aL => have := LMc17.out; omega); intro v276 w18 ho hb hg hat; rw [← Ny275.out] at ho; have n0_ := Aside0.mk (hb); have n1_ := Aside0.mk (ho); clear HB; clear HO_5; clear HO_7; have HB := n0_; have HO277 := n1_; clear n0_ n1_; clear ho hb hg hat)))
        go_roundg k2
        case measure => have := HK1.out; have := HK2.out; omega
        case rel => exact ⟨(y275), (wrap64 (x13_1 + 1)), (by first | rfl | (simp; done) | (simp [*]; done)), H', ⟨by have := HK1.out; have := HK2.out; omega⟩, ⟨by (with_reducible repeat (first | apply Kd.S_alloc | apply Kd.S_drewN | apply Kd.S_drew)); exact HO277.out⟩, ⟨by repeat (first | (with_reducible first | exact HB.out | apply below_alloc | apply pw_below_drewN | apply below_drew1) | exact HB.out)⟩⟩
       ·rw [if_neg c17] at H
        exact absurd H (by simp)
   ·rw [if_neg c3] at H
    have c3b0 : decide (x13_1 < (l0.length : Int)) = false := decide_eq_false c3
    clear c3
    obtain rfl := Option.some.inj H
    go_wp2
    repeat (go_quiet (fail); try go_wp2)
    go_ret
    exact ⟨_, by first | rfl | (simp [errW_none, errW_some] <;> rfl) | (simp [*, errW_none, errW_some] <;> rfl), by (with_reducible repeat (first | apply Kd.S_alloc | apply Kd.S_drewN | apply Kd.S_drew)); exact HO_5.out, by repeat (first | (with_reducible first | exact HB.out | apply below_alloc | apply pw_below_drewN | apply below_drew1) | exact HB.out)⟩

/-! ### railplanref1_Gcd: function 49 -/
mutual
def railplanref1_Gcd.j0 : Nat → Int → Int → Bool → Option (Int × Int)
 | 0, _, _, _ => none
 | k + 1, x0, x1, x11 => if x11 = true then (some (0, 1)) else (railplanref1_Gcd.l0 k x0 x1)
def railplanref1_Gcd.l0 : Nat → Int → Int → Option (Int × Int)
 | 0, _, _ => none
 | k + 1, x0, x1 => if x1 > 0 then (if x1 = 0 then (none) else (railplanref1_Gcd.l0 k x1 (Int.tmod x0 x1))) else (some (x0, 0))
end
def railplanref1_Gcd.f (k : Nat) (a0 : Int) (a1 : Int) : Option (Int × Int) := if a0 < 0 then (railplanref1_Gcd.j0 k a0 a1 true) else (railplanref1_Gcd.j0 k a0 a1 (decide (a1 < 0)))
theorem railplanref1_Gcd.mono_l : ∀ k, (∀ y0 y1 y2, LeO (railplanref1_Gcd.j0 k y0 y1 y2) (railplanref1_Gcd.j0 (k + 1) y0 y1 y2)) ∧ (∀ y0 y1, LeO (railplanref1_Gcd.l0 k y0 y1) (railplanref1_Gcd.l0 (k + 1) y0 y1))
 | 0 => ⟨fun _ _ _ r h => by simp [railplanref1_Gcd.j0] at h, fun _ _ r h => by simp [railplanref1_Gcd.l0] at h⟩
 | k + 1 => by
  obtain ⟨ih0, ih1⟩ := railplanref1_Gcd.mono_l k
  refine ⟨?_, ?_⟩
  ·intro y0 y1 y2
   unfold railplanref1_Gcd.j0
   repeat' first
   | (with_reducible exact ih0 _ _ _)
   | (with_reducible exact ih1 _ _)
   | (with_reducible exact LeO.refl _)
   | (with_reducible exact LeO.none _)
   | (with_reducible refine LeO.ite ?_ ?_)
   | (with_reducible refine LeO.bind ?_ (fun _ => ?_))
   | exact ih0 _ _ _
   | exact ih1 _ _
   | exact LeO.none _
   | refine LeO.ite ?_ ?_
   | refine LeO.bind ?_ (fun _ => ?_)
  ·intro y0 y1
   unfold railplanref1_Gcd.l0
   repeat' first
   | (with_reducible exact ih0 _ _ _)
   | (with_reducible exact ih1 _ _)
   | (with_reducible exact LeO.refl _)
   | (with_reducible exact LeO.none _)
   | (with_reducible refine LeO.ite ?_ ?_)
   | (with_reducible refine LeO.bind ?_ (fun _ => ?_))
   | exact ih0 _ _ _
   | exact ih1 _ _
   | exact LeO.none _
   | refine LeO.ite ?_ ?_
   | refine LeO.bind ?_ (fun _ => ?_)
theorem railplanref1_Gcd.mono : ∀ a0 a1 k, LeO (railplanref1_Gcd.f k a0 a1) (railplanref1_Gcd.f (k + 1) a0 a1) := by
 intro a0 a1 k
 obtain ⟨ih0, ih1⟩ := railplanref1_Gcd.mono_l k
 unfold railplanref1_Gcd.f
 repeat' first
   | (with_reducible exact ih0 _ _ _)
   | (with_reducible exact ih1 _ _)
   | (with_reducible exact LeO.refl _)
   | (with_reducible exact LeO.none _)
   | (with_reducible refine LeO.ite ?_ ?_)
   | (with_reducible refine LeO.bind ?_ (fun _ => ?_))
   | exact ih0 _ _ _
   | exact ih1 _ _
   | exact LeO.none _
   | refine LeO.ite ?_ ?_
   | refine LeO.bind ?_ (fun _ => ?_)
set_option maxHeartbeats 8000000 in
set_option maxRecDepth 100000 in
theorem railplanref1_Gcd.calls (k : Nat) (a0 : Int) (a1 : Int) (r1 : Int) (r2 : Int) (w : World) (h : railplanref1_Gcd.f k a0 a1 = some (r1, r2)) :
  Calls Try.prog 49 #[.int .i64 a0, .int .i64 a1] w fun e w' => e = .returned (.tuple #[.int .i64 r1, .int .i64 r2]) ∧ Drawn0 w w' := by
 have H : (if a0 < 0 then (railplanref1_Gcd.j0 k a0 a1 true) else (railplanref1_Gcd.j0 k a0 a1 (decide (a1 < 0)))) = some (r1, r2) := h
 clear h
 have HC3 := Aside0.mk H
 clear H
 go_enter Try.func49, Try.ntmps49
 go_upto_region 1 with (fail)
 repeat (go_quiet (fail); go_upto_region 1 with (fail))
 go_cut [11] (fun v11 wc => ∃ (kq : Nat) (x11_2 : Bool), v11 = .bool x11_2 ∧ Aside0 (railplanref1_Gcd.j0 kq a0 a1 x11_2 = some (r1, r2)) ∧ Aside0 (kq ≤ k) ∧ Drawn0 w wc)
 case first =>
  have H := HC3.out
  clear HC3
  by_cases c4 : a0 < 0
  ·rw [if_pos c4] at H
   have c4b0 : decide (a0 < 0) = true := decide_eq_true c4
   clear c4
   (first | rw [c4b0] | (simp only [i64_w, i32_w]; rw [c4b0]) | skip)
   have H' := Aside0.mk H
   clear H
   go_wp2
   repeat (go_quiet (fail); try go_wp2)
   go_meet
   case rel => exact ⟨_, (true), (by first | rfl | (simp; done) | (simp [*]; done)), H', ⟨by first | omega | exact Nat.le_refl _⟩, by repeat (first | exact Drawn0.refl _ | apply Drawn0.step)⟩
  ·rw [if_neg c4] at H
   have c4b0 : decide (a0 < 0) = false := decide_eq_false c4
   clear c4
   (first | rw [c4b0] | (simp only [i64_w, i32_w]; rw [c4b0]) | skip)
   have H' := Aside0.mk H
   clear H
   go_wp2
   repeat (go_quiet (fail); try go_wp2)
   go_meet
   case rel => exact ⟨_, (decide (a1 < 0)), (by first | rfl | (simp; done) | (simp [*]; done)), H', ⟨by first | omega | exact Nat.le_refl _⟩, by repeat (first | exact Drawn0.refl _ | apply Drawn0.step)⟩
 case rest =>
  clear HC3
  try clear p2
  try clear c4
  try clear c4b0
  obtain ⟨kq, x11_2, rfl, HA, HJ2, ⟨mc2, rfl⟩⟩ := hcut
  cases kq with
  | zero => exact absurd HA.out (by simp [railplanref1_Gcd.j0])
  | succ kj2 =>
   have H := HA.out
   clear HA
   simp only [railplanref1_Gcd.j0] at H
   by_cases c5 : x11_2 = true
   ·subst c5
    have H1 : (some (0, 1)) = some (r1, r2) := by rw [if_pos rfl] at H; exact H
    clear H
    have H := H1
    clear H1
    simp only [Option.some.injEq, Prod.mk.injEq] at H
    obtain ⟨rfl, rfl⟩ := H
    go_wp2
    repeat (go_quiet (fail); try go_wp2)
    go_ret2
    exact ⟨by first | rfl | (simp; done) | (simp [*]; done), by repeat (first | exact Drawn0.refl _ | apply Drawn0.step)⟩
   ·replace c5 := Bool.eq_false_iff.mpr c5
    subst c5
    have H1 : (railplanref1_Gcd.l0 kj2 a0 a1) = some (r1, r2) := by rw [if_neg (show ¬ (false = true) by decide)] at H; exact H
    clear H
    have H := H1
    clear H1
    have H' := Aside0.mk H
    clear H
    go_wp2
    repeat (go_quiet (fail); try go_wp2)
    go_loopg [0, 1] kj2 (fun kq v0 v1 w' => ∃ (x0_2 : Int) (x1_2 : Int), v0 = .int .i64 x0_2 ∧ v1 = .int .i64 x1_2 ∧ Aside0 (railplanref1_Gcd.l0 kq x0_2 x1_2 = some (r1, r2)) ∧ Aside0 (kq ≤ kj2) ∧ Drawn0 w w')
    case atStart => exact ⟨(a0), (a1), (by first | rfl | (simp; done) | (simp [*]; done)), (by first | rfl | (simp; done) | (simp [*]; done)), H', ⟨Nat.le_refl _⟩, by repeat (first | exact Drawn0.refl _ | apply Drawn0.step)⟩
    case round =>
     clear H'
     try clear c2
     try clear p2
     try clear c4
     try clear c4b0
     try clear c5
     try clear p2
     obtain ⟨x0_2, x1_2, rfl, rfl, HA, HK2, ⟨m2, rfl⟩⟩ := hrel
     cases gk with
     | zero => exact absurd HA.out (by simp [railplanref1_Gcd.l0])
     | succ k2 =>
      have H := HA.out
      clear HA
      simp only [railplanref1_Gcd.l0] at H
      by_cases c6 : x1_2 > 0
      ·rw [if_pos c6] at H
       have c6b0 : decide (0 < x1_2) = true := decide_eq_true c6
       clear c6
       by_cases c7 : x1_2 = 0
       ·rw [if_pos c7] at H
        exact absurd H (by simp)
       ·rw [if_neg c7] at H
        have c7b0 : (x1_2 == 0) = false := beq_eq_false_iff_ne.mpr c7
        have c7b1 : (x1_2 != 0) = true := bne_iff_ne.mpr c7
        have H' := Aside0.mk H
        clear H
        go_wp2
        repeat (go_quiet (fail); try go_wp2)
        go_roundg k2
        case measure => have := HJ2.out; have := HK2.out; omega
        case rel => exact ⟨(x1_2), (Int.tmod x0_2 x1_2), (by first | rfl | (simp; done) | (simp [*]; done)), (by first | rfl | (simp; done) | (simp [*]; done)), H', ⟨by have := HJ2.out; have := HK2.out; omega⟩, by repeat (first | exact Drawn0.refl _ | apply Drawn0.step)⟩
      ·rw [if_neg c6] at H
       have c6b0 : decide (0 < x1_2) = false := decide_eq_false c6
       clear c6
       simp only [Option.some.injEq, Prod.mk.injEq] at H
       obtain ⟨rfl, rfl⟩ := H
       go_wp2
       repeat (go_quiet (fail); try go_wp2)
       go_ret2
       exact ⟨by first | rfl | (simp; done) | (simp [*]; done), by repeat (first | exact Drawn0.refl _ | apply Drawn0.step)⟩

/-! ### railplanref30_Mean: function 23 -/
mutual
def railplanref30_Mean.l0 : Nat → List (List Int) → Int → Int → List (List Int) → Int → Option (Int × Int × Bool)
 | 0, _, _, _, _, _ => none
 | k + 1, x0, x5, x6, x7, x8 => if x8 ≤ (x0.length : Int) then (railplanref30_Mean.l1 k x0 x5 x6 x7 x8 (x0.length : Int) 0) else (if x6 = 0 then (some (0, 0, false)) else ((railplanref1_Gcd.f k (mx x5 (wrap64 (-x5))) x6).bind fun bt287 => (if bt287.1 = 0 then (none) else (some (wrap64 (Int.tdiv x5 bt287.1), wrap64 (Int.tdiv x6 bt287.1), true)))))
def railplanref30_Mean.l1 : Nat → List (List Int) → Int → Int → List (List Int) → Int → Int → Int → Option (Int × Int × Bool)
 | 0, _, _, _, _, _, _, _ => none
 | k + 1, x0, x5, x6, x7, x8, x24, x25 => if x25 < x24 then (if 0 ≤ x25 then (if x25 < (x7.length : Int) then (if x25 < ((rd_L1 x7 x25).length : Int) then (if (rd (rd_L1 x7 x25) x25) = (-1125899906842624) then (railplanref30_Mean.l1 k x0 x5 x6 x7 x8 x24 (wrap64 (x25 + 1))) else (if x6 = 0 then (railplanref30_Mean.l1 k x0 (rd (rd_L1 x7 x25) x25) x8 x7 x8 x24 (wrap64 (x25 + 1))) else (if (wrap64 ((rd (rd_L1 x7 x25) x25) * x6)) > (wrap64 (x5 * x8)) then (railplanref30_Mean.l1 k x0 (rd (rd_L1 x7 x25) x25) x8 x7 x8 x24 (wrap64 (x25 + 1))) else (railplanref30_Mean.l1 k x0 x5 x6 x7 x8 x24 (wrap64 (x25 + 1)))))) else (none)) else (none)) else (none)) else ((railplanref30_raw.f k x7 x0).bind fun t291 => (railplanref30_Mean.l0 k x0 x5 x6 t291 (wrap64 (x8 + 1))))
end
def railplanref30_Mean.f (k : Nat) (l0 : List (List Int)) : Option (Int × Int × Bool) := (railplanref30_CheckMatrix.f k l0).bind fun t286 => (if t286 = true then (railplanref30_Mean.l0 k l0 0 0 l0 1) else (some (0, 0, false)))
theorem railplanref30_Mean.mono_l : ∀ k, (∀ y0 y1 y2 y3 y4, LeO (railplanref30_Mean.l0 k y0 y1 y2 y3 y4) (railplanref30_Mean.l0 (k + 1) y0 y1 y2 y3 y4)) ∧ (∀ y0 y1 y2 y3 y4 y5 y6, LeO (railplanref30_Mean.l1 k y0 y1 y2 y3 y4 y5 y6) (railplanref30_Mean.l1 (k + 1) y0 y1 y2 y3 y4 y5 y6))
 | 0 => ⟨fun _ _ _ _ _ r h => by simp [railplanref30_Mean.l0] at h, fun _ _ _ _ _ _ _ r h => by simp [railplanref30_Mean.l1] at h⟩
 | k + 1 => by
  obtain ⟨ih0, ih1⟩ := railplanref30_Mean.mono_l k
  refine ⟨?_, ?_⟩
  ·intro y0 y1 y2 y3 y4
   unfold railplanref30_Mean.l0
   repeat' first
   | (with_reducible exact ih0 _ _ _ _ _)
   | (with_reducible exact ih1 _ _ _ _ _ _ _)
   | (with_reducible exact railplanref1_Gcd.mono _ _ _)
   | (with_reducible exact railplanref30_CheckMatrix.mono _ _)
   | (with_reducible exact railplanref30_raw.mono _ _ _)
   | (with_reducible exact LeO.refl _)
   | (with_reducible exact LeO.none _)
   | (with_reducible refine LeO.ite ?_ ?_)
   | (with_reducible refine LeO.bind ?_ (fun _ => ?_))
   | exact ih0 _ _ _ _ _
   | exact ih1 _ _ _ _ _ _ _
   | exact railplanref1_Gcd.mono _ _ _
   | exact railplanref30_CheckMatrix.mono _ _
   | exact railplanref30_raw.mono _ _ _
   | exact LeO.none _
   | refine LeO.ite ?_ ?_
   | refine LeO.bind ?_ (fun _ => ?_)
  ·intro y0 y1 y2 y3 y4 y5 y6
   unfold railplanref30_Mean.l1
   repeat' first
   | (with_reducible exact ih0 _ _ _ _ _)
   | (with_reducible exact ih1 _ _ _ _ _ _ _)
   | (with_reducible exact railplanref1_Gcd.mono _ _ _)
   | (with_reducible exact railplanref30_CheckMatrix.mono _ _)
   | (with_reducible exact railplanref30_raw.mono _ _ _)
   | (with_reducible exact LeO.refl _)
   | (with_reducible exact LeO.none _)
   | (with_reducible refine LeO.ite ?_ ?_)
   | (with_reducible refine LeO.bind ?_ (fun _ => ?_))
   | exact ih0 _ _ _ _ _
   | exact ih1 _ _ _ _ _ _ _
   | exact railplanref1_Gcd.mono _ _ _
   | exact railplanref30_CheckMatrix.mono _ _
   | exact railplanref30_raw.mono _ _ _
   | exact LeO.none _
   | refine LeO.ite ?_ ?_
   | refine LeO.bind ?_ (fun _ => ?_)
theorem railplanref30_Mean.mono : ∀ a0 k, LeO (railplanref30_Mean.f k a0) (railplanref30_Mean.f (k + 1) a0) := by
 intro a0 k
 obtain ⟨ih0, ih1⟩ := railplanref30_Mean.mono_l k
 unfold railplanref30_Mean.f
 repeat' first
   | (with_reducible exact ih0 _ _ _ _ _)
   | (with_reducible exact ih1 _ _ _ _ _ _ _)
   | (with_reducible exact railplanref1_Gcd.mono _ _ _)
   | (with_reducible exact railplanref30_CheckMatrix.mono _ _)
   | (with_reducible exact railplanref30_raw.mono _ _ _)
   | (with_reducible exact LeO.refl _)
   | (with_reducible exact LeO.none _)
   | (with_reducible refine LeO.ite ?_ ?_)
   | (with_reducible refine LeO.bind ?_ (fun _ => ?_))
   | exact ih0 _ _ _ _ _
   | exact ih1 _ _ _ _ _ _ _
   | exact railplanref1_Gcd.mono _ _ _
   | exact railplanref30_CheckMatrix.mono _ _
   | exact railplanref30_raw.mono _ _ _
   | exact LeO.none _
   | refine LeO.ite ?_ ?_
   | refine LeO.bind ?_ (fun _ => ?_)
set_option maxHeartbeats 8000000 in
set_option maxRecDepth 100000 in
theorem railplanref30_Mean.calls (k : Nat) (P0_ : Nat → Prop) (A0 : Option Addr) (c0 : Nat) (l0 : List (List Int)) (r1 : Int) (r2 : Int) (r3 : Bool) (w : World) (hs0 : Kd.V (Kd.slice 3 (Kd.int .i64)) 22 w w.heap.size (fun k_ => P0_ k_) (.slice A0 l0.length c0) l0) (h : railplanref30_Mean.f k l0 = some (r1, r2, r3)) :
  Calls Try.prog 23 #[.slice A0 l0.length c0] w fun e w' => e = .returned (.tuple #[.int .i64 r1, .int .i64 r2, .bool r3]) ∧ Below w.heap.size w w' := by
 have HO0 := Aside0.mk (show Kd.V (Kd.slice 3 (Kd.int .i64)) 22 w w.heap.size (fun k_ => (P0_ k_ ∨ w.heap.size ≤ k_)) (.slice A0 l0.length c0) l0 from Kd.V_mono hs0 (fun k_ hk => .inl hk))
 have HB := Aside0.mk (Below.refl w.heap.size w)
 have H : ((railplanref30_CheckMatrix.f k l0).bind fun t286 => (if t286 = true then (railplanref30_Mean.l0 k l0 0 0 l0 1) else (some (0, 0, false)))) = some (r1, r2, r3) := h
 clear h
 replace H := Option.bind_eq_some_iff.mp H
 obtain ⟨t286, A20, H⟩ := H
 replace H : (if t286 = true then (railplanref30_Mean.l0 k l0 0 0 l0 1) else (some (0, 0, false))) = some (r1, r2, r3) := H
 have A2 := Aside0.mk A20
 clear A20
 by_cases c3 : t286 = true
 ·subst c3
  have H1 : (railplanref30_Mean.l0 k l0 0 0 l0 1) = some (r1, r2, r3) := by rw [if_pos rfl] at H; exact H
  clear H
  have H := H1
  clear H1
  have H' := Aside0.mk H
  clear H
  go_enter Try.func23, Try.ntmps23
  go_wp2_with (first | (go_at_call 31; (with_reducible refine (railplanref30_CheckMatrix.calls k _ _ l0 true _ ?side1 ?side2 A2.out).mono ?_); (case side1 => repeat (first | exact (Kd.V_reads' HO0.out).2.2 | (with_reducible refine Kd.C_alloc ?_ _) | (with_reducible refine Kd.C_drewN ?_ _) | (with_reducible refine Kd.C_drew ?_))); (case side2 => exact (Kd.V_reads' HO0.out).2.1); rintro e w' ⟨rfl, ⟨nd, rfl⟩⟩; (try first | exact ⟨rfl, _, World.drewN_drewN _ _ _⟩ | exact ⟨rfl, _, Eq.trans (World.drewN_drewN _ _ _) (congrArg (World.drewN _) (Nat.add_assoc _ _ _))⟩)))
  repeat (go_quiet (first | (go_at_call 31; (with_reducible refine (railplanref30_CheckMatrix.calls k _ _ l0 true _ ?side1 ?side2 A2.out).mono ?_); (case side1 => repeat (first | exact (Kd.V_reads' HO0.out).2.2 | (with_reducible refine Kd.C_alloc ?_ _) | (with_reducible refine Kd.C_drewN ?_ _) | (with_reducible refine Kd.C_drew ?_))); (case side2 => exact (Kd.V_reads' HO0.out).2.1); rintro e w' ⟨rfl, ⟨nd, rfl⟩⟩; (try first | exact ⟨rfl, _, World.drewN_drewN _ _ _⟩ | exact ⟨rfl, _, Eq.trans (World.drewN_drewN _ _ _) (congrArg (World.drewN _) (Nat.add_assoc _ _ _))⟩))); try go_wp2_with (first | (go_at_call 31; (with_reducible refine (railplanref30_CheckMatrix.calls k _ _ l0 true _ ?side1 ?side2 A2.out).mono ?_); (case side1 => repeat (first | exact (Kd.V_reads' HO0.out).2.2 | (with_reducible refine Kd.C_alloc ?_ _) | (with_reducible refine Kd.C_drewN ?_ _) | (with_reducible refine Kd.C_drew ?_))); (case side2 => exact (Kd.V_reads' HO0.out).2.1); rintro e w' ⟨rfl, ⟨nd, rfl⟩⟩; (try first | exact ⟨rfl, _, World.drewN_drewN _ _ _⟩ | exact ⟨rfl, _, Eq.trans (World.drewN_drewN _ _ _) (congrArg (World.drewN _) (Nat.add_assoc _ _ _))⟩))))
  go_loopg [5, 6, 7, 8] k (fun kq v5 v6 v7 v8 w' => ∃ (x5_1 : Int) (x6_1 : Int) (x7_1 : List (List Int)) (x8_1 : Int), v5 = .int .i64 x5_1 ∧ v6 = .int .i64 x6_1 ∧ v8 = .int .i64 x8_1 ∧ Aside0 (railplanref30_Mean.l0 kq l0 x5_1 x6_1 x7_1 x8_1 = some (r1, r2, r3)) ∧ Aside0 (kq ≤ k) ∧ Aside0 (Kd.V (Kd.slice 3 (Kd.int .i64)) 22 w' w.heap.size (fun k_ => (P0_ k_ ∨ w.heap.size ≤ k_)) (.slice A0 l0.length c0) l0) ∧ Aside0 (Kd.V (Kd.slice 3 (Kd.int .i64)) 22 w' w.heap.size (fun k_ => (P0_ k_ ∨ w.heap.size ≤ k_)) v7 x7_1) ∧ Aside0 (Below w.heap.size w w'))
  case atStart => exact ⟨(0), (0), (l0), (1), (by first | rfl | (simp; done) | (simp [*]; done)), (by first | rfl | (simp; done) | (simp [*]; done)), (by first | rfl | (simp; done) | (simp [*]; done)), H', ⟨Nat.le_refl _⟩, ⟨by (with_reducible repeat (first | apply Kd.V_alloc | apply Kd.V_drewN | apply Kd.V_drew)); exact HO0.out⟩, ⟨by (with_reducible repeat (first | apply Kd.V_alloc | apply Kd.V_drewN | apply Kd.V_drew)); exact HO0.out⟩, ⟨by repeat (first | (with_reducible first | exact HB.out | apply below_alloc | apply pw_below_drewN | apply below_drew1) | exact HB.out)⟩⟩
  case round =>
   clear H'
   try clear c2
   try clear p2
   try clear c3
   obtain ⟨x5_1, x6_1, x7_1, x8_1, rfl, rfl, rfl, HA, HK1, HO_0, HO_7, HB⟩ := hrel
   cases gk with
   | zero => exact absurd HA.out (by simp [railplanref30_Mean.l0])
   | succ k1 =>
    have H := HA.out
    clear HA
    simp only [railplanref30_Mean.l0] at H
    by_cases c4 : x8_1 ≤ (l0.length : Int)
    ·rw [if_pos c4] at H
     have c4b0 : decide (x8_1 ≤ (l0.length : Int)) = true := decide_eq_true c4
     clear c4
     have H' := Aside0.mk H
     clear H
     go_wp2
     repeat (go_quiet (fail); try go_wp2)
     go_loopg [5, 6, 25] k1 (fun kq v5 v6 v25 w' => ∃ (x5_2 : Int) (x6_2 : Int) (x25_2 : Int), v5 = .int .i64 x5_2 ∧ v6 = .int .i64 x6_2 ∧ v25 = .int .i64 x25_2 ∧ Aside0 (railplanref30_Mean.l1 kq l0 x5_2 x6_2 x7_1 x8_1 (l0.length : Int) x25_2 = some (r1, r2, r3)) ∧ Aside0 (kq ≤ k1) ∧ Aside0 (Kd.V (Kd.slice 3 (Kd.int .i64)) 22 w' w.heap.size (fun k_ => (P0_ k_ ∨ w.heap.size ≤ k_)) (.slice A0 l0.length c0) l0) ∧ Aside0 (Kd.V (Kd.slice 3 (Kd.int .i64)) 22 w' w.heap.size (fun k_ => (P0_ k_ ∨ w.heap.size ≤ k_)) u7 x7_1) ∧ Aside0 (Below w.heap.size w w'))
     case atStart => exact ⟨(x5_1), (x6_1), (0), (by first | rfl | (simp; done) | (simp [*]; done)), (by first | rfl | (simp; done) | (simp [*]; done)), (by first | rfl | (simp; done) | (simp [*]; done)), H', ⟨Nat.le_refl _⟩, ⟨by (with_reducible repeat (first | apply Kd.V_alloc | apply Kd.V_drewN | apply Kd.V_drew)); exact HO_0.out⟩, ⟨by (with_reducible repeat (first | apply Kd.V_alloc | apply Kd.V_drewN | apply Kd.V_drew)); exact HO_7.out⟩, ⟨by repeat (first | (with_reducible first | exact HB.out | apply below_alloc | apply pw_below_drewN | apply below_drew1) | exact HB.out)⟩⟩
     case round =>
      clear H'
      try clear c2
      try clear p2
      try clear c3
      try clear c4
      try clear c4b0
      try clear p2
      obtain ⟨x5_2, x6_2, x25_2, rfl, rfl, rfl, HA, HK2, HO_0, HO_7, HB⟩ := hrel
      cases gk with
      | zero => exact absurd HA.out (by simp [railplanref30_Mean.l1])
      | succ k2 =>
       have H := HA.out
       clear HA
       simp only [railplanref30_Mean.l1] at H
       by_cases c5 : x25_2 < (l0.length : Int)
       ·rw [if_pos c5] at H
        have c5b0 : decide (x25_2 < (l0.length : Int)) = true := decide_eq_true c5
        clear c5
        by_cases c6 : 0 ≤ x25_2
        ·rw [if_pos c6] at H
         have c6b0 : decide (0 ≤ x25_2) = true := decide_eq_true c6
         clear c6
         by_cases c7 : x25_2 < (x7_1.length : Int)
         ·rw [if_pos c7] at H
          have c7b0 : decide (x25_2 < (x7_1.length : Int)) = true := decide_eq_true c7
          clear c7
          by_cases c8 : x25_2 < ((rd_L1 x7_1 x25_2).length : Int)
          ·rw [if_pos c8] at H
           have c8b0 : decide (x25_2 < ((rd_L1 x7_1 x25_2).length : Int)) = true := decide_eq_true c8
           clear c8
           by_cases c9 : (rd (rd_L1 x7_1 x25_2) x25_2) = (-1125899906842624)
           ·rw [if_pos c9] at H
            have c9b0 : ((rd (rd_L1 x7_1 x25_2) x25_2) == (-1125899906842624)) = true := beq_iff_eq.mpr c9
            have c9b1 : ((rd (rd_L1 x7_1 x25_2) x25_2) != (-1125899906842624)) = false := bne_eq_false_iff_eq.mpr c9
            clear c9
            have H' := Aside0.mk H
            clear H
            obtain ⟨Ao10, co10, eo10⟩ := Kd.V_slice HO_7.out
            subst eo10
            have p289 : 0 ≤ (x25_2 : Int) := of_decide_eq_true (by first | (with_reducible assumption) | assumption)
            have q289 : x25_2 < (x7_1.length : Int) := of_decide_eq_true (by first | (with_reducible assumption) | assumption)
            obtain ⟨ad289, A289_0, c289_0, e289, hx289_0, hl289_0, hi289_0⟩ := at_L1 (Kd.V_reads' HO_7.out).2.2 x25_2 p289 q289
            cases e289
            obtain ⟨ce289, hce289, hMe289, hcc289⟩ := Kd.V_get HO_7.out [] x25_2 p289 (by first | exact q289 | exact of_decide_eq_true (by first | (with_reducible assumption) | assumption) | (have e_ := (Kd.V_reads' HO_7.out).1; omega))
            obtain ⟨ua289_0, uc289_0, rfl, ul289_0, ge289_0⟩ := Kd.FK_slice_open hMe289
            have hv289_0 := hcc289 0 _ rfl
            rw [Nat.add_zero, show ((Kd.slice 3 (Kd.int .i64))).sz = 1 from rfl, Nat.mul_one] at hv289_0
            replace hv289_0 := Option.some.inj (hv289_0.symm.trans hx289_0)
            injection hv289_0 with hva_ hvn_ hvc_
            rw [hva_] at ge289_0
            rw [hvc_] at ul289_0
            have HL289_0 := Aside0.mk (show Kd.V (Kd.int .i64) 3 _ w.heap.size _ _ (rd_L1 x7_1 x25_2) from Kd.V_mk ul289_0 ge289_0)
            clear hva_ hvn_ hvc_ ge289_0 ul289_0
            clear hcc289 hce289
            have HR289_0 := Aside0.mk hi289_0
            have HC289_0 := Aside0.mk hl289_0
            clear hi289_0 hl289_0
            replace p289 := eq_true p289
            replace q289 := eq_true q289
            have p290 : 0 ≤ (x25_2 : Int) := of_decide_eq_true (by first | (with_reducible assumption) | assumption)
            have q290 : x25_2 < ((rd_L1 x7_1 x25_2).length : Int) := of_decide_eq_true (by first | (with_reducible assumption) | assumption)
            obtain ⟨ad290, e290, hx290_0⟩ := Kd.at_int (by repeat (first | (with_reducible exact HR289_0.out) | (with_reducible refine Kd.C_alloc ?_ _) | (with_reducible refine Kd.C_drewN ?_ _) | (with_reducible refine Kd.C_drew ?_) | exact HR289_0.out)) x25_2 p290 q290
            cases e290
            replace p290 := eq_true p290
            replace q290 := eq_true q290
            go_wp2
            repeat (go_quiet (fail); try go_wp2)
            go_roundg k2
            case measure => have := HK1.out; have := HK2.out; omega
            case rel => exact ⟨(x5_2), (x6_2), (wrap64 (x25_2 + 1)), (by first | rfl | (simp; done) | (simp [*]; done)), (by first | rfl | (simp; done) | (simp [*]; done)), (by first | rfl | (simp; done) | (simp [*]; done)), H', ⟨by have := HK1.out; have := HK2.out; omega⟩, ⟨by (with_reducible repeat (first | apply Kd.V_alloc | apply Kd.V_drewN | apply Kd.V_drew)); exact HO_0.out⟩, ⟨by (with_reducible repeat (first | apply Kd.V_alloc | apply Kd.V_drewN | apply Kd.V_drew)); exact HO_7.out⟩, ⟨by repeat (first | (with_reducible first | exact HB.out | apply below_alloc | apply pw_below_drewN | apply below_drew1) | exact HB.out)⟩⟩
           ·rw [if_neg c9] at H
            have c9b0 : ((rd (rd_L1 x7_1 x25_2) x25_2) == (-1125899906842624)) = false := beq_eq_false_iff_ne.mpr c9
            have c9b1 : ((rd (rd_L1 x7_1 x25_2) x25_2) != (-1125899906842624)) = true := bne_iff_ne.mpr c9
            by_cases c11 : x6_2 = 0
            ·rw [if_pos c11] at H
             have c11b0 : (x6_2 == 0) = true := beq_iff_eq.mpr c11
             have c11b1 : (x6_2 != 0) = false := bne_eq_false_iff_eq.mpr c11
             clear c11
             have H' := Aside0.mk H
             clear H
             obtain ⟨Ao12, co12, eo12⟩ := Kd.V_slice HO_7.out
             subst eo12
             have p289 : 0 ≤ (x25_2 : Int) := of_decide_eq_true (by first | (with_reducible assumption) | assumption)
             have q289 : x25_2 < (x7_1.length : Int) := of_decide_eq_true (by first | (with_reducible assumption) | assumption)
             obtain ⟨ad289, A289_0, c289_0, e289, hx289_0, hl289_0, hi289_0⟩ := at_L1 (Kd.V_reads' HO_7.out).2.2 x25_2 p289 q289
             cases e289
             obtain ⟨ce289, hce289, hMe289, hcc289⟩ := Kd.V_get HO_7.out [] x25_2 p289 (by first | exact q289 | exact of_decide_eq_true (by first | (with_reducible assumption) | assumption) | (have e_ := (Kd.V_reads' HO_7.out).1; omega))
             obtain ⟨ua289_0, uc289_0, rfl, ul289_0, ge289_0⟩ := Kd.FK_slice_open hMe289
             have hv289_0 := hcc289 0 _ rfl
             rw [Nat.add_zero, show ((Kd.slice 3 (Kd.int .i64))).sz = 1 from rfl, Nat.mul_one] at hv289_0
             replace hv289_0 := Option.some.inj (hv289_0.symm.trans hx289_0)
             injection hv289_0 with hva_ hvn_ hvc_
             rw [hva_] at ge289_0
             rw [hvc_] at ul289_0
             have HL289_0 := Aside0.mk (show Kd.V (Kd.int .i64) 3 _ w.heap.size _ _ (rd_L1 x7_1 x25_2) from Kd.V_mk ul289_0 ge289_0)
             clear hva_ hvn_ hvc_ ge289_0 ul289_0
             clear hcc289 hce289
             have HR289_0 := Aside0.mk hi289_0
             have HC289_0 := Aside0.mk hl289_0
             clear hi289_0 hl289_0
             replace p289 := eq_true p289
             replace q289 := eq_true q289
             have p290 : 0 ≤ (x25_2 : Int) := of_decide_eq_true (by first | (with_reducible assumption) | assumption)
             have q290 : x25_2 < ((rd_L1 x7_1 x25_2).length : Int) := of_decide_eq_true (by first | (with_reducible assumption) | assumption)
             obtain ⟨ad290, e290, hx290_0⟩ := Kd.at_int (by repeat (first | (with_reducible exact HR289_0.out) | (with_reducible refine Kd.C_alloc ?_ _) | (with_reducible refine Kd.C_drewN ?_ _) | (with_reducible refine Kd.C_drew ?_) | exact HR289_0.out)) x25_2 p290 q290
             cases e290
             replace p290 := eq_true p290
             replace q290 := eq_true q290
             go_wp2
             repeat (go_quiet (fail); try go_wp2)
             go_roundg k2
             case measure => have := HK1.out; have := HK2.out; omega
             case rel => exact ⟨(rd (rd_L1 x7_1 x25_2) x25_2), (x8_1), (wrap64 (x25_2 + 1)), (by first | rfl | (simp; done) | (simp [*]; done)), (by first | rfl | (simp; done) | (simp [*]; done)), (by first | rfl | (simp; done) | (simp [*]; done)), H', ⟨by have := HK1.out; have := HK2.out; omega⟩, ⟨by (with_reducible repeat (first | apply Kd.V_alloc | apply Kd.V_drewN | apply Kd.V_drew)); exact HO_0.out⟩, ⟨by (with_reducible repeat (first | apply Kd.V_alloc | apply Kd.V_drewN | apply Kd.V_drew)); exact HO_7.out⟩, ⟨by repeat (first | (with_reducible first | exact HB.out | apply below_alloc | apply pw_below_drewN | apply below_drew1) | exact HB.out)⟩⟩
            ·rw [if_neg c11] at H
             have c11b0 : (x6_2 == 0) = false := beq_eq_false_iff_ne.mpr c11
             have c11b1 : (x6_2 != 0) = true := bne_iff_ne.mpr c11
             by_cases c13 : (wrap64 ((rd (rd_L1 x7_1 x25_2) x25_2) * x6_2)) > (wrap64 (x5_2 * x8_1))
             ·rw [if_pos c13] at H
              have c13b0 : decide ((wrap64 (x5_2 * x8_1)) < (wrap64 ((rd (rd_L1 x7_1 x25_2) x25_2) * x6_2))) = true := decide_eq_true c13
              clear c13
              have H' := Aside0.mk H
              clear H
              obtain ⟨Ao14, co14, eo14⟩ := Kd.V_slice HO_7.out
              subst eo14
              have p289 : 0 ≤ (x25_2 : Int) := of_decide_eq_true (by first | (with_reducible assumption) | assumption)
              have q289 : x25_2 < (x7_1.length : Int) := of_decide_eq_true (by first | (with_reducible assumption) | assumption)
              obtain ⟨ad289, A289_0, c289_0, e289, hx289_0, hl289_0, hi289_0⟩ := at_L1 (Kd.V_reads' HO_7.out).2.2 x25_2 p289 q289
              cases e289
              obtain ⟨ce289, hce289, hMe289, hcc289⟩ := Kd.V_get HO_7.out [] x25_2 p289 (by first | exact q289 | exact of_decide_eq_true (by first | (with_reducible assumption) | assumption) | (have e_ := (Kd.V_reads' HO_7.out).1; omega))
              obtain ⟨ua289_0, uc289_0, rfl, ul289_0, ge289_0⟩ := Kd.FK_slice_open hMe289
              have hv289_0 := hcc289 0 _ rfl
              rw [Nat.add_zero, show ((Kd.slice 3 (Kd.int .i64))).sz = 1 from rfl, Nat.mul_one] at hv289_0
              replace hv289_0 := Option.some.inj (hv289_0.symm.trans hx289_0)
              injection hv289_0 with hva_ hvn_ hvc_
              rw [hva_] at ge289_0
              rw [hvc_] at ul289_0
              have HL289_0 := Aside0.mk (show Kd.V (Kd.int .i64) 3 _ w.heap.size _ _ (rd_L1 x7_1 x25_2) from Kd.V_mk ul289_0 ge289_0)
              clear hva_ hvn_ hvc_ ge289_0 ul289_0
              clear hcc289 hce289
              have HR289_0 := Aside0.mk hi289_0
              have HC289_0 := Aside0.mk hl289_0
              clear hi289_0 hl289_0
              replace p289 := eq_true p289
              replace q289 := eq_true q289
              have p290 : 0 ≤ (x25_2 : Int) := of_decide_eq_true (by first | (with_reducible assumption) | assumption)
              have q290 : x25_2 < ((rd_L1 x7_1 x25_2).length : Int) := of_decide_eq_true (by first | (with_reducible assumption) | assumption)
              obtain ⟨ad290, e290, hx290_0⟩ := Kd.at_int (by repeat (first | (with_reducible exact HR289_0.out) | (with_reducible refine Kd.C_alloc ?_ _) | (with_reducible refine Kd.C_drewN ?_ _) | (with_reducible refine Kd.C_drew ?_) | exact HR289_0.out)) x25_2 p290 q290
              cases e290
              replace p290 := eq_true p290
              replace q290 := eq_true q290
              go_wp2
              repeat (go_quiet (fail); try go_wp2)
              go_roundg k2
              case measure => have := HK1.out; have := HK2.out; omega
              case rel => exact ⟨(rd (rd_L1 x7_1 x25_2) x25_2), (x8_1), (wrap64 (x25_2 + 1)), (by first | rfl | (simp; done) | (simp [*]; done)), (by first | rfl | (simp; done) | (simp [*]; done)), (by first | rfl | (simp; done) | (simp [*]; done)), H', ⟨by have := HK1.out; have := HK2.out; omega⟩, ⟨by (with_reducible repeat (first | apply Kd.V_alloc | apply Kd.V_drewN | apply Kd.V_drew)); exact HO_0.out⟩, ⟨by (with_reducible repeat (first | apply Kd.V_alloc | apply Kd.V_drewN | apply Kd.V_drew)); exact HO_7.out⟩, ⟨by repeat (first | (with_reducible first | exact HB.out | apply below_alloc | apply pw_below_drewN | apply below_drew1) | exact HB.out)⟩⟩
             ·rw [if_neg c13] at H
              have c13b0 : decide ((wrap64 (x5_2 * x8_1)) < (wrap64 ((rd (rd_L1 x7_1 x25_2) x25_2) * x6_2))) = false := decide_eq_false c13
              clear c13
              have H' := Aside0.mk H
              clear H
              obtain ⟨Ao15, co15, eo15⟩ := Kd.V_slice HO_7.out
              subst eo15
              have p289 : 0 ≤ (x25_2 : Int) := of_decide_eq_true (by first | (with_reducible assumption) | assumption)
              have q289 : x25_2 < (x7_1.length : Int) := of_decide_eq_true (by first | (with_reducible assumption) | assumption)
              obtain ⟨ad289, A289_0, c289_0, e289, hx289_0, hl289_0, hi289_0⟩ := at_L1 (Kd.V_reads' HO_7.out).2.2 x25_2 p289 q289
              cases e289
              obtain ⟨ce289, hce289, hMe289, hcc289⟩ := Kd.V_get HO_7.out [] x25_2 p289 (by first | exact q289 | exact of_decide_eq_true (by first | (with_reducible assumption) | assumption) | (have e_ := (Kd.V_reads' HO_7.out).1; omega))
              obtain ⟨ua289_0, uc289_0, rfl, ul289_0, ge289_0⟩ := Kd.FK_slice_open hMe289
              have hv289_0 := hcc289 0 _ rfl
              rw [Nat.add_zero, show ((Kd.slice 3 (Kd.int .i64))).sz = 1 from rfl, Nat.mul_one] at hv289_0
              replace hv289_0 := Option.some.inj (hv289_0.symm.trans hx289_0)
              injection hv289_0 with hva_ hvn_ hvc_
              rw [hva_] at ge289_0
              rw [hvc_] at ul289_0
              have HL289_0 := Aside0.mk (show Kd.V (Kd.int .i64) 3 _ w.heap.size _ _ (rd_L1 x7_1 x25_2) from Kd.V_mk ul289_0 ge289_0)
              clear hva_ hvn_ hvc_ ge289_0 ul289_0
              clear hcc289 hce289
              have HR289_0 := Aside0.mk hi289_0
              have HC289_0 := Aside0.mk hl289_0
              clear hi289_0 hl289_0
              replace p289 := eq_true p289
              replace q289 := eq_true q289
              have p290 : 0 ≤ (x25_2 : Int) := of_decide_eq_true (by first | (with_reducible assumption) | assumption)
              have q290 : x25_2 < ((rd_L1 x7_1 x25_2).length : Int) := of_decide_eq_true (by first | (with_reducible assumption) | assumption)
              obtain ⟨ad290, e290, hx290_0⟩ := Kd.at_int (by repeat (first | (with_reducible exact HR289_0.out) | (with_reducible refine Kd.C_alloc ?_ _) | (with_reducible refine Kd.C_drewN ?_ _) | (with_reducible refine Kd.C_drew ?_) | exact HR289_0.out)) x25_2 p290 q290
              cases e290
              replace p290 := eq_true p290
              replace q290 := eq_true q290
              go_wp2
              repeat (go_quiet (fail); try go_wp2)
              go_roundg k2
              case measure => have := HK1.out; have := HK2.out; omega
              case rel => exact ⟨(x5_2), (x6_2), (wrap64 (x25_2 + 1)), (by first | rfl | (simp; done) | (simp [*]; done)), (by first | rfl | (simp; done) | (simp [*]; done)), (by first | rfl | (simp; done) | (simp [*]; done)), H', ⟨by have := HK1.out; have := HK2.out; omega⟩, ⟨by (with_reducible repeat (first | apply Kd.V_alloc | apply Kd.V_drewN | apply Kd.V_drew)); exact HO_0.out⟩, ⟨by (with_reducible repeat (first | apply Kd.V_alloc | apply Kd.V_drewN | apply Kd.V_drew)); exact HO_7.out⟩, ⟨by repeat (first | (with_reducible first | exact HB.out | apply below_alloc | apply pw_below_drewN | apply below_drew1) | exact HB.out)⟩⟩
          ·rw [if_neg c8] at H
           exact absurd H (by simp)
         ·rw [if_neg c7] at H
          exact absurd H (by simp)
        ·rw [if_neg c6] at H
         exact absurd H (by simp)
       ·rw [if_neg c5] at H
        have c5b0 : decide (x25_2 < (l0.length : Int)) = false := decide_eq_false c5
        clear c5
        replace H := Option.bind_eq_some_iff.mp H
        obtain ⟨t291, A160, H⟩ := H
        replace H : (railplanref30_Mean.l0 k2 l0 x5_2 x6_2 t291 (wrap64 (x8_1 + 1))) = some (r1, r2, r3) := H
        have A16 := Aside0.mk A160
        clear A160
        have H' := Aside0.mk H
        clear H
        obtain ⟨Ao17, co17, eo17⟩ := Kd.V_slice HO_7.out
        subst eo17
        go_wp2_with (first | (go_at_call 48; (with_reducible refine (railplanref30_raw.calls k2 _ _ x7_1 _ _ l0 t291 _ ?side1 ?side2 ?side3 ?side4 A16.out).mono ?_); (case side1 => repeat (first | exact (Kd.V_reads' HO_7.out).2.2 | (with_reducible refine Kd.C_alloc ?_ _) | (with_reducible refine Kd.C_drewN ?_ _) | (with_reducible refine Kd.C_drew ?_))); (case side2 => exact (Kd.V_reads' HO_7.out).2.1); (case side3 => repeat (first | exact (Kd.V_reads' HO_0.out).2.2 | (with_reducible refine Kd.C_alloc ?_ _) | (with_reducible refine Kd.C_drewN ?_ _) | (with_reducible refine Kd.C_drew ?_))); (case side4 => exact (Kd.V_reads' HO_0.out).2.1); rintro e w18 ⟨v292, rfl, ho0, hb⟩; have n0_ := Aside0.mk (Kd.V_elder' (by (with_reducible repeat (first | apply Kd.V_alloc | apply Kd.V_drewN | apply Kd.V_drew)); exact HO_0.out) (by first | exact Kd.N_base ho0 | exact Kd.S_base ho0 | exact Kd.R_base ho0 | exact Kd.Q_base ho0) hb); have n1_ := Aside0.mk (Kd.V_elder' (by (with_reducible repeat (first | apply Kd.V_alloc | apply Kd.V_drewN | apply Kd.V_drew)); exact HO_7.out) (by first | exact Kd.N_base ho0 | exact Kd.S_base ho0 | exact Kd.R_base ho0 | exact Kd.Q_base ho0) hb); have n2_ := Aside0.mk (Kd.S_lower (Kd.S_newM (M := fun k_ => (w.heap.size ≤ k_)) ho0 (below_size (by repeat (first | (with_reducible first | exact HB.out | apply below_alloc | apply pw_below_drewN | apply below_drew1) | exact HB.out))) (fun k_ h_ => h_)) (below_size (by repeat (first | (with_reducible first | exact HB.out | apply below_alloc | apply pw_below_drewN | apply below_drew1) | exact HB.out)))); have n3_ := Aside0.mk (below_step (by repeat (first | (with_reducible first | exact HB.out | apply below_alloc | apply pw_below_drewN | apply below_drew1) | exact HB.out)) hb); clear HO_0; clear HO_7; clear HB; have HO_0 := n0_; have HO_7 := n1_; have HO293 := n2_; have HB := n3_; clear n0_ n1_ n2_ n3_; (try clear hb); (try clear hb2); (try clear hk); (try clear hi); (try clear ho0)))
        repeat (go_quiet (first | (go_at_call 48; (with_reducible refine (railplanref30_raw.calls k2 _ _ x7_1 _ _ l0 t291 _ ?side1 ?side2 ?side3 ?side4 A16.out).mono ?_); (case side1 => repeat (first | exact (Kd.V_reads' HO_7.out).2.2 | (with_reducible refine Kd.C_alloc ?_ _) | (with_reducible refine Kd.C_drewN ?_ _) | (with_reducible refine Kd.C_drew ?_))); (case side2 => exact (Kd.V_reads' HO_7.out).2.1); (case side3 => repeat (first | exact (Kd.V_reads' HO_0.out).2.2 | (with_reducible refine Kd.C_alloc ?_ _) | (with_reducible refine Kd.C_drewN ?_ _) | (with_reducible refine Kd.C_drew ?_))); (case side4 => exact (Kd.V_reads' HO_0.out).2.1); rintro e w18 ⟨v292, rfl, ho0, hb⟩; have n0_ := Aside0.mk (Kd.V_elder' (by (with_reducible repeat (first | apply Kd.V_alloc | apply Kd.V_drewN | apply Kd.V_drew)); exact HO_0.out) (by first | exact Kd.N_base ho0 | exact Kd.S_base ho0 | exact Kd.R_base ho0 | exact Kd.Q_base ho0) hb); have n1_ := Aside0.mk (Kd.V_elder' (by (with_reducible repeat (first | apply Kd.V_alloc | apply Kd.V_drewN | apply Kd.V_drew)); exact HO_7.out) (by first | exact Kd.N_base ho0 | exact Kd.S_base ho0 | exact Kd.R_base ho0 | exact Kd.Q_base ho0) hb); have n2_ := Aside0.mk (Kd.S_lower (Kd.S_newM (M := fun k_ => (w.heap.size ≤ k_)) ho0 (below_size (by repeat (first | (with_reducible first | exact HB.out | apply below_alloc | apply pw_below_drewN | apply below_drew1) | exact HB.out))) (fun k_ h_ => h_)) (below_size (by repeat (first | (with_reducible first | exact HB.out | apply below_alloc | apply pw_below_drewN | apply below_drew1) | exact HB.out)))); have n3_ := Aside0.mk (below_step (by repeat (first | (with_reducible first | exact HB.out | apply below_alloc | apply pw_below_drewN | apply below_drew1) | exact HB.out)) hb); clear HO_0; clear HO_7; clear HB; have HO_0 := n0_; have HO_7 := n1_; have HO293 := n2_; have HB := n3_; clear n0_ n1_ n2_ n3_; (try clear hb); (try clear hb2); (try clear hk); (try clear hi); (try clear ho0))); try go_wp2_with (first | (go_at_call 48; (with_reducible refine (railplanref30_raw.calls k2 _ _ x7_1 _ _ l0 t291 _ ?side1 ?side2 ?side3 ?side4 A16.out).mono ?_); (case side1 => repeat (first | exact (Kd.V_reads' HO_7.out).2.2 | (with_reducible refine Kd.C_alloc ?_ _) | (with_reducible refine Kd.C_drewN ?_ _) | (with_reducible refine Kd.C_drew ?_))); (case side2 => exact (Kd.V_reads' HO_7.out).2.1); (case side3 => repeat (first | exact (Kd.V_reads' HO_0.out).2.2 | (with_reducible refine Kd.C_alloc ?_ _) | (with_reducible refine Kd.C_drewN ?_ _) | (with_reducible refine Kd.C_drew ?_))); (case side4 => exact (Kd.V_reads' HO_0.out).2.1); rintro e w18 ⟨v292, rfl, ho0, hb⟩; have n0_ := Aside0.mk (Kd.V_elder' (by (with_reducible repeat (first | apply Kd.V_alloc | apply Kd.V_drewN | apply Kd.V_drew)); exact HO_0.out) (by first | exact Kd.N_base ho0 | exact Kd.S_base ho0 | exact Kd.R_base ho0 | exact Kd.Q_base ho0) hb); have n1_ := Aside0.mk (Kd.V_elder' (by (with_reducible repeat (first | apply Kd.V_alloc | apply Kd.V_drewN | apply Kd.V_drew)); exact HO_7.out) (by first | exact Kd.N_base ho0 | exact Kd.S_base ho0 | exact Kd.R_base ho0 | exact Kd.Q_base ho0) hb); have n2_ := Aside0.mk (Kd.S_lower (Kd.S_newM (M := fun k_ => (w.heap.size ≤ k_)) ho0 (below_size (by repeat (first | (with_reducible first | exact HB.out | apply below_alloc | apply pw_below_drewN | apply below_drew1) | exact HB.out))) (fun k_ h_ => h_)) (below_size (by repeat (first | (with_reducible first | exact HB.out | apply below_alloc | apply pw_below_drewN | apply below_drew1) | exact HB.out)))); have n3_ := Aside0.mk (below_step (by repeat (first | (with_reducible first | exact HB.out | apply below_alloc | apply pw_below_drewN | apply below_drew1) | exact HB.out)) hb); clear HO_0; clear HO_7; clear HB; have HO_0 := n0_; have HO_7 := n1_; have HO293 := n2_; have HB := n3_; clear n0_ n1_ n2_ n3_; (try clear hb); (try clear hb2); (try clear hk); (try clear hi); (try clear ho0))))
        go_roundg k2
        case measure => have := HK1.out; have := HK2.out; omega
        case rel => exact ⟨(x5_2), (x6_2), (t291), (wrap64 (x8_1 + 1)), (by first | rfl | (simp; done) | (simp [*]; done)), (by first | rfl | (simp; done) | (simp [*]; done)), (by first | rfl | (simp; done) | (simp [*]; done)), H', ⟨by have := HK1.out; have := HK2.out; omega⟩, ⟨by (with_reducible repeat (first | apply Kd.V_alloc | apply Kd.V_drewN | apply Kd.V_drew)); exact Kd.V_mono HO_0.out (fun _ hk => hk.1)⟩, ⟨Kd.V_mono (Kd.S_V (by (with_reducible repeat (first | apply Kd.S_alloc | apply Kd.S_drewN | apply Kd.S_drew)); exact Kd.S_mono HO293.out (fun _ hk => hk.1))) (fun k_ hk => by first | exact ⟨(.inr (hk.1)), hk.2⟩ | exact (.inr (hk)))⟩, ⟨by repeat (first | (with_reducible first | exact HB.out | apply below_alloc | apply pw_below_drewN | apply below_drew1) | exact HB.out)⟩⟩
    ·rw [if_neg c4] at H
     have c4b0 : decide (x8_1 ≤ (l0.length : Int)) = false := decide_eq_false c4
     clear c4
     by_cases c19 : x6_1 = 0
     ·rw [if_pos c19] at H
      have c19b0 : (x6_1 == 0) = true := beq_iff_eq.mpr c19
      have c19b1 : (x6_1 != 0) = false := bne_eq_false_iff_eq.mpr c19
      clear c19
      simp only [Option.some.injEq, Prod.mk.injEq] at H
      obtain ⟨rfl, rfl, rfl⟩ := H
      go_wp2
      repeat (go_quiet (fail); try go_wp2)
      go_ret3
      exact ⟨by first | rfl | (simp [errW_none, errW_some] <;> rfl) | (simp [*, errW_none, errW_some] <;> rfl), by repeat (first | (with_reducible first | exact HB.out | apply below_alloc | apply pw_below_drewN | apply below_drew1) | exact HB.out)⟩
     ·rw [if_neg c19] at H
      have c19b0 : (x6_1 == 0) = false := beq_eq_false_iff_ne.mpr c19
      have c19b1 : (x6_1 != 0) = true := bne_iff_ne.mpr c19
      obtain ⟨ji20, hji20⟩ : ∃ j_ : Int, (mx x5_1 (wrap64 (-x5_1))) = j_ := ⟨_, rfl⟩
      replace H : ((railplanref1_Gcd.f k1 (ji20) x6_1).bind fun bt287 => (if bt287.1 = 0 then (none) else (some (wrap64 (Int.tdiv x5_1 bt287.1), wrap64 (Int.tdiv x6_1 bt287.1), true)))) = some (r1, r2, r3) := by first | (rw [hji20] at H; exact H) | (simp only [hji20] at H ⊢; exact H)
      have hji20_ : (if x5_1 < (wrap64 (-x5_1)) then (wrap64 (-x5_1)) else x5_1) = ji20 := hji20
      replace H := Option.bind_eq_some_iff.mp H
      obtain ⟨⟨t287, t288⟩, A210, H⟩ := H
      replace H : (if t287 = 0 then (none) else (some (wrap64 (Int.tdiv x5_1 t287), wrap64 (Int.tdiv x6_1 t287), true))) = some (r1, r2, r3) := H
      have A21 := Aside0.mk A210
      clear A210
      by_cases c22 : t287 = 0
      ·rw [if_pos c22] at H
       exact absurd H (by simp)
      ·rw [if_neg c22] at H
       have c22b0 : (t287 == 0) = false := beq_eq_false_iff_ne.mpr c22
       have c22b1 : (t287 != 0) = true := bne_iff_ne.mpr c22
       simp only [Option.some.injEq, Prod.mk.injEq] at H
       obtain ⟨rfl, rfl, rfl⟩ := H
       go_wp2_with (first | (go_at_call 49; (with_reducible refine (railplanref1_Gcd.calls k1 ji20 x6_1 t287 t288 _ A21.out).mono ?_); rintro e w' ⟨rfl, ⟨nd, rfl⟩⟩; (try first | exact ⟨rfl, _, World.drewN_drewN _ _ _⟩ | exact ⟨rfl, _, Eq.trans (World.drewN_drewN _ _ _) (congrArg (World.drewN _) (Nat.add_assoc _ _ _))⟩)))
       repeat (go_quiet (first | (go_at_call 49; (with_reducible refine (railplanref1_Gcd.calls k1 ji20 x6_1 t287 t288 _ A21.out).mono ?_); rintro e w' ⟨rfl, ⟨nd, rfl⟩⟩; (try first | exact ⟨rfl, _, World.drewN_drewN _ _ _⟩ | exact ⟨rfl, _, Eq.trans (World.drewN_drewN _ _ _) (congrArg (World.drewN _) (Nat.add_assoc _ _ _))⟩))); try go_wp2_with (first | (go_at_call 49; (with_reducible refine (railplanref1_Gcd.calls k1 ji20 x6_1 t287 t288 _ A21.out).mono ?_); rintro e w' ⟨rfl, ⟨nd, rfl⟩⟩; (try first | exact ⟨rfl, _, World.drewN_drewN _ _ _⟩ | exact ⟨rfl, _, Eq.trans (World.drewN_drewN _ _ _) (congrArg (World.drewN _) (Nat.add_assoc _ _ _))⟩))))
       go_ret3
       exact ⟨by first | rfl | (simp [errW_none, errW_some] <;> rfl) | (simp only [← hji20]; first | rfl | (simp [errW_none, errW_some] <;> rfl)) | (simp [*, errW_none, errW_some] <;> rfl), by repeat (first | (with_reducible first | exact HB.out | apply below_alloc | apply pw_below_drewN | apply below_drew1) | exact HB.out)⟩
 ·replace c3 := Bool.eq_false_iff.mpr c3
  subst c3
  have H1 : (some (0, 0, false)) = some (r1, r2, r3) := by rw [if_neg (show ¬ (false = true) by decide)] at H; exact H
  clear H
  have H := H1
  clear H1
  simp only [Option.some.injEq, Prod.mk.injEq] at H
  obtain ⟨rfl, rfl, rfl⟩ := H
  go_enter Try.func23, Try.ntmps23
  go_wp2_with (first | (go_at_call 31; (with_reducible refine (railplanref30_CheckMatrix.calls k _ _ l0 false _ ?side1 ?side2 A2.out).mono ?_); (case side1 => repeat (first | exact (Kd.V_reads' HO0.out).2.2 | (with_reducible refine Kd.C_alloc ?_ _) | (with_reducible refine Kd.C_drewN ?_ _) | (with_reducible refine Kd.C_drew ?_))); (case side2 => exact (Kd.V_reads' HO0.out).2.1); rintro e w' ⟨rfl, ⟨nd, rfl⟩⟩; (try first | exact ⟨rfl, _, World.drewN_drewN _ _ _⟩ | exact ⟨rfl, _, Eq.trans (World.drewN_drewN _ _ _) (congrArg (World.drewN _) (Nat.add_assoc _ _ _))⟩)))
  repeat (go_quiet (first | (go_at_call 31; (with_reducible refine (railplanref30_CheckMatrix.calls k _ _ l0 false _ ?side1 ?side2 A2.out).mono ?_); (case side1 => repeat (first | exact (Kd.V_reads' HO0.out).2.2 | (with_reducible refine Kd.C_alloc ?_ _) | (with_reducible refine Kd.C_drewN ?_ _) | (with_reducible refine Kd.C_drew ?_))); (case side2 => exact (Kd.V_reads' HO0.out).2.1); rintro e w' ⟨rfl, ⟨nd, rfl⟩⟩; (try first | exact ⟨rfl, _, World.drewN_drewN _ _ _⟩ | exact ⟨rfl, _, Eq.trans (World.drewN_drewN _ _ _) (congrArg (World.drewN _) (Nat.add_assoc _ _ _))⟩))); try go_wp2_with (first | (go_at_call 31; (with_reducible refine (railplanref30_CheckMatrix.calls k _ _ l0 false _ ?side1 ?side2 A2.out).mono ?_); (case side1 => repeat (first | exact (Kd.V_reads' HO0.out).2.2 | (with_reducible refine Kd.C_alloc ?_ _) | (with_reducible refine Kd.C_drewN ?_ _) | (with_reducible refine Kd.C_drew ?_))); (case side2 => exact (Kd.V_reads' HO0.out).2.1); rintro e w' ⟨rfl, ⟨nd, rfl⟩⟩; (try first | exact ⟨rfl, _, World.drewN_drewN _ _ _⟩ | exact ⟨rfl, _, Eq.trans (World.drewN_drewN _ _ _) (congrArg (World.drewN _) (Nat.add_assoc _ _ _))⟩))))
  go_ret3
  exact ⟨by first | rfl | (simp [errW_none, errW_some] <;> rfl) | (simp [*, errW_none, errW_some] <;> rfl), by repeat (first | (with_reducible first | exact HB.out | apply below_alloc | apply pw_below_drewN | apply below_drew1) | exact HB.out)⟩

end Go.Proofs.Ytnmhdeibjglhcaa.XMaxplusRecover
