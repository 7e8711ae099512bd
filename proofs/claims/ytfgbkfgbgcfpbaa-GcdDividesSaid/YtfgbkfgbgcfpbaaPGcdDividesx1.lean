-- PRINTED BY print.sh 35421559b90ae4d0a3588c463048766b98c2df88dd9212a6774a882060cdf62d: not written by this session
import Derived.Test.YtfgbkfgbgcfpbaaPGcdDividesx0
namespace Go.Proofs.Ytfgbkfgbgcfpbaa.PGcdDivides
open Go.RowKit Go.Proofs.YtfgbkfgbgcfpbaaW.PrintWords Go.Proofs.YtfgbkfgbgcfpbaaW.PrintLast Go.Proofs.YtfgbkfgbgcfpbaaW.PrintMore
attribute [local go_sem] max2_int min2_int max_two min_two max_three min_three max_four min_four   -- for this text's walks alone
set_option linter.unusedVariables false
set_option linter.unusedSimpArgs false

/-! ### arith_Gcd: function 14 -/
mutual
def arith_Gcd.j0 : Nat → Int → Int → Bool → Option (Int × Int)
  | 0, _, _, _ => none
  | k + 1, x0, x1, x11 => if x11 = true then (some (0, 1)) else (arith_Gcd.l0 k x0 x1)
def arith_Gcd.l0 : Nat → Int → Int → Option (Int × Int)
  | 0, _, _ => none
  | k + 1, x0, x1 => if x1 > 0 then (if x1 = 0 then (none) else (arith_Gcd.l0 k x1 (Int.tmod x0 x1))) else (some (x0, 0))
end
def arith_Gcd.f (k : Nat) (a0 : Int) (a1 : Int) : Option (Int × Int) := if a0 < 0 then (arith_Gcd.j0 k a0 a1 true) else (arith_Gcd.j0 k a0 a1 (decide (a1 < 0)))
theorem arith_Gcd.mono_l : ∀ k, (∀ y0 y1 y2, LeO (arith_Gcd.j0 k y0 y1 y2) (arith_Gcd.j0 (k + 1) y0 y1 y2)) ∧ (∀ y0 y1, LeO (arith_Gcd.l0 k y0 y1) (arith_Gcd.l0 (k + 1) y0 y1))
  | 0 => ⟨fun _ _ _ r h => by simp [arith_Gcd.j0] at h, fun _ _ r h => by simp [arith_Gcd.l0] at h⟩
  | k + 1 => by
    obtain ⟨ih0, ih1⟩ := arith_Gcd.mono_l k
    refine ⟨?_, ?_⟩
    · intro y0 y1 y2
      unfold arith_Gcd.j0
      repeat' first
      | (with_reducible exact ih0 _ _ _)
      | (with_reducible exact ih1 _ _)
      | (with_reducible exact LeO.refl _)
      | (with_reducible exact LeO.none _)
      | (with_reducible refine LeO.ite ?_ ?_)
      | (with_reducible refine LeO.bind ?_ (fun _ => ?_))
      | exact ih0 _ _ _
      | exact ih1 _ _
      | exact LeO.none _
      | refine LeO.ite ?_ ?_
      | refine LeO.bind ?_ (fun _ => ?_)
    · intro y0 y1
      unfold arith_Gcd.l0
      repeat' first
      | (with_reducible exact ih0 _ _ _)
      | (with_reducible exact ih1 _ _)
      | (with_reducible exact LeO.refl _)
      | (with_reducible exact LeO.none _)
      | (with_reducible refine LeO.ite ?_ ?_)
      | (with_reducible refine LeO.bind ?_ (fun _ => ?_))
      | exact ih0 _ _ _
      | exact ih1 _ _
      | exact LeO.none _
      | refine LeO.ite ?_ ?_
      | refine LeO.bind ?_ (fun _ => ?_)
theorem arith_Gcd.mono : ∀ a0 a1 k, LeO (arith_Gcd.f k a0 a1) (arith_Gcd.f (k + 1) a0 a1) := by
  intro a0 a1 k
  obtain ⟨ih0, ih1⟩ := arith_Gcd.mono_l k
  unfold arith_Gcd.f
  repeat' first
      | (with_reducible exact ih0 _ _ _)
      | (with_reducible exact ih1 _ _)
      | (with_reducible exact LeO.refl _)
      | (with_reducible exact LeO.none _)
      | (with_reducible refine LeO.ite ?_ ?_)
      | (with_reducible refine LeO.bind ?_ (fun _ => ?_))
      | exact ih0 _ _ _
      | exact ih1 _ _
      | exact LeO.none _
      | refine LeO.ite ?_ ?_
      | refine LeO.bind ?_ (fun _ => ?_)
set_option maxHeartbeats 8000000 in
set_option maxRecDepth 100000 in
theorem arith_Gcd.calls (k : Nat) (a0 : Int) (a1 : Int) (r1 : Int) (r2 : Int) (w : World) (h : arith_Gcd.f k a0 a1 = some (r1, r2)) :
    Calls Try.prog 14 #[.int .i64 a0, .int .i64 a1] w fun e w' => e = .returned (.tuple #[.int .i64 r1, .int .i64 r2]) ∧ Drawn0 w w' := by
  have H : (if a0 < 0 then (arith_Gcd.j0 k a0 a1 true) else (arith_Gcd.j0 k a0 a1 (decide (a1 < 0)))) = some (r1, r2) := h
  clear h
  have HC3 := Aside0.mk H
  clear H
  go_enter Try.func14, Try.ntmps14
  go_upto_region 1 with (fail)
  repeat (go_quiet (fail); go_upto_region 1 with (fail))
  go_cut [11] (fun v11 wc => ∃ (kq : Nat) (x11_2 : Bool), v11 = .bool x11_2 ∧ Aside0 (arith_Gcd.j0 kq a0 a1 x11_2 = some (r1, r2)) ∧ Aside0 (kq ≤ k) ∧ Drawn0 w wc)
  case first =>
    have H := HC3.out
    clear HC3
    by_cases c4 : a0 < 0
    · rw [if_pos c4] at H
      have c4b0 : decide (a0 < 0) = true := decide_eq_true c4
      clear c4
      (first | rw [c4b0] | (simp only [i64_w, i32_w]; rw [c4b0]) | skip)
      have H' := Aside0.mk H
      clear H
      go_wp2
      repeat (go_quiet (fail); try go_wp2)
      go_meet
      case rel => exact ⟨_, (true), (by first | rfl | (simp; done) | (simp [*]; done)), H', ⟨by first | omega | exact Nat.le_refl _⟩, by repeat (first | exact Drawn0.refl _ | apply Drawn0.step)⟩
    · rw [if_neg c4] at H
      have c4b0 : decide (a0 < 0) = false := decide_eq_false c4
      clear c4
      (first | rw [c4b0] | (simp only [i64_w, i32_w]; rw [c4b0]) | skip)
      have H' := Aside0.mk H
      clear H
      go_wp2
      repeat (go_quiet (fail); try go_wp2)
      go_meet
      case rel => exact ⟨_, (decide (a1 < 0)), (by first | rfl | (simp; done) | (simp [*]; done)), H', ⟨by first | omega | exact Nat.le_refl _⟩, by repeat (first | exact Drawn0.refl _ | apply Drawn0.step)⟩
  case rest =>
    clear HC3
    try clear c1
    try clear p2
    try clear c4
    try clear c4b0
    obtain ⟨kq, x11_2, rfl, HA, HJ2, ⟨mc2, rfl⟩⟩ := hcut
    cases kq with
    | zero => exact absurd HA.out (by simp [arith_Gcd.j0])
    | succ kj2 =>
      have H := HA.out
      clear HA
      simp only [arith_Gcd.j0] at H
      by_cases c5 : x11_2 = true
      · subst c5
        have H1 : (some (0, 1)) = some (r1, r2) := by rw [if_pos rfl] at H; exact H
        clear H
        have H := H1
        clear H1
        simp only [Option.some.injEq, Prod.mk.injEq] at H
        obtain ⟨rfl, rfl⟩ := H
        go_wp2
        repeat (go_quiet (fail); try go_wp2)
        go_ret2
        exact ⟨by first | rfl | (simp; done) | (simp [*]; done), by repeat (first | exact Drawn0.refl _ | apply Drawn0.step)⟩
      · replace c5 := Bool.eq_false_iff.mpr c5
        subst c5
        have H1 : (arith_Gcd.l0 kj2 a0 a1) = some (r1, r2) := by rw [if_neg (show ¬ (false = true) by decide)] at H; exact H
        clear H
        have H := H1
        clear H1
        have H' := Aside0.mk H
        clear H
        go_wp2
        repeat (go_quiet (fail); try go_wp2)
        go_loopg [0, 1] kj2 (fun kq v0 v1 w' => ∃ (x0_2 : Int) (x1_2 : Int), v0 = .int .i64 x0_2 ∧ v1 = .int .i64 x1_2 ∧ Aside0 (arith_Gcd.l0 kq x0_2 x1_2 = some (r1, r2)) ∧ Aside0 (kq ≤ kj2) ∧ Drawn0 w w')
        case atStart => exact ⟨(a0), (a1), (by first | rfl | (simp; done) | (simp [*]; done)), (by first | rfl | (simp; done) | (simp [*]; done)), H', ⟨Nat.le_refl _⟩, by repeat (first | exact Drawn0.refl _ | apply Drawn0.step)⟩
        case round =>
          clear H'
          try clear c1
          try clear c2
          try clear p2
          try clear c4
          try clear c4b0
          try clear c5
          try clear p2
          obtain ⟨x0_2, x1_2, rfl, rfl, HA, HK2, ⟨m2, rfl⟩⟩ := hrel
          cases gk with
          | zero => exact absurd HA.out (by simp [arith_Gcd.l0])
          | succ k2 =>
            have H := HA.out
            clear HA
            simp only [arith_Gcd.l0] at H
            by_cases c6 : x1_2 > 0
            · rw [if_pos c6] at H
              have c6b0 : decide (0 < x1_2) = true := decide_eq_true c6
              clear c6
              by_cases c7 : x1_2 = 0
              · rw [if_pos c7] at H
                exact absurd H (by simp)
              · rw [if_neg c7] at H
                have c7b0 : (x1_2 == 0) = false := beq_eq_false_iff_ne.mpr c7
                have c7b1 : (x1_2 != 0) = true := bne_iff_ne.mpr c7
                have H' := Aside0.mk H
                clear H
                go_wp2
                repeat (go_quiet (fail); try go_wp2)
                go_roundg k2
                case measure => have := HJ2.out; have := HK2.out; omega
                case rel => exact ⟨(x1_2), (Int.tmod x0_2 x1_2), (by first | rfl | (simp; done) | (simp [*]; done)), (by first | rfl | (simp; done) | (simp [*]; done)), H', ⟨by have := HJ2.out; have := HK2.out; omega⟩, by repeat (first | exact Drawn0.refl _ | apply Drawn0.step)⟩
            · rw [if_neg c6] at H
              have c6b0 : decide (0 < x1_2) = false := decide_eq_false c6
              clear c6
              simp only [Option.some.injEq, Prod.mk.injEq] at H
              obtain ⟨rfl, rfl⟩ := H
              go_wp2
              repeat (go_quiet (fail); try go_wp2)
              go_ret2
              exact ⟨by first | rfl | (simp; done) | (simp [*]; done), by repeat (first | exact Drawn0.refl _ | apply Drawn0.step)⟩

/-! ### railplanref1_Gcd: function 15 -/
mutual
def railplanref1_Gcd.j0 : Nat → Int → Int → Bool → Option (Int × Int)
  | 0, _, _, _ => none
  | k + 1, x0, x1, x11 => if x11 = true then (some (0, 1)) else (railplanref1_Gcd.l0 k x0 x1)
def railplanref1_Gcd.l0 : Nat → Int → Int → Option (Int × Int)
  | 0, _, _ => none
  | k + 1, x0, x1 => if x1 > 0 then (if x1 = 0 then (none) else (railplanref1_Gcd.l0 k x1 (Int.tmod x0 x1))) else (some (x0, 0))
end
def railplanref1_Gcd.f (k : Nat) (a0 : Int) (a1 : Int) : Option (Int × Int) := if a0 < 0 then (railplanref1_Gcd.j0 k a0 a1 true) else (railplanref1_Gcd.j0 k a0 a1 (decide (a1 < 0)))
theorem railplanref1_Gcd.mono_l : ∀ k, (∀ y0 y1 y2, LeO (railplanref1_Gcd.j0 k y0 y1 y2) (railplanref1_Gcd.j0 (k + 1) y0 y1 y2)) ∧ (∀ y0 y1, LeO (railplanref1_Gcd.l0 k y0 y1) (railplanref1_Gcd.l0 (k + 1) y0 y1))
  | 0 => ⟨fun _ _ _ r h => by simp [railplanref1_Gcd.j0] at h, fun _ _ r h => by simp [railplanref1_Gcd.l0] at h⟩
  | k + 1 => by
    obtain ⟨ih0, ih1⟩ := railplanref1_Gcd.mono_l k
    refine ⟨?_, ?_⟩
    · intro y0 y1 y2
      unfold railplanref1_Gcd.j0
      repeat' first
      | (with_reducible exact ih0 _ _ _)
      | (with_reducible exact ih1 _ _)
      | (with_reducible exact LeO.refl _)
      | (with_reducible exact LeO.none _)
      | (with_reducible refine LeO.ite ?_ ?_)
      | (with_reducible refine LeO.bind ?_ (fun _ => ?_))
      | exact ih0 _ _ _
      | exact ih1 _ _
      | exact LeO.none _
      | refine LeO.ite ?_ ?_
      | refine LeO.bind ?_ (fun _ => ?_)
    · intro y0 y1
      unfold railplanref1_Gcd.l0
      repeat' first
      | (with_reducible exact ih0 _ _ _)
      | (with_reducible exact ih1 _ _)
      | (with_reducible exact LeO.refl _)
      | (with_reducible exact LeO.none _)
      | (with_reducible refine LeO.ite ?_ ?_)
      | (with_reducible refine LeO.bind ?_ (fun _ => ?_))
      | exact ih0 _ _ _
      | exact ih1 _ _
      | exact LeO.none _
      | refine LeO.ite ?_ ?_
      | refine LeO.bind ?_ (fun _ => ?_)
theorem railplanref1_Gcd.mono : ∀ a0 a1 k, LeO (railplanref1_Gcd.f k a0 a1) (railplanref1_Gcd.f (k + 1) a0 a1) := by
  intro a0 a1 k
  obtain ⟨ih0, ih1⟩ := railplanref1_Gcd.mono_l k
  unfold railplanref1_Gcd.f
  repeat' first
      | (with_reducible exact ih0 _ _ _)
      | (with_reducible exact ih1 _ _)
      | (with_reducible exact LeO.refl _)
      | (with_reducible exact LeO.none _)
      | (with_reducible refine LeO.ite ?_ ?_)
      | (with_reducible refine LeO.bind ?_ (fun _ => ?_))
      | exact ih0 _ _ _
      | exact ih1 _ _
      | exact LeO.none _
      | refine LeO.ite ?_ ?_
      | refine LeO.bind ?_ (fun _ => ?_)
set_option maxHeartbeats 8000000 in
set_option maxRecDepth 100000 in
theorem railplanref1_Gcd.calls (k : Nat) (a0 : Int) (a1 : Int) (r1 : Int) (r2 : Int) (w : World) (h : railplanref1_Gcd.f k a0 a1 = some (r1, r2)) :
    Calls Try.prog 15 #[.int .i64 a0, .int .i64 a1] w fun e w' => e = .returned (.tuple #[.int .i64 r1, .int .i64 r2]) ∧ Drawn0 w w' := by
  have H : (if a0 < 0 then (railplanref1_Gcd.j0 k a0 a1 true) else (railplanref1_Gcd.j0 k a0 a1 (decide (a1 < 0)))) = some (r1, r2) := h
  clear h
  have HC3 := Aside0.mk H
  clear H
  go_enter Try.func15, Try.ntmps15
  go_upto_region 1 with (fail)
  repeat (go_quiet (fail); go_upto_region 1 with (fail))
  go_cut [11] (fun v11 wc => ∃ (kq : Nat) (x11_2 : Bool), v11 = .bool x11_2 ∧ Aside0 (railplanref1_Gcd.j0 kq a0 a1 x11_2 = some (r1, r2)) ∧ Aside0 (kq ≤ k) ∧ Drawn0 w wc)
  case first =>
    have H := HC3.out
    clear HC3
    by_cases c4 : a0 < 0
    · rw [if_pos c4] at H
      have c4b0 : decide (a0 < 0) = true := decide_eq_true c4
      clear c4
      (first | rw [c4b0] | (simp only [i64_w, i32_w]; rw [c4b0]) | skip)
      have H' := Aside0.mk H
      clear H
      go_wp2
      repeat (go_quiet (fail); try go_wp2)
      go_meet
      case rel => exact ⟨_, (true), (by first | rfl | (simp; done) | (simp [*]; done)), H', ⟨by first | omega | exact Nat.le_refl _⟩, by repeat (first | exact Drawn0.refl _ | apply Drawn0.step)⟩
    · rw [if_neg c4] at H
      have c4b0 : decide (a0 < 0) = false := decide_eq_false c4
      clear c4
      (first | rw [c4b0] | (simp only [i64_w, i32_w]; rw [c4b0]) | skip)
      have H' := Aside0.mk H
      clear H
      go_wp2
      repeat (go_quiet (fail); try go_wp2)
      go_meet
      case rel => exact ⟨_, (decide (a1 < 0)), (by first | rfl | (simp; done) | (simp [*]; done)), H', ⟨by first | omega | exact Nat.le_refl _⟩, by repeat (first | exact Drawn0.refl _ | apply Drawn0.step)⟩
  case rest =>
    clear HC3
    try clear c1
    try clear p2
    try clear c4
    try clear c4b0
    obtain ⟨kq, x11_2, rfl, HA, HJ2, ⟨mc2, rfl⟩⟩ := hcut
    cases kq with
    | zero => exact absurd HA.out (by simp [railplanref1_Gcd.j0])
    | succ kj2 =>
      have H := HA.out
      clear HA
      simp only [railplanref1_Gcd.j0] at H
      by_cases c5 : x11_2 = true
      · subst c5
        have H1 : (some (0, 1)) = some (r1, r2) := by rw [if_pos rfl] at H; exact H
        clear H
        have H := H1
        clear H1
        simp only [Option.some.injEq, Prod.mk.injEq] at H
        obtain ⟨rfl, rfl⟩ := H
        go_wp2
        repeat (go_quiet (fail); try go_wp2)
        go_ret2
        exact ⟨by first | rfl | (simp; done) | (simp [*]; done), by repeat (first | exact Drawn0.refl _ | apply Drawn0.step)⟩
      · replace c5 := Bool.eq_false_iff.mpr c5
        subst c5
        have H1 : (railplanref1_Gcd.l0 kj2 a0 a1) = some (r1, r2) := by rw [if_neg (show ¬ (false = true) by decide)] at H; exact H
        clear H
        have H := H1
        clear H1
        have H' := Aside0.mk H
        clear H
        go_wp2
        repeat (go_quiet (fail); try go_wp2)
        go_loopg [0, 1] kj2 (fun kq v0 v1 w' => ∃ (x0_2 : Int) (x1_2 : Int), v0 = .int .i64 x0_2 ∧ v1 = .int .i64 x1_2 ∧ Aside0 (railplanref1_Gcd.l0 kq x0_2 x1_2 = some (r1, r2)) ∧ Aside0 (kq ≤ kj2) ∧ Drawn0 w w')
        case atStart => exact ⟨(a0), (a1), (by first | rfl | (simp; done) | (simp [*]; done)), (by first | rfl | (simp; done) | (simp [*]; done)), H', ⟨Nat.le_refl _⟩, by repeat (first | exact Drawn0.refl _ | apply Drawn0.step)⟩
        case round =>
          clear H'
          try clear c1
          try clear c2
          try clear p2
          try clear c4
          try clear c4b0
          try clear c5
          try clear p2
          obtain ⟨x0_2, x1_2, rfl, rfl, HA, HK2, ⟨m2, rfl⟩⟩ := hrel
          cases gk with
          | zero => exact absurd HA.out (by simp [railplanref1_Gcd.l0])
          | succ k2 =>
            have H := HA.out
            clear HA
            simp only [railplanref1_Gcd.l0] at H
            by_cases c6 : x1_2 > 0
            · rw [if_pos c6] at H
              have c6b0 : decide (0 < x1_2) = true := decide_eq_true c6
              clear c6
              by_cases c7 : x1_2 = 0
              · rw [if_pos c7] at H
                exact absurd H (by simp)
              · rw [if_neg c7] at H
                have c7b0 : (x1_2 == 0) = false := beq_eq_false_iff_ne.mpr c7
                have c7b1 : (x1_2 != 0) = true := bne_iff_ne.mpr c7
                have H' := Aside0.mk H
                clear H
                go_wp2
                repeat (go_quiet (fail); try go_wp2)
                go_roundg k2
                case measure => have := HJ2.out; have := HK2.out; omega
                case rel => exact ⟨(x1_2), (Int.tmod x0_2 x1_2), (by first | rfl | (simp; done) | (simp [*]; done)), (by first | rfl | (simp; done) | (simp [*]; done)), H', ⟨by have := HJ2.out; have := HK2.out; omega⟩, by repeat (first | exact Drawn0.refl _ | apply Drawn0.step)⟩
            · rw [if_neg c6] at H
              have c6b0 : decide (0 < x1_2) = false := decide_eq_false c6
              clear c6
              simp only [Option.some.injEq, Prod.mk.injEq] at H
              obtain ⟨rfl, rfl⟩ := H
              go_wp2
              repeat (go_quiet (fail); try go_wp2)
              go_ret2
              exact ⟨by first | rfl | (simp; done) | (simp [*]; done), by repeat (first | exact Drawn0.refl _ | apply Drawn0.step)⟩

/-! ### railplanlaw1_GcdDivides: function 4 -/
mutual
def railplanlaw1_GcdDivides.j0 : Nat → Int → Int → Int → Int → Int → Bool → Option (Bool)
  | 0, _, _, _, _, _, _ => none
  | k + 1, x0, x1, x2, x7, x8, x24 => if x24 = true then (if x8 = 1 then (some (x7 == 0)) else (some false)) else ((railplanref1_Gcd.f k x0 x1).bind fun bt103 => (if x8 = 0 then (if x7 = bt103.1 then (if x7 < 0 then (railplanlaw1_GcdDivides.j1 k x0 x1 x2 x7 true) else (if x7 = 0 then (if x0 = 0 then (if x1 = 0 then (if x7 > 0 then (none) else (railplanlaw1_GcdDivides.j1 k x0 x1 x2 x7 false)) else (railplanlaw1_GcdDivides.j1 k x0 x1 x2 x7 true)) else (railplanlaw1_GcdDivides.j1 k x0 x1 x2 x7 true)) else (if x7 > 0 then (if (Int.tmod x0 x7) = 0 then (railplanlaw1_GcdDivides.j1 k x0 x1 x2 x7 ((Int.tmod x1 x7) != 0)) else (railplanlaw1_GcdDivides.j1 k x0 x1 x2 x7 true)) else (railplanlaw1_GcdDivides.j1 k x0 x1 x2 x7 false)))) else (railplanlaw1_GcdDivides.j1 k x0 x1 x2 x7 true)) else (railplanlaw1_GcdDivides.j1 k x0 x1 x2 x7 true)))
def railplanlaw1_GcdDivides.j1 : Nat → Int → Int → Int → Int → Bool → Option (Bool)
  | 0, _, _, _, _, _ => none
  | k + 1, x0, x1, x2, x7, x75 => if x75 = true then (some false) else (if x0 > 1099511627776 then (some true) else (if x1 > 1099511627776 then (some true) else ((arith_Gcd.f k (wrap64 (x0 + (wrap64 ((wrap64 (x2)) * x1)))) x1).bind fun bt105 => (if bt105.2 = 0 then (some (bt105.1 == x7)) else (some false)))))
end
def railplanlaw1_GcdDivides.f (k : Nat) (a0 : Int) (a1 : Int) (a2 : Int) : Option (Bool) := (arith_Gcd.f k a0 a1).bind fun bt101 => (if a0 < 0 then (railplanlaw1_GcdDivides.j0 k a0 a1 a2 bt101.1 bt101.2 true) else (railplanlaw1_GcdDivides.j0 k a0 a1 a2 bt101.1 bt101.2 (decide (a1 < 0))))
theorem railplanlaw1_GcdDivides.mono_l : ∀ k, (∀ y0 y1 y2 y3 y4 y5, LeO (railplanlaw1_GcdDivides.j0 k y0 y1 y2 y3 y4 y5) (railplanlaw1_GcdDivides.j0 (k + 1) y0 y1 y2 y3 y4 y5)) ∧ (∀ y0 y1 y2 y3 y4, LeO (railplanlaw1_GcdDivides.j1 k y0 y1 y2 y3 y4) (railplanlaw1_GcdDivides.j1 (k + 1) y0 y1 y2 y3 y4))
  | 0 => ⟨fun _ _ _ _ _ _ r h => by simp [railplanlaw1_GcdDivides.j0] at h, fun _ _ _ _ _ r h => by simp [railplanlaw1_GcdDivides.j1] at h⟩
  | k + 1 => by
    obtain ⟨ih0, ih1⟩ := railplanlaw1_GcdDivides.mono_l k
    refine ⟨?_, ?_⟩
    · intro y0 y1 y2 y3 y4 y5
      unfold railplanlaw1_GcdDivides.j0
      repeat' first
      | (with_reducible exact ih0 _ _ _ _ _ _)
      | (with_reducible exact ih1 _ _ _ _ _)
      | (with_reducible exact arith_Gcd.mono _ _ _)
      | (with_reducible exact railplanref1_Gcd.mono _ _ _)
      | (with_reducible exact LeO.refl _)
      | (with_reducible exact LeO.none _)
      | (with_reducible refine LeO.ite ?_ ?_)
      | (with_reducible refine LeO.bind ?_ (fun _ => ?_))
      | exact ih0 _ _ _ _ _ _
      | exact ih1 _ _ _ _ _
      | exact arith_Gcd.mono _ _ _
      | exact railplanref1_Gcd.mono _ _ _
      | exact LeO.none _
      | refine LeO.ite ?_ ?_
      | refine LeO.bind ?_ (fun _ => ?_)
    · intro y0 y1 y2 y3 y4
      unfold railplanlaw1_GcdDivides.j1
      repeat' first
      | (with_reducible exact ih0 _ _ _ _ _ _)
      | (with_reducible exact ih1 _ _ _ _ _)
      | (with_reducible exact arith_Gcd.mono _ _ _)
      | (with_reducible exact railplanref1_Gcd.mono _ _ _)
      | (with_reducible exact LeO.refl _)
      | (with_reducible exact LeO.none _)
      | (with_reducible refine LeO.ite ?_ ?_)
      | (with_reducible refine LeO.bind ?_ (fun _ => ?_))
      | exact ih0 _ _ _ _ _ _
      | exact ih1 _ _ _ _ _
      | exact arith_Gcd.mono _ _ _
      | exact railplanref1_Gcd.mono _ _ _
      | exact LeO.none _
      | refine LeO.ite ?_ ?_
      | refine LeO.bind ?_ (fun _ => ?_)
theorem railplanlaw1_GcdDivides.mono : ∀ a0 a1 a2 k, LeO (railplanlaw1_GcdDivides.f k a0 a1 a2) (railplanlaw1_GcdDivides.f (k + 1) a0 a1 a2) := by
  intro a0 a1 a2 k
  obtain ⟨ih0, ih1⟩ := railplanlaw1_GcdDivides.mono_l k
  unfold railplanlaw1_GcdDivides.f
  repeat' first
      | (with_reducible exact ih0 _ _ _ _ _ _)
      | (with_reducible exact ih1 _ _ _ _ _)
      | (with_reducible exact arith_Gcd.mono _ _ _)
      | (with_reducible exact railplanref1_Gcd.mono _ _ _)
      | (with_reducible exact LeO.refl _)
      | (with_reducible exact LeO.none _)
      | (with_reducible refine LeO.ite ?_ ?_)
      | (with_reducible refine LeO.bind ?_ (fun _ => ?_))
      | exact ih0 _ _ _ _ _ _
      | exact ih1 _ _ _ _ _
      | exact arith_Gcd.mono _ _ _
      | exact railplanref1_Gcd.mono _ _ _
      | exact LeO.none _
      | refine LeO.ite ?_ ?_
      | refine LeO.bind ?_ (fun _ => ?_)
set_option maxHeartbeats 8000000 in
set_option maxRecDepth 100000 in
theorem railplanlaw1_GcdDivides.calls (k : Nat) (a0 : Int) (a1 : Int) (a2 : Int) (r : Bool) (w : World) (h : railplanlaw1_GcdDivides.f k a0 a1 a2 = some r) :
    Calls Try.prog 4 #[.int .i64 a0, .int .i64 a1, .int .u8 a2] w fun e w' => e = .returned (.bool r) ∧ Drawn0 w w' := by
  have H : ((arith_Gcd.f k a0 a1).bind fun bt101 => (if a0 < 0 then (railplanlaw1_GcdDivides.j0 k a0 a1 a2 bt101.1 bt101.2 true) else (railplanlaw1_GcdDivides.j0 k a0 a1 a2 bt101.1 bt101.2 (decide (a1 < 0))))) = some r := h
  clear h
  replace H := Option.bind_eq_some_iff.mp H
  obtain ⟨⟨t101, t102⟩, A40, H⟩ := H
  replace H : (if a0 < 0 then (railplanlaw1_GcdDivides.j0 k a0 a1 a2 t101 t102 true) else (railplanlaw1_GcdDivides.j0 k a0 a1 a2 t101 t102 (decide (a1 < 0)))) = some r := H
  have A4 := Aside0.mk A40
  clear A40
  have HC5 := Aside0.mk H
  clear H
  go_enter Try.func4, Try.ntmps4
  go_upto_region 2 with (first | ((with_reducible refine gate_callee (f := 14) rfl ?_); refine goesL_ (some 16) rfl rfl Try.func14 (by kernel_rfl) rfl #[.int .i64 a0, .int .i64 a1] rfl (by (try simp only [List.map_toArray, List.map_cons, List.map_nil]); first | done | rfl | (simp only [List.length_drop, List.length_take]; rfl)) ?_; (with_reducible refine (arith_Gcd.calls k a0 a1 t101 t102 _ A4.out).mono ?_); rintro e w' ⟨rfl, ⟨nd, rfl⟩⟩; refine ⟨_, rfl, ?_⟩))
  (try simp only [Act.put, List.setIfInBounds_toArray, List.set_cons_zero, List.set_cons_succ])
  go_cut [24] (fun v24 wc => ∃ (kq : Nat) (x24_4 : Bool), v24 = .bool x24_4 ∧ Aside0 (railplanlaw1_GcdDivides.j0 kq a0 a1 a2 t101 t102 x24_4 = some r) ∧ Aside0 (kq ≤ k) ∧ Drawn0 w wc)
  case first =>
    have H := HC5.out
    clear HC5
    by_cases c6 : a0 < 0
    · rw [if_pos c6] at H
      have c6b0 : decide (a0 < 0) = true := decide_eq_true c6
      clear c6
      (first | rw [c6b0] | (simp only [i64_w, i32_w]; rw [c6b0]) | skip)
      have H' := Aside0.mk H
      clear H
      go_wp2
      go_meet
      case rel => exact ⟨_, (true), (by first | rfl | (simp; done) | (simp [*]; done)), H', ⟨by first | omega | exact Nat.le_refl _⟩, by repeat (first | exact Drawn0.refl _ | apply Drawn0.step)⟩
    · rw [if_neg c6] at H
      have c6b0 : decide (a0 < 0) = false := decide_eq_false c6
      clear c6
      (first | rw [c6b0] | (simp only [i64_w, i32_w]; rw [c6b0]) | skip)
      have H' := Aside0.mk H
      clear H
      go_wp2
      go_meet
      case rel => exact ⟨_, (decide (a1 < 0)), (by first | rfl | (simp; done) | (simp [*]; done)), H', ⟨by first | omega | exact Nat.le_refl _⟩, by repeat (first | exact Drawn0.refl _ | apply Drawn0.step)⟩
  case rest =>
    clear HC5
    try clear c1
    try clear p2
    try clear c4
    try clear c6
    try clear c6b0
    obtain ⟨kq, x24_4, rfl, HA, HJ4, ⟨mc4, rfl⟩⟩ := hcut
    cases kq with
    | zero => exact absurd HA.out (by simp [railplanlaw1_GcdDivides.j0])
    | succ kj4 =>
      have H := HA.out
      clear HA
      simp only [railplanlaw1_GcdDivides.j0] at H
      by_cases c7 : x24_4 = true
      · subst c7
        have H1 : (if t102 = 1 then (some (t101 == 0)) else (some false)) = some r := by rw [if_pos rfl] at H; exact H
        clear H
        have H := H1
        clear H1
        by_cases c8 : t102 = 1
        · rw [if_pos c8] at H
          have c8b0 : (t102 == 1) = true := beq_iff_eq.mpr c8
          have c8b1 : (t102 != 1) = false := bne_eq_false_iff_eq.mpr c8
          clear c8
          obtain rfl := Option.some.inj H
          go_wp2
          go_ret
          exact ⟨by first | rfl | (simp; done) | (simp [*]; done), by repeat (first | exact Drawn0.refl _ | apply Drawn0.step)⟩
        · rw [if_neg c8] at H
          have c8b0 : (t102 == 1) = false := beq_eq_false_iff_ne.mpr c8
          have c8b1 : (t102 != 1) = true := bne_iff_ne.mpr c8
          obtain rfl := Option.some.inj H
          go_wp2
          go_ret
          exact ⟨by first | rfl | (simp; done) | (simp [*]; done), by repeat (first | exact Drawn0.refl _ | apply Drawn0.step)⟩
      · replace c7 := Bool.eq_false_iff.mpr c7
        subst c7
        have H1 : ((railplanref1_Gcd.f kj4 a0 a1).bind fun bt103 => (if t102 = 0 then (if t101 = bt103.1 then (if t101 < 0 then (railplanlaw1_GcdDivides.j1 kj4 a0 a1 a2 t101 true) else (if t101 = 0 then (if a0 = 0 then (if a1 = 0 then (if t101 > 0 then (none) else (railplanlaw1_GcdDivides.j1 kj4 a0 a1 a2 t101 false)) else (railplanlaw1_GcdDivides.j1 kj4 a0 a1 a2 t101 true)) else (railplanlaw1_GcdDivides.j1 kj4 a0 a1 a2 t101 true)) else (if t101 > 0 then (if (Int.tmod a0 t101) = 0 then (railplanlaw1_GcdDivides.j1 kj4 a0 a1 a2 t101 ((Int.tmod a1 t101) != 0)) else (railplanlaw1_GcdDivides.j1 kj4 a0 a1 a2 t101 true)) else (railplanlaw1_GcdDivides.j1 kj4 a0 a1 a2 t101 false)))) else (railplanlaw1_GcdDivides.j1 kj4 a0 a1 a2 t101 true)) else (railplanlaw1_GcdDivides.j1 kj4 a0 a1 a2 t101 true))) = some r := by rw [if_neg (show ¬ (false = true) by decide)] at H; exact H
        clear H
        have H := H1
        clear H1
        replace H := Option.bind_eq_some_iff.mp H
        obtain ⟨⟨t103, t104⟩, A90, H⟩ := H
        replace H : (if t102 = 0 then (if t101 = t103 then (if t101 < 0 then (railplanlaw1_GcdDivides.j1 kj4 a0 a1 a2 t101 true) else (if t101 = 0 then (if a0 = 0 then (if a1 = 0 then (if t101 > 0 then (none) else (railplanlaw1_GcdDivides.j1 kj4 a0 a1 a2 t101 false)) else (railplanlaw1_GcdDivides.j1 kj4 a0 a1 a2 t101 true)) else (railplanlaw1_GcdDivides.j1 kj4 a0 a1 a2 t101 true)) else (if t101 > 0 then (if (Int.tmod a0 t101) = 0 then (railplanlaw1_GcdDivides.j1 kj4 a0 a1 a2 t101 ((Int.tmod a1 t101) != 0)) else (railplanlaw1_GcdDivides.j1 kj4 a0 a1 a2 t101 true)) else (railplanlaw1_GcdDivides.j1 kj4 a0 a1 a2 t101 false)))) else (railplanlaw1_GcdDivides.j1 kj4 a0 a1 a2 t101 true)) else (railplanlaw1_GcdDivides.j1 kj4 a0 a1 a2 t101 true)) = some r := H
        have A9 := Aside0.mk A90
        clear A90
        have HC10 := Aside0.mk H
        clear H
        go_upto_region 5 with (first | ((with_reducible refine gate_callee (f := 15) rfl ?_); refine goesL_ (some 34) rfl rfl Try.func15 (by kernel_rfl) rfl #[.int .i64 a0, .int .i64 a1] rfl (by (try simp only [List.map_toArray, List.map_cons, List.map_nil]); first | done | rfl | (simp only [List.length_drop, List.length_take]; rfl)) ?_; (with_reducible refine (railplanref1_Gcd.calls kj4 a0 a1 t103 t104 _ A9.out).mono ?_); rintro e w' ⟨rfl, ⟨nd, rfl⟩⟩; refine ⟨_, rfl, ?_⟩))
        (try simp only [Act.put, List.setIfInBounds_toArray, List.set_cons_zero, List.set_cons_succ])
        go_cut [75] (fun v75 wc => ∃ (kq : Nat) (x75_9 : Bool), v75 = .bool x75_9 ∧ Aside0 (railplanlaw1_GcdDivides.j1 kq a0 a1 a2 t101 x75_9 = some r) ∧ Aside0 (kq ≤ kj4) ∧ Drawn0 w wc)
        case first =>
          have H := HC10.out
          clear HC10
          by_cases c11 : t102 = 0
          · rw [if_pos c11] at H
            have c11b0 : (t102 == 0) = true := beq_iff_eq.mpr c11
            have c11b1 : (t102 != 0) = false := bne_eq_false_iff_eq.mpr c11
            clear c11
            (first | rw [c11b0] | (simp only [i64_w, i32_w]; rw [c11b0]) | skip)
            by_cases c12 : t101 = t103
            · rw [if_pos c12] at H
              have c12b0 : (t101 == t103) = true := beq_iff_eq.mpr c12
              have c12b1 : (t101 != t103) = false := bne_eq_false_iff_eq.mpr c12
              clear c12
              by_cases c13 : t101 < 0
              · rw [if_pos c13] at H
                have c13b0 : decide (t101 < 0) = true := decide_eq_true c13
                clear c13
                have H' := Aside0.mk H
                clear H
                go_wp2
                go_meet
                case rel => exact ⟨_, (true), (by first | rfl | (simp; done) | (simp [*]; done)), H', ⟨by have := HJ4.out; first | omega | exact Nat.le_refl _⟩, by repeat (first | exact Drawn0.refl _ | apply Drawn0.step)⟩
              · rw [if_neg c13] at H
                have c13b0 : decide (t101 < 0) = false := decide_eq_false c13
                clear c13
                by_cases c14 : t101 = 0
                · rw [if_pos c14] at H
                  have c14b0 : (t101 == 0) = true := beq_iff_eq.mpr c14
                  have c14b1 : (t101 != 0) = false := bne_eq_false_iff_eq.mpr c14
                  clear c14
                  by_cases c15 : a0 = 0
                  · rw [if_pos c15] at H
                    have c15b0 : (a0 == 0) = true := beq_iff_eq.mpr c15
                    have c15b1 : (a0 != 0) = false := bne_eq_false_iff_eq.mpr c15
                    clear c15
                    by_cases c16 : a1 = 0
                    · rw [if_pos c16] at H
                      have c16b0 : (a1 == 0) = true := beq_iff_eq.mpr c16
                      have c16b1 : (a1 != 0) = false := bne_eq_false_iff_eq.mpr c16
                      clear c16
                      by_cases c17 : t101 > 0
                      · rw [if_pos c17] at H
                        exact absurd H (by simp)
                      · rw [if_neg c17] at H
                        have c17b0 : decide (0 < t101) = false := decide_eq_false c17
                        clear c17
                        have H' := Aside0.mk H
                        clear H
                        go_wp2
                        go_meet
                        case rel => exact ⟨_, (false), (by first | rfl | (simp; done) | (simp [*]; done)), H', ⟨by have := HJ4.out; first | omega | exact Nat.le_refl _⟩, by repeat (first | exact Drawn0.refl _ | apply Drawn0.step)⟩
                    · rw [if_neg c16] at H
                      have c16b0 : (a1 == 0) = false := beq_eq_false_iff_ne.mpr c16
                      have c16b1 : (a1 != 0) = true := bne_iff_ne.mpr c16
                      have H' := Aside0.mk H
                      clear H
                      go_wp2
                      go_meet
                      case rel => exact ⟨_, (true), (by first | rfl | (simp; done) | (simp [*]; done)), H', ⟨by have := HJ4.out; first | omega | exact Nat.le_refl _⟩, by repeat (first | exact Drawn0.refl _ | apply Drawn0.step)⟩
                  · rw [if_neg c15] at H
                    have c15b0 : (a0 == 0) = false := beq_eq_false_iff_ne.mpr c15
                    have c15b1 : (a0 != 0) = true := bne_iff_ne.mpr c15
                    have H' := Aside0.mk H
                    clear H
                    go_wp2
                    go_meet
                    case rel => exact ⟨_, (true), (by first | rfl | (simp; done) | (simp [*]; done)), H', ⟨by have := HJ4.out; first | omega | exact Nat.le_refl _⟩, by repeat (first | exact Drawn0.refl _ | apply Drawn0.step)⟩
                · rw [if_neg c14] at H
                  have c14b0 : (t101 == 0) = false := beq_eq_false_iff_ne.mpr c14
                  have c14b1 : (t101 != 0) = true := bne_iff_ne.mpr c14
                  by_cases c18 : t101 > 0
                  · rw [if_pos c18] at H
                    have c18b0 : decide (0 < t101) = true := decide_eq_true c18
                    clear c18
                    by_cases c19 : (Int.tmod a0 t101) = 0
                    · rw [if_pos c19] at H
                      have c19b0 : ((Int.tmod a0 t101) == 0) = true := beq_iff_eq.mpr c19
                      have c19b1 : ((Int.tmod a0 t101) != 0) = false := bne_eq_false_iff_eq.mpr c19
                      clear c19
                      have H' := Aside0.mk H
                      clear H
                      go_wp2
                      go_meet
                      case rel => exact ⟨_, (((Int.tmod a1 t101) != 0)), (by first | rfl | (simp; done) | (simp [*]; done)), H', ⟨by have := HJ4.out; first | omega | exact Nat.le_refl _⟩, by repeat (first | exact Drawn0.refl _ | apply Drawn0.step)⟩
                    · rw [if_neg c19] at H
                      have c19b0 : ((Int.tmod a0 t101) == 0) = false := beq_eq_false_iff_ne.mpr c19
                      have c19b1 : ((Int.tmod a0 t101) != 0) = true := bne_iff_ne.mpr c19
                      have H' := Aside0.mk H
                      clear H
                      go_wp2
                      go_meet
                      case rel => exact ⟨_, (true), (by first | rfl | (simp; done) | (simp [*]; done)), H', ⟨by have := HJ4.out; first | omega | exact Nat.le_refl _⟩, by repeat (first | exact Drawn0.refl _ | apply Drawn0.step)⟩
                  · rw [if_neg c18] at H
                    have c18b0 : decide (0 < t101) = false := decide_eq_false c18
                    clear c18
                    have H' := Aside0.mk H
                    clear H
                    go_wp2
                    go_meet
                    case rel => exact ⟨_, (false), (by first | rfl | (simp; done) | (simp [*]; done)), H', ⟨by have := HJ4.out; first | omega | exact Nat.le_refl _⟩, by repeat (first | exact Drawn0.refl _ | apply Drawn0.step)⟩
            · rw [if_neg c12] at H
              have c12b0 : (t101 == t103) = false := beq_eq_false_iff_ne.mpr c12
              have c12b1 : (t101 != t103) = true := bne_iff_ne.mpr c12
              have H' := Aside0.mk H
              clear H
              go_wp2
              go_meet
              case rel => exact ⟨_, (true), (by first | rfl | (simp; done) | (simp [*]; done)), H', ⟨by have := HJ4.out; first | omega | exact Nat.le_refl _⟩, by repeat (first | exact Drawn0.refl _ | apply Drawn0.step)⟩
          · rw [if_neg c11] at H
            have c11b0 : (t102 == 0) = false := beq_eq_false_iff_ne.mpr c11
            have c11b1 : (t102 != 0) = true := bne_iff_ne.mpr c11
            (first | rw [c11b0] | (simp only [i64_w, i32_w]; rw [c11b0]) | skip)
            have H' := Aside0.mk H
            clear H
            go_wp2
            go_meet
            case rel => exact ⟨_, (true), (by first | rfl | (simp; done) | (simp [*]; done)), H', ⟨by have := HJ4.out; first | omega | exact Nat.le_refl _⟩, by repeat (first | exact Drawn0.refl _ | apply Drawn0.step)⟩
        case rest =>
          clear HC10
          try clear c1
          try clear p2
          try clear c4
          try clear c6
          try clear c6b0
          try clear c7
          try clear c8
          try clear c8b0
          try clear c8b1
          try clear c11
          try clear c11b0
          try clear c11b1
          try clear c12
          try clear c12b0
          try clear c12b1
          try clear c13
          try clear c13b0
          try clear c14
          try clear c14b0
          try clear c14b1
          try clear c15
          try clear c15b0
          try clear c15b1
          try clear c16
          try clear c16b0
          try clear c16b1
          try clear c17
          try clear c17b0
          try clear c18
          try clear c18b0
          try clear c19
          try clear c19b0
          try clear c19b1
          try clear p2
          obtain ⟨kq, x75_9, rfl, HA, HJ9, ⟨mc9, rfl⟩⟩ := hcut
          cases kq with
          | zero => exact absurd HA.out (by simp [railplanlaw1_GcdDivides.j1])
          | succ kj9 =>
            have H := HA.out
            clear HA
            simp only [railplanlaw1_GcdDivides.j1] at H
            by_cases c20 : x75_9 = true
            · subst c20
              have H1 : (some false) = some r := by rw [if_pos rfl] at H; exact H
              clear H
              have H := H1
              clear H1
              obtain rfl := Option.some.inj H
              go_wp2
              go_ret
              exact ⟨by first | rfl | (simp; done) | (simp [*]; done), by repeat (first | exact Drawn0.refl _ | apply Drawn0.step)⟩
            · replace c20 := Bool.eq_false_iff.mpr c20
              subst c20
              have H1 : (if a0 > 1099511627776 then (some true) else (if a1 > 1099511627776 then (some true) else ((arith_Gcd.f kj9 (wrap64 (a0 + (wrap64 ((wrap64 (a2)) * a1)))) a1).bind fun bt105 => (if bt105.2 = 0 then (some (bt105.1 == t101)) else (some false))))) = some r := by rw [if_neg (show ¬ (false = true) by decide)] at H; exact H
              clear H
              have H := H1
              clear H1
              by_cases c21 : a0 > 1099511627776
              · rw [if_pos c21] at H
                have c21b0 : decide (1099511627776 < a0) = true := decide_eq_true c21
                clear c21
                obtain rfl := Option.some.inj H
                go_wp2
                go_ret
                exact ⟨by first | rfl | (simp; done) | (simp [*]; done), by repeat (first | exact Drawn0.refl _ | apply Drawn0.step)⟩
              · rw [if_neg c21] at H
                have c21b0 : decide (1099511627776 < a0) = false := decide_eq_false c21
                clear c21
                by_cases c22 : a1 > 1099511627776
                · rw [if_pos c22] at H
                  have c22b0 : decide (1099511627776 < a1) = true := decide_eq_true c22
                  clear c22
                  obtain rfl := Option.some.inj H
                  go_wp2
                  go_ret
                  exact ⟨by first | rfl | (simp; done) | (simp [*]; done), by repeat (first | exact Drawn0.refl _ | apply Drawn0.step)⟩
                · rw [if_neg c22] at H
                  have c22b0 : decide (1099511627776 < a1) = false := decide_eq_false c22
                  clear c22
                  replace H := Option.bind_eq_some_iff.mp H
                  obtain ⟨⟨t105, t106⟩, A230, H⟩ := H
                  replace H : (if t106 = 0 then (some (t105 == t101)) else (some false)) = some r := H
                  have A23 := Aside0.mk A230
                  clear A230
                  by_cases c24 : t106 = 0
                  · rw [if_pos c24] at H
                    have c24b0 : (t106 == 0) = true := beq_iff_eq.mpr c24
                    have c24b1 : (t106 != 0) = false := bne_eq_false_iff_eq.mpr c24
                    clear c24
                    obtain rfl := Option.some.inj H
                    go_wp2_with (first | ((with_reducible refine gate_callee (f := 14) rfl ?_); refine goesL_ (some 90) rfl rfl Try.func14 (by kernel_rfl) rfl #[.int .i64 (wrap64 (a0 + (wrap64 ((wrap64 (a2)) * a1)))), .int .i64 a1] rfl (by (try simp only [List.map_toArray, List.map_cons, List.map_nil]); first | done | rfl | (simp only [List.length_drop, List.length_take]; rfl)) ?_; (with_reducible refine (arith_Gcd.calls kj9 (wrap64 (a0 + (wrap64 ((wrap64 (a2)) * a1)))) a1 t105 t106 _ A23.out).mono ?_); rintro e w' ⟨rfl, ⟨nd, rfl⟩⟩; refine ⟨_, rfl, ?_⟩))
                    go_ret
                    exact ⟨by first | rfl | (simp; done) | (simp [*]; done), by repeat (first | exact Drawn0.refl _ | apply Drawn0.step)⟩
                  · rw [if_neg c24] at H
                    have c24b0 : (t106 == 0) = false := beq_eq_false_iff_ne.mpr c24
                    have c24b1 : (t106 != 0) = true := bne_iff_ne.mpr c24
                    obtain rfl := Option.some.inj H
                    go_wp2_with (first | ((with_reducible refine gate_callee (f := 14) rfl ?_); refine goesL_ (some 90) rfl rfl Try.func14 (by kernel_rfl) rfl #[.int .i64 (wrap64 (a0 + (wrap64 ((wrap64 (a2)) * a1)))), .int .i64 a1] rfl (by (try simp only [List.map_toArray, List.map_cons, List.map_nil]); first | done | rfl | (simp only [List.length_drop, List.length_take]; rfl)) ?_; (with_reducible refine (arith_Gcd.calls kj9 (wrap64 (a0 + (wrap64 ((wrap64 (a2)) * a1)))) a1 t105 t106 _ A23.out).mono ?_); rintro e w' ⟨rfl, ⟨nd, rfl⟩⟩; refine ⟨_, rfl, ?_⟩))
                    go_ret
                    exact ⟨by first | rfl | (simp; done) | (simp [*]; done), by repeat (first | exact Drawn0.refl _ | apply Drawn0.step)⟩

/-- THE ONE PURE STATEMENT of railplanlaw1_GcdDivides: yours. -/
def railplanlaw1_GcdDivides.Pure : Prop := ∀ (a0 : Int) (a1 : Int) (a2 : Int), (Lit.int .i64 a0).wf = true → (Lit.int .i64 a1).wf = true → (Lit.int .u8 a2).wf = true → ∃ k, railplanlaw1_GcdDivides.f k a0 a1 a2 = some true
theorem railplanlaw1_GcdDivides.walk (P : railplanlaw1_GcdDivides.Pure) (a0 : Int) (a1 : Int) (a2 : Int) (w : World) (w0 : (Lit.int .i64 a0).wf = true) (w1 : (Lit.int .i64 a1).wf = true) (w2 : (Lit.int .u8 a2).wf = true) :
    Calls Try.prog 4 #[.int .i64 a0, .int .i64 a1, .int .u8 a2] w fun e w' => e = .returned (.bool true) ∧ Below w.heap.size w w' := by
  obtain ⟨k, h⟩ := P a0 a1 a2 w0 w1 w2
  refine (railplanlaw1_GcdDivides.calls k a0 a1 a2 true w h).mono ?_
  rintro e w' ⟨rfl, hd⟩
  exact ⟨rfl, hd.below⟩

end Go.Proofs.Ytfgbkfgbgcfpbaa.PGcdDivides
