-- PRINTED BY print.sh 35421559b90ae4d0a3588c463048766b98c2df88dd9212a6774a882060cdf62d: not written by this session
import Derived.Test.YtfgbkfgbgcfpbaaPDivisionsBracketx0
namespace Go.Proofs.Ytfgbkfgbgcfpbaa.PDivisionsBracket
open Go.RowKit Go.Proofs.YtfgbkfgbgcfpbaaW.PrintWords Go.Proofs.YtfgbkfgbgcfpbaaW.PrintLast Go.Proofs.YtfgbkfgbgcfpbaaW.PrintMore
attribute [local go_sem] max2_int min2_int max_two min_two max_three min_three max_four min_four   -- for this text's walks alone
set_option linter.unusedVariables false
set_option linter.unusedSimpArgs false

/-! ### arith_FloorDiv: function 19 -/
def arith_FloorDiv.f (a0 : Int) (a1 : Int) : Option (Int × Int) := if a1 < 1 then (some (0, 1)) else (if a1 = 0 then (none) else (if (Int.tmod a0 a1) < 0 then (some (wrap64 ((wrap64 (Int.tdiv a0 a1)) - 1), 0)) else (some (wrap64 (Int.tdiv a0 a1), 0))))
set_option maxHeartbeats 8000000 in
set_option maxRecDepth 100000 in
theorem arith_FloorDiv.calls (a0 : Int) (a1 : Int) (r1 : Int) (r2 : Int) (w : World) (h : arith_FloorDiv.f a0 a1 = some (r1, r2)) :
    Calls Try.prog 19 #[.int .i64 a0, .int .i64 a1] w fun e w' => e = .returned (.tuple #[.int .i64 r1, .int .i64 r2]) ∧ Drawn0 w w' := by
  have H : (if a1 < 1 then (some (0, 1)) else (if a1 = 0 then (none) else (if (Int.tmod a0 a1) < 0 then (some (wrap64 ((wrap64 (Int.tdiv a0 a1)) - 1), 0)) else (some (wrap64 (Int.tdiv a0 a1), 0))))) = some (r1, r2) := h
  clear h
  by_cases c3 : a1 < 1
  · rw [if_pos c3] at H
    have c3b0 : decide (a1 < 1) = true := decide_eq_true c3
    clear c3
    simp only [Option.some.injEq, Prod.mk.injEq] at H
    obtain ⟨rfl, rfl⟩ := H
    go_enter Try.func19, Try.ntmps19
    go_wp2
    go_ret2
    exact ⟨by first | rfl | (simp; done) | (simp [*]; done), by repeat (first | exact Drawn0.refl _ | apply Drawn0.step)⟩
  · rw [if_neg c3] at H
    have c3b0 : decide (a1 < 1) = false := decide_eq_false c3
    clear c3
    by_cases c4 : a1 = 0
    · rw [if_pos c4] at H
      exact absurd H (by simp)
    · rw [if_neg c4] at H
      have c4b0 : (a1 == 0) = false := beq_eq_false_iff_ne.mpr c4
      have c4b1 : (a1 != 0) = true := bne_iff_ne.mpr c4
      by_cases c5 : (Int.tmod a0 a1) < 0
      · rw [if_pos c5] at H
        have c5b0 : decide ((Int.tmod a0 a1) < 0) = true := decide_eq_true c5
        clear c5
        simp only [Option.some.injEq, Prod.mk.injEq] at H
        obtain ⟨rfl, rfl⟩ := H
        go_enter Try.func19, Try.ntmps19
        go_wp2
        go_ret2
        exact ⟨by first | rfl | (simp; done) | (simp [*]; done), by repeat (first | exact Drawn0.refl _ | apply Drawn0.step)⟩
      · rw [if_neg c5] at H
        have c5b0 : decide ((Int.tmod a0 a1) < 0) = false := decide_eq_false c5
        clear c5
        simp only [Option.some.injEq, Prod.mk.injEq] at H
        obtain ⟨rfl, rfl⟩ := H
        go_enter Try.func19, Try.ntmps19
        go_wp2
        go_ret2
        exact ⟨by first | rfl | (simp; done) | (simp [*]; done), by repeat (first | exact Drawn0.refl _ | apply Drawn0.step)⟩

/-! ### arith_CeilDiv: function 20 -/
def arith_CeilDiv.f (a0 : Int) (a1 : Int) : Option (Int × Int) := if a1 < 1 then (some (0, 1)) else (if a1 = 0 then (none) else (if (Int.tmod a0 a1) > 0 then (some (wrap64 ((wrap64 (Int.tdiv a0 a1)) + 1), 0)) else (some (wrap64 (Int.tdiv a0 a1), 0))))
set_option maxHeartbeats 8000000 in
set_option maxRecDepth 100000 in
theorem arith_CeilDiv.calls (a0 : Int) (a1 : Int) (r1 : Int) (r2 : Int) (w : World) (h : arith_CeilDiv.f a0 a1 = some (r1, r2)) :
    Calls Try.prog 20 #[.int .i64 a0, .int .i64 a1] w fun e w' => e = .returned (.tuple #[.int .i64 r1, .int .i64 r2]) ∧ Drawn0 w w' := by
  have H : (if a1 < 1 then (some (0, 1)) else (if a1 = 0 then (none) else (if (Int.tmod a0 a1) > 0 then (some (wrap64 ((wrap64 (Int.tdiv a0 a1)) + 1), 0)) else (some (wrap64 (Int.tdiv a0 a1), 0))))) = some (r1, r2) := h
  clear h
  by_cases c3 : a1 < 1
  · rw [if_pos c3] at H
    have c3b0 : decide (a1 < 1) = true := decide_eq_true c3
    clear c3
    simp only [Option.some.injEq, Prod.mk.injEq] at H
    obtain ⟨rfl, rfl⟩ := H
    go_enter Try.func20, Try.ntmps20
    go_wp2
    go_ret2
    exact ⟨by first | rfl | (simp; done) | (simp [*]; done), by repeat (first | exact Drawn0.refl _ | apply Drawn0.step)⟩
  · rw [if_neg c3] at H
    have c3b0 : decide (a1 < 1) = false := decide_eq_false c3
    clear c3
    by_cases c4 : a1 = 0
    · rw [if_pos c4] at H
      exact absurd H (by simp)
    · rw [if_neg c4] at H
      have c4b0 : (a1 == 0) = false := beq_eq_false_iff_ne.mpr c4
      have c4b1 : (a1 != 0) = true := bne_iff_ne.mpr c4
      by_cases c5 : (Int.tmod a0 a1) > 0
      · rw [if_pos c5] at H
        have c5b0 : decide (0 < (Int.tmod a0 a1)) = true := decide_eq_true c5
        clear c5
        simp only [Option.some.injEq, Prod.mk.injEq] at H
        obtain ⟨rfl, rfl⟩ := H
        go_enter Try.func20, Try.ntmps20
        go_wp2
        go_ret2
        exact ⟨by first | rfl | (simp; done) | (simp [*]; done), by repeat (first | exact Drawn0.refl _ | apply Drawn0.step)⟩
      · rw [if_neg c5] at H
        have c5b0 : decide (0 < (Int.tmod a0 a1)) = false := decide_eq_false c5
        clear c5
        simp only [Option.some.injEq, Prod.mk.injEq] at H
        obtain ⟨rfl, rfl⟩ := H
        go_enter Try.func20, Try.ntmps20
        go_wp2
        go_ret2
        exact ⟨by first | rfl | (simp; done) | (simp [*]; done), by repeat (first | exact Drawn0.refl _ | apply Drawn0.step)⟩

/-! ### railplanref1_Floor: function 21 -/
def railplanref1_Floor.f (a0 : Int) (a1 : Int) : Option (Int) := if a1 = 0 then (none) else (if (Int.tmod a0 a1) < 0 then (some (wrap64 ((wrap64 (Int.tdiv a0 a1)) - 1))) else (some (wrap64 (Int.tdiv a0 a1))))
set_option maxHeartbeats 8000000 in
set_option maxRecDepth 100000 in
theorem railplanref1_Floor.calls (a0 : Int) (a1 : Int) (r : Int) (w : World) (h : railplanref1_Floor.f a0 a1 = some r) :
    Calls Try.prog 21 #[.int .i64 a0, .int .i64 a1] w fun e w' => e = .returned (.int .i64 r) ∧ Drawn0 w w' := by
  have H : (if a1 = 0 then (none) else (if (Int.tmod a0 a1) < 0 then (some (wrap64 ((wrap64 (Int.tdiv a0 a1)) - 1))) else (some (wrap64 (Int.tdiv a0 a1))))) = some r := h
  clear h
  by_cases c3 : a1 = 0
  · rw [if_pos c3] at H
    exact absurd H (by simp)
  · rw [if_neg c3] at H
    have c3b0 : (a1 == 0) = false := beq_eq_false_iff_ne.mpr c3
    have c3b1 : (a1 != 0) = true := bne_iff_ne.mpr c3
    by_cases c4 : (Int.tmod a0 a1) < 0
    · rw [if_pos c4] at H
      have c4b0 : decide ((Int.tmod a0 a1) < 0) = true := decide_eq_true c4
      clear c4
      obtain rfl := Option.some.inj H
      go_enter Try.func21, Try.ntmps21
      go_wp2
      go_ret
      exact ⟨by first | rfl | (simp; done) | (simp [*]; done), by repeat (first | exact Drawn0.refl _ | apply Drawn0.step)⟩
    · rw [if_neg c4] at H
      have c4b0 : decide ((Int.tmod a0 a1) < 0) = false := decide_eq_false c4
      clear c4
      obtain rfl := Option.some.inj H
      go_enter Try.func21, Try.ntmps21
      go_wp2
      go_ret
      exact ⟨by first | rfl | (simp; done) | (simp [*]; done), by repeat (first | exact Drawn0.refl _ | apply Drawn0.step)⟩

/-! ### railplanref1_Ceil: function 22 -/
def railplanref1_Ceil.f (a0 : Int) (a1 : Int) : Option (Int) := if a1 = 0 then (none) else (if (Int.tmod a0 a1) > 0 then (some (wrap64 ((wrap64 (Int.tdiv a0 a1)) + 1))) else (some (wrap64 (Int.tdiv a0 a1))))
set_option maxHeartbeats 8000000 in
set_option maxRecDepth 100000 in
theorem railplanref1_Ceil.calls (a0 : Int) (a1 : Int) (r : Int) (w : World) (h : railplanref1_Ceil.f a0 a1 = some r) :
    Calls Try.prog 22 #[.int .i64 a0, .int .i64 a1] w fun e w' => e = .returned (.int .i64 r) ∧ Drawn0 w w' := by
  have H : (if a1 = 0 then (none) else (if (Int.tmod a0 a1) > 0 then (some (wrap64 ((wrap64 (Int.tdiv a0 a1)) + 1))) else (some (wrap64 (Int.tdiv a0 a1))))) = some r := h
  clear h
  by_cases c3 : a1 = 0
  · rw [if_pos c3] at H
    exact absurd H (by simp)
  · rw [if_neg c3] at H
    have c3b0 : (a1 == 0) = false := beq_eq_false_iff_ne.mpr c3
    have c3b1 : (a1 != 0) = true := bne_iff_ne.mpr c3
    by_cases c4 : (Int.tmod a0 a1) > 0
    · rw [if_pos c4] at H
      have c4b0 : decide (0 < (Int.tmod a0 a1)) = true := decide_eq_true c4
      clear c4
      obtain rfl := Option.some.inj H
      go_enter Try.func22, Try.ntmps22
      go_wp2
      go_ret
      exact ⟨by first | rfl | (simp; done) | (simp [*]; done), by repeat (first | exact Drawn0.refl _ | apply Drawn0.step)⟩
    · rw [if_neg c4] at H
      have c4b0 : decide (0 < (Int.tmod a0 a1)) = false := decide_eq_false c4
      clear c4
      obtain rfl := Option.some.inj H
      go_enter Try.func22, Try.ntmps22
      go_wp2
      go_ret
      exact ⟨by first | rfl | (simp; done) | (simp [*]; done), by repeat (first | exact Drawn0.refl _ | apply Drawn0.step)⟩

/-! ### railplanlaw1_DivisionsBracket: function 7 -/
def railplanlaw1_DivisionsBracket.f (a0 : Int) (a1 : Int) : Option (Bool) := (arith_FloorDiv.f a0 a1).bind fun bt101 => ((arith_CeilDiv.f a0 a1).bind fun bt103 => (if a1 < 1 then (if bt101.2 = 1 then (if bt103.2 = 1 then (if bt101.1 = 0 then (some (bt103.1 == 0)) else (some false)) else (some false)) else (some false)) else (if bt101.2 = 0 then (if bt103.2 = 0 then ((railplanref1_Floor.f a0 a1).bind fun t105 => (if bt101.1 = t105 then ((railplanref1_Ceil.f a0 a1).bind fun t106 => (if bt103.1 = t106 then (if a1 = 0 then (none) else (if ((bt103.1 == bt101.1) == ((Int.tmod a0 a1) == 0)) = true then (some (decide ((wrap64 (bt103.1 - bt101.1)) ≤ 1))) else (some false))) else (some false))) else (some false))) else (some false)) else (some false))))
set_option maxHeartbeats 8000000 in
set_option maxRecDepth 100000 in
theorem railplanlaw1_DivisionsBracket.calls (a0 : Int) (a1 : Int) (r : Bool) (w : World) (h : railplanlaw1_DivisionsBracket.f a0 a1 = some r) :
    Calls Try.prog 7 #[.int .i64 a0, .int .i64 a1] w fun e w' => e = .returned (.bool r) ∧ Drawn0 w w' := by
  have H : ((arith_FloorDiv.f a0 a1).bind fun bt101 => ((arith_CeilDiv.f a0 a1).bind fun bt103 => (if a1 < 1 then (if bt101.2 = 1 then (if bt103.2 = 1 then (if bt101.1 = 0 then (some (bt103.1 == 0)) else (some false)) else (some false)) else (some false)) else (if bt101.2 = 0 then (if bt103.2 = 0 then ((railplanref1_Floor.f a0 a1).bind fun t105 => (if bt101.1 = t105 then ((railplanref1_Ceil.f a0 a1).bind fun t106 => (if bt103.1 = t106 then (if a1 = 0 then (none) else (if ((bt103.1 == bt101.1) == ((Int.tmod a0 a1) == 0)) = true then (some (decide ((wrap64 (bt103.1 - bt101.1)) ≤ 1))) else (some false))) else (some false))) else (some false))) else (some false)) else (some false))))) = some r := h
  clear h
  replace H := Option.bind_eq_some_iff.mp H
  obtain ⟨⟨t101, t102⟩, A30, H⟩ := H
  replace H : ((arith_CeilDiv.f a0 a1).bind fun bt103 => (if a1 < 1 then (if t102 = 1 then (if bt103.2 = 1 then (if t101 = 0 then (some (bt103.1 == 0)) else (some false)) else (some false)) else (some false)) else (if t102 = 0 then (if bt103.2 = 0 then ((railplanref1_Floor.f a0 a1).bind fun t105 => (if t101 = t105 then ((railplanref1_Ceil.f a0 a1).bind fun t106 => (if bt103.1 = t106 then (if a1 = 0 then (none) else (if ((bt103.1 == t101) == ((Int.tmod a0 a1) == 0)) = true then (some (decide ((wrap64 (bt103.1 - t101)) ≤ 1))) else (some false))) else (some false))) else (some false))) else (some false)) else (some false)))) = some r := H
  have A3 := Aside0.mk A30
  clear A30
  replace H := Option.bind_eq_some_iff.mp H
  obtain ⟨⟨t103, t104⟩, A40, H⟩ := H
  replace H : (if a1 < 1 then (if t102 = 1 then (if t104 = 1 then (if t101 = 0 then (some (t103 == 0)) else (some false)) else (some false)) else (some false)) else (if t102 = 0 then (if t104 = 0 then ((railplanref1_Floor.f a0 a1).bind fun t105 => (if t101 = t105 then ((railplanref1_Ceil.f a0 a1).bind fun t106 => (if t103 = t106 then (if a1 = 0 then (none) else (if ((t103 == t101) == ((Int.tmod a0 a1) == 0)) = true then (some (decide ((wrap64 (t103 - t101)) ≤ 1))) else (some false))) else (some false))) else (some false))) else (some false)) else (some false))) = some r := H
  have A4 := Aside0.mk A40
  clear A40
  by_cases c5 : a1 < 1
  · rw [if_pos c5] at H
    have c5b0 : decide (a1 < 1) = true := decide_eq_true c5
    clear c5
    by_cases c6 : t102 = 1
    · rw [if_pos c6] at H
      have c6b0 : (t102 == 1) = true := beq_iff_eq.mpr c6
      have c6b1 : (t102 != 1) = false := bne_eq_false_iff_eq.mpr c6
      clear c6
      by_cases c7 : t104 = 1
      · rw [if_pos c7] at H
        have c7b0 : (t104 == 1) = true := beq_iff_eq.mpr c7
        have c7b1 : (t104 != 1) = false := bne_eq_false_iff_eq.mpr c7
        clear c7
        by_cases c8 : t101 = 0
        · rw [if_pos c8] at H
          have c8b0 : (t101 == 0) = true := beq_iff_eq.mpr c8
          have c8b1 : (t101 != 0) = false := bne_eq_false_iff_eq.mpr c8
          clear c8
          obtain rfl := Option.some.inj H
          go_enter Try.func7, Try.ntmps7
          go_wp2_with (first | ((with_reducible refine gate_callee (f := 19) rfl ?_); refine goesL_ (some 12) rfl rfl Try.func19 (by kernel_rfl) rfl #[.int .i64 a0, .int .i64 a1] rfl (by (try simp only [List.map_toArray, List.map_cons, List.map_nil]); first | done | rfl | (simp only [List.length_drop, List.length_take]; rfl)) ?_; (with_reducible refine (arith_FloorDiv.calls a0 a1 t101 t102 _ A3.out).mono ?_); rintro e w' ⟨rfl, ⟨nd, rfl⟩⟩; refine ⟨_, rfl, ?_⟩) | ((with_reducible refine gate_callee (f := 20) rfl ?_); refine goesL_ (some 18) rfl rfl Try.func20 (by kernel_rfl) rfl #[.int .i64 a0, .int .i64 a1] rfl (by (try simp only [List.map_toArray, List.map_cons, List.map_nil]); first | done | rfl | (simp only [List.length_drop, List.length_take]; rfl)) ?_; (with_reducible refine (arith_CeilDiv.calls a0 a1 t103 t104 _ A4.out).mono ?_); rintro e w' ⟨rfl, ⟨nd, rfl⟩⟩; refine ⟨_, rfl, ?_⟩))
          go_ret
          exact ⟨by first | rfl | (simp; done) | (simp [*]; done), by repeat (first | exact Drawn0.refl _ | apply Drawn0.step)⟩
        · rw [if_neg c8] at H
          have c8b0 : (t101 == 0) = false := beq_eq_false_iff_ne.mpr c8
          have c8b1 : (t101 != 0) = true := bne_iff_ne.mpr c8
          obtain rfl := Option.some.inj H
          go_enter Try.func7, Try.ntmps7
          go_wp2_with (first | ((with_reducible refine gate_callee (f := 19) rfl ?_); refine goesL_ (some 12) rfl rfl Try.func19 (by kernel_rfl) rfl #[.int .i64 a0, .int .i64 a1] rfl (by (try simp only [List.map_toArray, List.map_cons, List.map_nil]); first | done | rfl | (simp only [List.length_drop, List.length_take]; rfl)) ?_; (with_reducible refine (arith_FloorDiv.calls a0 a1 t101 t102 _ A3.out).mono ?_); rintro e w' ⟨rfl, ⟨nd, rfl⟩⟩; refine ⟨_, rfl, ?_⟩) | ((with_reducible refine gate_callee (f := 20) rfl ?_); refine goesL_ (some 18) rfl rfl Try.func20 (by kernel_rfl) rfl #[.int .i64 a0, .int .i64 a1] rfl (by (try simp only [List.map_toArray, List.map_cons, List.map_nil]); first | done | rfl | (simp only [List.length_drop, List.length_take]; rfl)) ?_; (with_reducible refine (arith_CeilDiv.calls a0 a1 t103 t104 _ A4.out).mono ?_); rintro e w' ⟨rfl, ⟨nd, rfl⟩⟩; refine ⟨_, rfl, ?_⟩))
          go_ret
          exact ⟨by first | rfl | (simp; done) | (simp [*]; done), by repeat (first | exact Drawn0.refl _ | apply Drawn0.step)⟩
      · rw [if_neg c7] at H
        have c7b0 : (t104 == 1) = false := beq_eq_false_iff_ne.mpr c7
        have c7b1 : (t104 != 1) = true := bne_iff_ne.mpr c7
        obtain rfl := Option.some.inj H
        go_enter Try.func7, Try.ntmps7
        go_wp2_with (first | ((with_reducible refine gate_callee (f := 19) rfl ?_); refine goesL_ (some 12) rfl rfl Try.func19 (by kernel_rfl) rfl #[.int .i64 a0, .int .i64 a1] rfl (by (try simp only [List.map_toArray, List.map_cons, List.map_nil]); first | done | rfl | (simp only [List.length_drop, List.length_take]; rfl)) ?_; (with_reducible refine (arith_FloorDiv.calls a0 a1 t101 t102 _ A3.out).mono ?_); rintro e w' ⟨rfl, ⟨nd, rfl⟩⟩; refine ⟨_, rfl, ?_⟩) | ((with_reducible refine gate_callee (f := 20) rfl ?_); refine goesL_ (some 18) rfl rfl Try.func20 (by kernel_rfl) rfl #[.int .i64 a0, .int .i64 a1] rfl (by (try simp only [List.map_toArray, List.map_cons, List.map_nil]); first | done | rfl | (simp only [List.length_drop, List.length_take]; rfl)) ?_; (with_reducible refine (arith_CeilDiv.calls a0 a1 t103 t104 _ A4.out).mono ?_); rintro e w' ⟨rfl, ⟨nd, rfl⟩⟩; refine ⟨_, rfl, ?_⟩))
        go_ret
        exact ⟨by first | rfl | (simp; done) | (simp [*]; done), by repeat (first | exact Drawn0.refl _ | apply Drawn0.step)⟩
    · rw [if_neg c6] at H
      have c6b0 : (t102 == 1) = false := beq_eq_false_iff_ne.mpr c6
      have c6b1 : (t102 != 1) = true := bne_iff_ne.mpr c6
      obtain rfl := Option.some.inj H
      go_enter Try.func7, Try.ntmps7
      go_wp2_with (first | ((with_reducible refine gate_callee (f := 19) rfl ?_); refine goesL_ (some 12) rfl rfl Try.func19 (by kernel_rfl) rfl #[.int .i64 a0, .int .i64 a1] rfl (by (try simp only [List.map_toArray, List.map_cons, List.map_nil]); first | done | rfl | (simp only [List.length_drop, List.length_take]; rfl)) ?_; (with_reducible refine (arith_FloorDiv.calls a0 a1 t101 t102 _ A3.out).mono ?_); rintro e w' ⟨rfl, ⟨nd, rfl⟩⟩; refine ⟨_, rfl, ?_⟩) | ((with_reducible refine gate_callee (f := 20) rfl ?_); refine goesL_ (some 18) rfl rfl Try.func20 (by kernel_rfl) rfl #[.int .i64 a0, .int .i64 a1] rfl (by (try simp only [List.map_toArray, List.map_cons, List.map_nil]); first | done | rfl | (simp only [List.length_drop, List.length_take]; rfl)) ?_; (with_reducible refine (arith_CeilDiv.calls a0 a1 t103 t104 _ A4.out).mono ?_); rintro e w' ⟨rfl, ⟨nd, rfl⟩⟩; refine ⟨_, rfl, ?_⟩))
      go_ret
      exact ⟨by first | rfl | (simp; done) | (simp [*]; done), by repeat (first | exact Drawn0.refl _ | apply Drawn0.step)⟩
  · rw [if_neg c5] at H
    have c5b0 : decide (a1 < 1) = false := decide_eq_false c5
    clear c5
    by_cases c9 : t102 = 0
    · rw [if_pos c9] at H
      have c9b0 : (t102 == 0) = true := beq_iff_eq.mpr c9
      have c9b1 : (t102 != 0) = false := bne_eq_false_iff_eq.mpr c9
      clear c9
      by_cases c10 : t104 = 0
      · rw [if_pos c10] at H
        have c10b0 : (t104 == 0) = true := beq_iff_eq.mpr c10
        have c10b1 : (t104 != 0) = false := bne_eq_false_iff_eq.mpr c10
        clear c10
        replace H := Option.bind_eq_some_iff.mp H
        obtain ⟨t105, A110, H⟩ := H
        replace H : (if t101 = t105 then ((railplanref1_Ceil.f a0 a1).bind fun t106 => (if t103 = t106 then (if a1 = 0 then (none) else (if ((t103 == t101) == ((Int.tmod a0 a1) == 0)) = true then (some (decide ((wrap64 (t103 - t101)) ≤ 1))) else (some false))) else (some false))) else (some false)) = some r := H
        have A11 := Aside0.mk A110
        clear A110
        by_cases c12 : t101 = t105
        · rw [if_pos c12] at H
          have c12b0 : (t101 == t105) = true := beq_iff_eq.mpr c12
          have c12b1 : (t101 != t105) = false := bne_eq_false_iff_eq.mpr c12
          clear c12
          replace H := Option.bind_eq_some_iff.mp H
          obtain ⟨t106, A130, H⟩ := H
          replace H : (if t103 = t106 then (if a1 = 0 then (none) else (if ((t103 == t101) == ((Int.tmod a0 a1) == 0)) = true then (some (decide ((wrap64 (t103 - t101)) ≤ 1))) else (some false))) else (some false)) = some r := H
          have A13 := Aside0.mk A130
          clear A130
          by_cases c14 : t103 = t106
          · rw [if_pos c14] at H
            have c14b0 : (t103 == t106) = true := beq_iff_eq.mpr c14
            have c14b1 : (t103 != t106) = false := bne_eq_false_iff_eq.mpr c14
            clear c14
            by_cases c15 : a1 = 0
            · rw [if_pos c15] at H
              exact absurd H (by simp)
            · rw [if_neg c15] at H
              have c15b0 : (a1 == 0) = false := beq_eq_false_iff_ne.mpr c15
              have c15b1 : (a1 != 0) = true := bne_iff_ne.mpr c15
              by_cases c16 : ((t103 == t101) == ((Int.tmod a0 a1) == 0)) = true
              · rw [if_pos c16] at H
                have c16b0 : ((t103 == t101) == ((Int.tmod a0 a1) == 0)) = true := c16
                (try (have c16b1 : decide ((t103 == t101) = ((Int.tmod a0 a1) == 0)) = true := by simpa using c16))
                (try (have c16b2 : ((t103 == t101) == ((Int.tmod a0 a1) == 0)) = true := by simpa using c16))
                clear c16
                obtain rfl := Option.some.inj H
                go_enter Try.func7, Try.ntmps7
                go_wp2_with (first | ((with_reducible refine gate_callee (f := 19) rfl ?_); refine goesL_ (some 12) rfl rfl Try.func19 (by kernel_rfl) rfl #[.int .i64 a0, .int .i64 a1] rfl (by (try simp only [List.map_toArray, List.map_cons, List.map_nil]); first | done | rfl | (simp only [List.length_drop, List.length_take]; rfl)) ?_; (with_reducible refine (arith_FloorDiv.calls a0 a1 t101 t102 _ A3.out).mono ?_); rintro e w' ⟨rfl, ⟨nd, rfl⟩⟩; refine ⟨_, rfl, ?_⟩) | ((with_reducible refine gate_callee (f := 20) rfl ?_); refine goesL_ (some 18) rfl rfl Try.func20 (by kernel_rfl) rfl #[.int .i64 a0, .int .i64 a1] rfl (by (try simp only [List.map_toArray, List.map_cons, List.map_nil]); first | done | rfl | (simp only [List.length_drop, List.length_take]; rfl)) ?_; (with_reducible refine (arith_CeilDiv.calls a0 a1 t103 t104 _ A4.out).mono ?_); rintro e w' ⟨rfl, ⟨nd, rfl⟩⟩; refine ⟨_, rfl, ?_⟩) | (go_at_call 21; (with_reducible refine (railplanref1_Floor.calls a0 a1 t105 _ A11.out).mono ?_); rintro e w' ⟨rfl, ⟨nd, rfl⟩⟩) | (go_at_call 22; (with_reducible refine (railplanref1_Ceil.calls a0 a1 t106 _ A13.out).mono ?_); rintro e w' ⟨rfl, ⟨nd, rfl⟩⟩))
                go_ret
                exact ⟨by first | rfl | (simp; done) | (simp [*]; done), by repeat (first | exact Drawn0.refl _ | apply Drawn0.step)⟩
              · rw [if_neg c16] at H
                have c16b0 : ((t103 == t101) == ((Int.tmod a0 a1) == 0)) = false := by simpa using c16
                (try (have c16b1 : decide ((t103 == t101) = ((Int.tmod a0 a1) == 0)) = false := by simpa using c16))
                (try (have c16b2 : ((t103 == t101) == ((Int.tmod a0 a1) == 0)) = false := by simpa using c16))
                (try (have c16b3 : ¬ ((t103 == t101) = ((Int.tmod a0 a1) == 0)) := by simpa using c16))
                clear c16
                obtain rfl := Option.some.inj H
                go_enter Try.func7, Try.ntmps7
                go_wp2_with (first | ((with_reducible refine gate_callee (f := 19) rfl ?_); refine goesL_ (some 12) rfl rfl Try.func19 (by kernel_rfl) rfl #[.int .i64 a0, .int .i64 a1] rfl (by (try simp only [List.map_toArray, List.map_cons, List.map_nil]); first | done | rfl | (simp only [List.length_drop, List.length_take]; rfl)) ?_; (with_reducible refine (arith_FloorDiv.calls a0 a1 t101 t102 _ A3.out).mono ?_); rintro e w' ⟨rfl, ⟨nd, rfl⟩⟩; refine ⟨_, rfl, ?_⟩) | ((with_reducible refine gate_callee (f := 20) rfl ?_); refine goesL_ (some 18) rfl rfl Try.func20 (by kernel_rfl) rfl #[.int .i64 a0, .int .i64 a1] rfl (by (try simp only [List.map_toArray, List.map_cons, List.map_nil]); first | done | rfl | (simp only [List.length_drop, List.length_take]; rfl)) ?_; (with_reducible refine (arith_CeilDiv.calls a0 a1 t103 t104 _ A4.out).mono ?_); rintro e w' ⟨rfl, ⟨nd, rfl⟩⟩; refine ⟨_, rfl, ?_⟩) | (go_at_call 21; (with_reducible refine (railplanref1_Floor.calls a0 a1 t105 _ A11.out).mono ?_); rintro e w' ⟨rfl, ⟨nd, rfl⟩⟩) | (go_at_call 22; (with_reducible refine (railplanref1_Ceil.calls a0 a1 t106 _ A13.out).mono ?_); rintro e w' ⟨rfl, ⟨nd, rfl⟩⟩))
                go_ret
                exact ⟨by first | rfl | (simp; done) | (simp [*]; done), by repeat (first | exact Drawn0.refl _ | apply Drawn0.step)⟩
          · rw [if_neg c14] at H
            have c14b0 : (t103 == t106) = false := beq_eq_false_iff_ne.mpr c14
            have c14b1 : (t103 != t106) = true := bne_iff_ne.mpr c14
            obtain rfl := Option.some.inj H
            go_enter Try.func7, Try.ntmps7
            go_wp2_with (first | ((with_reducible refine gate_callee (f := 19) rfl ?_); refine goesL_ (some 12) rfl rfl Try.func19 (by kernel_rfl) rfl #[.int .i64 a0, .int .i64 a1] rfl (by (try simp only [List.map_toArray, List.map_cons, List.map_nil]); first | done | rfl | (simp only [List.length_drop, List.length_take]; rfl)) ?_; (with_reducible refine (arith_FloorDiv.calls a0 a1 t101 t102 _ A3.out).mono ?_); rintro e w' ⟨rfl, ⟨nd, rfl⟩⟩; refine ⟨_, rfl, ?_⟩) | ((with_reducible refine gate_callee (f := 20) rfl ?_); refine goesL_ (some 18) rfl rfl Try.func20 (by kernel_rfl) rfl #[.int .i64 a0, .int .i64 a1] rfl (by (try simp only [List.map_toArray, List.map_cons, List.map_nil]); first | done | rfl | (simp only [List.length_drop, List.length_take]; rfl)) ?_; (with_reducible refine (arith_CeilDiv.calls a0 a1 t103 t104 _ A4.out).mono ?_); rintro e w' ⟨rfl, ⟨nd, rfl⟩⟩; refine ⟨_, rfl, ?_⟩) | (go_at_call 21; (with_reducible refine (railplanref1_Floor.calls a0 a1 t105 _ A11.out).mono ?_); rintro e w' ⟨rfl, ⟨nd, rfl⟩⟩) | (go_at_call 22; (with_reducible refine (railplanref1_Ceil.calls a0 a1 t106 _ A13.out).mono ?_); rintro e w' ⟨rfl, ⟨nd, rfl⟩⟩))
            go_ret
            exact ⟨by first | rfl | (simp; done) | (simp [*]; done), by repeat (first | exact Drawn0.refl _ | apply Drawn0.step)⟩
        · rw [if_neg c12] at H
          have c12b0 : (t101 == t105) = false := beq_eq_false_iff_ne.mpr c12
          have c12b1 : (t101 != t105) = true := bne_iff_ne.mpr c12
          obtain rfl := Option.some.inj H
          go_enter Try.func7, Try.ntmps7
          go_wp2_with (first | ((with_reducible refine gate_callee (f := 19) rfl ?_); refine goesL_ (some 12) rfl rfl Try.func19 (by kernel_rfl) rfl #[.int .i64 a0, .int .i64 a1] rfl (by (try simp only [List.map_toArray, List.map_cons, List.map_nil]); first | done | rfl | (simp only [List.length_drop, List.length_take]; rfl)) ?_; (with_reducible refine (arith_FloorDiv.calls a0 a1 t101 t102 _ A3.out).mono ?_); rintro e w' ⟨rfl, ⟨nd, rfl⟩⟩; refine ⟨_, rfl, ?_⟩) | ((with_reducible refine gate_callee (f := 20) rfl ?_); refine goesL_ (some 18) rfl rfl Try.func20 (by kernel_rfl) rfl #[.int .i64 a0, .int .i64 a1] rfl (by (try simp only [List.map_toArray, List.map_cons, List.map_nil]); first | done | rfl | (simp only [List.length_drop, List.length_take]; rfl)) ?_; (with_reducible refine (arith_CeilDiv.calls a0 a1 t103 t104 _ A4.out).mono ?_); rintro e w' ⟨rfl, ⟨nd, rfl⟩⟩; refine ⟨_, rfl, ?_⟩) | (go_at_call 21; (with_reducible refine (railplanref1_Floor.calls a0 a1 t105 _ A11.out).mono ?_); rintro e w' ⟨rfl, ⟨nd, rfl⟩⟩))
          go_ret
          exact ⟨by first | rfl | (simp; done) | (simp [*]; done), by repeat (first | exact Drawn0.refl _ | apply Drawn0.step)⟩
      · rw [if_neg c10] at H
        have c10b0 : (t104 == 0) = false := beq_eq_false_iff_ne.mpr c10
        have c10b1 : (t104 != 0) = true := bne_iff_ne.mpr c10
        obtain rfl := Option.some.inj H
        go_enter Try.func7, Try.ntmps7
        go_wp2_with (first | ((with_reducible refine gate_callee (f := 19) rfl ?_); refine goesL_ (some 12) rfl rfl Try.func19 (by kernel_rfl) rfl #[.int .i64 a0, .int .i64 a1] rfl (by (try simp only [List.map_toArray, List.map_cons, List.map_nil]); first | done | rfl | (simp only [List.length_drop, List.length_take]; rfl)) ?_; (with_reducible refine (arith_FloorDiv.calls a0 a1 t101 t102 _ A3.out).mono ?_); rintro e w' ⟨rfl, ⟨nd, rfl⟩⟩; refine ⟨_, rfl, ?_⟩) | ((with_reducible refine gate_callee (f := 20) rfl ?_); refine goesL_ (some 18) rfl rfl Try.func20 (by kernel_rfl) rfl #[.int .i64 a0, .int .i64 a1] rfl (by (try simp only [List.map_toArray, List.map_cons, List.map_nil]); first | done | rfl | (simp only [List.length_drop, List.length_take]; rfl)) ?_; (with_reducible refine (arith_CeilDiv.calls a0 a1 t103 t104 _ A4.out).mono ?_); rintro e w' ⟨rfl, ⟨nd, rfl⟩⟩; refine ⟨_, rfl, ?_⟩))
        go_ret
        exact ⟨by first | rfl | (simp; done) | (simp [*]; done), by repeat (first | exact Drawn0.refl _ | apply Drawn0.step)⟩
    · rw [if_neg c9] at H
      have c9b0 : (t102 == 0) = false := beq_eq_false_iff_ne.mpr c9
      have c9b1 : (t102 != 0) = true := bne_iff_ne.mpr c9
      obtain rfl := Option.some.inj H
      go_enter Try.func7, Try.ntmps7
      go_wp2_with (first | ((with_reducible refine gate_callee (f := 19) rfl ?_); refine goesL_ (some 12) rfl rfl Try.func19 (by kernel_rfl) rfl #[.int .i64 a0, .int .i64 a1] rfl (by (try simp only [List.map_toArray, List.map_cons, List.map_nil]); first | done | rfl | (simp only [List.length_drop, List.length_take]; rfl)) ?_; (with_reducible refine (arith_FloorDiv.calls a0 a1 t101 t102 _ A3.out).mono ?_); rintro e w' ⟨rfl, ⟨nd, rfl⟩⟩; refine ⟨_, rfl, ?_⟩) | ((with_reducible refine gate_callee (f := 20) rfl ?_); refine goesL_ (some 18) rfl rfl Try.func20 (by kernel_rfl) rfl #[.int .i64 a0, .int .i64 a1] rfl (by (try simp only [List.map_toArray, List.map_cons, List.map_nil]); first | done | rfl | (simp only [List.length_drop, List.length_take]; rfl)) ?_; (with_reducible refine (arith_CeilDiv.calls a0 a1 t103 t104 _ A4.out).mono ?_); rintro e w' ⟨rfl, ⟨nd, rfl⟩⟩; refine ⟨_, rfl, ?_⟩))
      go_ret
      exact ⟨by first | rfl | (simp; done) | (simp [*]; done), by repeat (first | exact Drawn0.refl _ | apply Drawn0.step)⟩

/-- THE ONE PURE STATEMENT of railplanlaw1_DivisionsBracket: yours. -/
def railplanlaw1_DivisionsBracket.Pure : Prop := ∀ (a0 : Int) (a1 : Int), (Lit.int .i64 a0).wf = true → (Lit.int .i64 a1).wf = true → railplanlaw1_DivisionsBracket.f a0 a1 = some true
theorem railplanlaw1_DivisionsBracket.walk (P : railplanlaw1_DivisionsBracket.Pure) (a0 : Int) (a1 : Int) (w : World) (w0 : (Lit.int .i64 a0).wf = true) (w1 : (Lit.int .i64 a1).wf = true) :
    Calls Try.prog 7 #[.int .i64 a0, .int .i64 a1] w fun e w' => e = .returned (.bool true) ∧ Below w.heap.size w w' := by
  have h := P a0 a1 w0 w1
  refine (railplanlaw1_DivisionsBracket.calls a0 a1 true w h).mono ?_
  rintro e w' ⟨rfl, hd⟩
  exact ⟨rfl, hd.below⟩

end Go.Proofs.Ytfgbkfgbgcfpbaa.PDivisionsBracket
