-- PRINTED BY print.sh 35421559b90ae4d0a3588c463048766b98c2df88dd9212a6774a882060cdf62d: not written by this session
import Derived.Test.YtfgbkfgbgcfpbaaPSqrtIsFloorx0
namespace Go.Proofs.Ytfgbkfgbgcfpbaa.PSqrtIsFloor
open Go.RowKit Go.Proofs.YtfgbkfgbgcfpbaaW.PrintWords Go.Proofs.YtfgbkfgbgcfpbaaW.PrintLast Go.Proofs.YtfgbkfgbgcfpbaaW.PrintMore
attribute [local go_sem] max2_int min2_int max_two min_two max_three min_three max_four min_four   -- for this text's walks alone
set_option linter.unusedVariables false
set_option linter.unusedSimpArgs false

/-! ### arith_Sqrt: function 18 -/
def arith_Sqrt.l0 : Nat → Int → Int → Int → Option (Int)
  | 0, _, _, _ => none
  | k + 1, x0, x3, x4 => if x3 < x4 then (if (wrap64 (x3 + (wrap64 (Int.tdiv (wrap64 ((wrap64 (x4 - x3)) + 1)) 2)))) = 0 then (none) else (if (wrap64 (x3 + (wrap64 (Int.tdiv (wrap64 ((wrap64 (x4 - x3)) + 1)) 2)))) ≤ (wrap64 (Int.tdiv x0 (wrap64 (x3 + (wrap64 (Int.tdiv (wrap64 ((wrap64 (x4 - x3)) + 1)) 2)))))) then (arith_Sqrt.l0 k x0 (wrap64 (x3 + (wrap64 (Int.tdiv (wrap64 ((wrap64 (x4 - x3)) + 1)) 2)))) x4) else (arith_Sqrt.l0 k x0 x3 (wrap64 ((wrap64 (x3 + (wrap64 (Int.tdiv (wrap64 ((wrap64 (x4 - x3)) + 1)) 2)))) - 1))))) else (some x3)
def arith_Sqrt.f (k : Nat) (a0 : Int) : Option (Int) := if a0 < 1 then (some 0) else (arith_Sqrt.l0 k a0 1 3037000499)
theorem arith_Sqrt.mono_l : ∀ k, (∀ y0 y1 y2, LeO (arith_Sqrt.l0 k y0 y1 y2) (arith_Sqrt.l0 (k + 1) y0 y1 y2))
  | 0 => fun _ _ _ r h => by simp [arith_Sqrt.l0] at h
  | k + 1 => by
    have ih0 := arith_Sqrt.mono_l k
    · intro y0 y1 y2
      unfold arith_Sqrt.l0
      repeat' first
      | (with_reducible exact ih0 _ _ _)
      | (with_reducible exact LeO.refl _)
      | (with_reducible exact LeO.none _)
      | (with_reducible refine LeO.ite ?_ ?_)
      | (with_reducible refine LeO.bind ?_ (fun _ => ?_))
      | exact ih0 _ _ _
      | exact LeO.none _
      | refine LeO.ite ?_ ?_
      | refine LeO.bind ?_ (fun _ => ?_)
theorem arith_Sqrt.mono : ∀ a0 k, LeO (arith_Sqrt.f k a0) (arith_Sqrt.f (k + 1) a0) := by
  intro a0 k
  have ih0 := arith_Sqrt.mono_l k
  unfold arith_Sqrt.f
  repeat' first
      | (with_reducible exact ih0 _ _ _)
      | (with_reducible exact LeO.refl _)
      | (with_reducible exact LeO.none _)
      | (with_reducible refine LeO.ite ?_ ?_)
      | (with_reducible refine LeO.bind ?_ (fun _ => ?_))
      | exact ih0 _ _ _
      | exact LeO.none _
      | refine LeO.ite ?_ ?_
      | refine LeO.bind ?_ (fun _ => ?_)
set_option maxHeartbeats 8000000 in
set_option maxRecDepth 100000 in
theorem arith_Sqrt.calls (k : Nat) (a0 : Int) (r : Int) (w : World) (h : arith_Sqrt.f k a0 = some r) :
    Calls Try.prog 18 #[.int .i64 a0] w fun e w' => e = .returned (.int .i64 r) ∧ Drawn0 w w' := by
  have H : (if a0 < 1 then (some 0) else (arith_Sqrt.l0 k a0 1 3037000499)) = some r := h
  clear h
  by_cases c2 : a0 < 1
  · rw [if_pos c2] at H
    have c2b0 : decide (a0 < 1) = true := decide_eq_true c2
    clear c2
    obtain rfl := Option.some.inj H
    go_enter Try.func18, Try.ntmps18
    go_wp2
    go_ret
    exact ⟨by first | rfl | (simp; done) | (simp [*]; done), by repeat (first | exact Drawn0.refl _ | apply Drawn0.step)⟩
  · rw [if_neg c2] at H
    have c2b0 : decide (a0 < 1) = false := decide_eq_false c2
    clear c2
    have H' := Aside0.mk H
    clear H
    go_enter Try.func18, Try.ntmps18
    go_wp2
    go_loopg [3, 4] k (fun kq v3 v4 w' => ∃ (x3_1 : Int) (x4_1 : Int), v3 = .int .i64 x3_1 ∧ v4 = .int .i64 x4_1 ∧ Aside0 (arith_Sqrt.l0 kq a0 x3_1 x4_1 = some r) ∧ Aside0 (kq ≤ k) ∧ Drawn0 w w')
    case atStart => exact ⟨(1), (3037000499), (by first | rfl | (simp; done) | (simp [*]; done)), (by first | rfl | (simp; done) | (simp [*]; done)), H', ⟨Nat.le_refl _⟩, by repeat (first | exact Drawn0.refl _ | apply Drawn0.step)⟩
    case round =>
      clear H'
      try clear c1
      try clear c2
      try clear c2b0
      try clear p2
      obtain ⟨x3_1, x4_1, rfl, rfl, HA, HK1, ⟨m1, rfl⟩⟩ := hrel
      cases gk with
      | zero => exact absurd HA.out (by simp [arith_Sqrt.l0])
      | succ k1 =>
        have H := HA.out
        clear HA
        simp only [arith_Sqrt.l0] at H
        by_cases c3 : x3_1 < x4_1
        · rw [if_pos c3] at H
          have c3b0 : decide (x3_1 < x4_1) = true := decide_eq_true c3
          clear c3
          by_cases c4 : (wrap64 (x3_1 + (wrap64 (Int.tdiv (wrap64 ((wrap64 (x4_1 - x3_1)) + 1)) 2)))) = 0
          · rw [if_pos c4] at H
            exact absurd H (by simp)
          · rw [if_neg c4] at H
            have c4b0 : ((wrap64 (x3_1 + (wrap64 (Int.tdiv (wrap64 ((wrap64 (x4_1 - x3_1)) + 1)) 2)))) == 0) = false := beq_eq_false_iff_ne.mpr c4
            have c4b1 : ((wrap64 (x3_1 + (wrap64 (Int.tdiv (wrap64 ((wrap64 (x4_1 - x3_1)) + 1)) 2)))) != 0) = true := bne_iff_ne.mpr c4
            by_cases c5 : (wrap64 (x3_1 + (wrap64 (Int.tdiv (wrap64 ((wrap64 (x4_1 - x3_1)) + 1)) 2)))) ≤ (wrap64 (Int.tdiv a0 (wrap64 (x3_1 + (wrap64 (Int.tdiv (wrap64 ((wrap64 (x4_1 - x3_1)) + 1)) 2))))))
            · rw [if_pos c5] at H
              have c5b0 : decide ((wrap64 (x3_1 + (wrap64 (Int.tdiv (wrap64 ((wrap64 (x4_1 - x3_1)) + 1)) 2)))) ≤ (wrap64 (Int.tdiv a0 (wrap64 (x3_1 + (wrap64 (Int.tdiv (wrap64 ((wrap64 (x4_1 - x3_1)) + 1)) 2))))))) = true := decide_eq_true c5
              clear c5
              have H' := Aside0.mk H
              clear H
              go_wp2
              go_roundg k1
              case measure => have := HK1.out; omega
              case rel => exact ⟨(wrap64 (x3_1 + (wrap64 (Int.tdiv (wrap64 ((wrap64 (x4_1 - x3_1)) + 1)) 2)))), (x4_1), (by first | rfl | (simp; done) | (simp [*]; done)), (by first | rfl | (simp; done) | (simp [*]; done)), H', ⟨by have := HK1.out; omega⟩, by repeat (first | exact Drawn0.refl _ | apply Drawn0.step)⟩
            · rw [if_neg c5] at H
              have c5b0 : decide ((wrap64 (x3_1 + (wrap64 (Int.tdiv (wrap64 ((wrap64 (x4_1 - x3_1)) + 1)) 2)))) ≤ (wrap64 (Int.tdiv a0 (wrap64 (x3_1 + (wrap64 (Int.tdiv (wrap64 ((wrap64 (x4_1 - x3_1)) + 1)) 2))))))) = false := decide_eq_false c5
              clear c5
              have H' := Aside0.mk H
              clear H
              go_wp2
              go_roundg k1
              case measure => have := HK1.out; omega
              case rel => exact ⟨(x3_1), (wrap64 ((wrap64 (x3_1 + (wrap64 (Int.tdiv (wrap64 ((wrap64 (x4_1 - x3_1)) + 1)) 2)))) - 1)), (by first | rfl | (simp; done) | (simp [*]; done)), (by first | rfl | (simp; done) | (simp [*]; done)), H', ⟨by have := HK1.out; omega⟩, by repeat (first | exact Drawn0.refl _ | apply Drawn0.step)⟩
        · rw [if_neg c3] at H
          have c3b0 : decide (x3_1 < x4_1) = false := decide_eq_false c3
          clear c3
          obtain rfl := Option.some.inj H
          go_wp2
          go_ret
          exact ⟨by first | rfl | (simp; done) | (simp [*]; done), by repeat (first | exact Drawn0.refl _ | apply Drawn0.step)⟩

/-! ### railplanlaw1_SqrtIsFloor: function 6 -/
def railplanlaw1_SqrtIsFloor.f (k : Nat) (a0 : Int) (a1 : Int) : Option (Bool) := if 0 ≤ (Int.tmod a1 63) then ((arith_Sqrt.f k (shr .i64 a0 (Int.tmod a1 63))).bind fun t101 => (if (shr .i64 a0 (Int.tmod a1 63)) < 0 then (if t101 = 0 then ((arith_Sqrt.f k 50).bind fun t102 => (some (t102 == 7))) else (some false)) else (if t101 ≥ 0 then (if t101 ≤ 3037000499 then (if (wrap64 (t101 * t101)) ≤ (shr .i64 a0 (Int.tmod a1 63)) then (if t101 = 3037000499 then ((arith_Sqrt.f k 50).bind fun t103 => (some (t103 == 7))) else (if (wrap64 ((wrap64 (t101 + 1)) * (wrap64 (t101 + 1)))) > (shr .i64 a0 (Int.tmod a1 63)) then ((arith_Sqrt.f k 50).bind fun t104 => (some (t104 == 7))) else (some false))) else (some false)) else (some false)) else (some false)))) else (none)
theorem railplanlaw1_SqrtIsFloor.mono : ∀ a0 a1 k, LeO (railplanlaw1_SqrtIsFloor.f k a0 a1) (railplanlaw1_SqrtIsFloor.f (k + 1) a0 a1) := by
  intro a0 a1 k
  unfold railplanlaw1_SqrtIsFloor.f
  repeat' first
      | (with_reducible exact arith_Sqrt.mono _ _)
      | (with_reducible exact LeO.refl _)
      | (with_reducible exact LeO.none _)
      | (with_reducible refine LeO.ite ?_ ?_)
      | (with_reducible refine LeO.bind ?_ (fun _ => ?_))
      | exact arith_Sqrt.mono _ _
      | exact LeO.none _
      | refine LeO.ite ?_ ?_
      | refine LeO.bind ?_ (fun _ => ?_)
set_option maxHeartbeats 8000000 in
set_option maxRecDepth 100000 in
theorem railplanlaw1_SqrtIsFloor.calls (k : Nat) (a0 : Int) (a1 : Int) (r : Bool) (w : World) (h : railplanlaw1_SqrtIsFloor.f k a0 a1 = some r) :
    Calls Try.prog 6 #[.int .i64 a0, .int .u8 a1] w fun e w' => e = .returned (.bool r) ∧ Drawn0 w w' := by
  have H : (if 0 ≤ (Int.tmod a1 63) then ((arith_Sqrt.f k (shr .i64 a0 (Int.tmod a1 63))).bind fun t101 => (if (shr .i64 a0 (Int.tmod a1 63)) < 0 then (if t101 = 0 then ((arith_Sqrt.f k 50).bind fun t102 => (some (t102 == 7))) else (some false)) else (if t101 ≥ 0 then (if t101 ≤ 3037000499 then (if (wrap64 (t101 * t101)) ≤ (shr .i64 a0 (Int.tmod a1 63)) then (if t101 = 3037000499 then ((arith_Sqrt.f k 50).bind fun t103 => (some (t103 == 7))) else (if (wrap64 ((wrap64 (t101 + 1)) * (wrap64 (t101 + 1)))) > (shr .i64 a0 (Int.tmod a1 63)) then ((arith_Sqrt.f k 50).bind fun t104 => (some (t104 == 7))) else (some false))) else (some false)) else (some false)) else (some false)))) else (none)) = some r := h
  clear h
  obtain ⟨ji3, hji3⟩ : ∃ j_ : Int, (Int.tmod a1 63) = j_ := ⟨_, rfl⟩
  replace H : (if 0 ≤ (ji3) then ((arith_Sqrt.f k (shr .i64 a0 (ji3))).bind fun t101 => (if (shr .i64 a0 (ji3)) < 0 then (if t101 = 0 then ((arith_Sqrt.f k 50).bind fun t102 => (some (t102 == 7))) else (some false)) else (if t101 ≥ 0 then (if t101 ≤ 3037000499 then (if (wrap64 (t101 * t101)) ≤ (shr .i64 a0 (ji3)) then (if t101 = 3037000499 then ((arith_Sqrt.f k 50).bind fun t103 => (some (t103 == 7))) else (if (wrap64 ((wrap64 (t101 + 1)) * (wrap64 (t101 + 1)))) > (shr .i64 a0 (ji3)) then ((arith_Sqrt.f k 50).bind fun t104 => (some (t104 == 7))) else (some false))) else (some false)) else (some false)) else (some false)))) else (none)) = some r := by first | (rw [hji3] at H; exact H) | (simp only [hji3] at H ⊢; exact H)
  by_cases c4 : 0 ≤ (ji3)
  · rw [if_pos c4] at H
    have c4b0 := eq_true c4
    have c4b1 : decide (0 ≤ (ji3)) = true := decide_eq_true c4
    clear c4
    obtain ⟨ji5, hji5⟩ : ∃ j_ : Int, (shr .i64 a0 (ji3)) = j_ := ⟨_, rfl⟩
    replace H : ((arith_Sqrt.f k (ji5)).bind fun t101 => (if (ji5) < 0 then (if t101 = 0 then ((arith_Sqrt.f k 50).bind fun t102 => (some (t102 == 7))) else (some false)) else (if t101 ≥ 0 then (if t101 ≤ 3037000499 then (if (wrap64 (t101 * t101)) ≤ (ji5) then (if t101 = 3037000499 then ((arith_Sqrt.f k 50).bind fun t103 => (some (t103 == 7))) else (if (wrap64 ((wrap64 (t101 + 1)) * (wrap64 (t101 + 1)))) > (ji5) then ((arith_Sqrt.f k 50).bind fun t104 => (some (t104 == 7))) else (some false))) else (some false)) else (some false)) else (some false)))) = some r := by first | (rw [hji5] at H; exact H) | (simp only [hji5] at H ⊢; exact H)
    have hji5_ : (a0 / 2 ^ min (ji3).toNat 64) = ji5 := hji5
    have hji5z : (ji3) ≤ 64 → (a0 / 2 ^ (ji3).toNat) = ji5 := shr_small hji5
    replace H := Option.bind_eq_some_iff.mp H
    obtain ⟨t101, A60, H⟩ := H
    replace H : (if (ji5) < 0 then (if t101 = 0 then ((arith_Sqrt.f k 50).bind fun t102 => (some (t102 == 7))) else (some false)) else (if t101 ≥ 0 then (if t101 ≤ 3037000499 then (if (wrap64 (t101 * t101)) ≤ (ji5) then (if t101 = 3037000499 then ((arith_Sqrt.f k 50).bind fun t103 => (some (t103 == 7))) else (if (wrap64 ((wrap64 (t101 + 1)) * (wrap64 (t101 + 1)))) > (ji5) then ((arith_Sqrt.f k 50).bind fun t104 => (some (t104 == 7))) else (some false))) else (some false)) else (some false)) else (some false))) = some r := H
    have A6 := Aside0.mk A60
    clear A60
    by_cases c7 : (ji5) < 0
    · rw [if_pos c7] at H
      have c7b0 : decide ((ji5) < 0) = true := decide_eq_true c7
      clear c7
      by_cases c8 : t101 = 0
      · rw [if_pos c8] at H
        have c8b0 : (t101 == 0) = true := beq_iff_eq.mpr c8
        have c8b1 : (t101 != 0) = false := bne_eq_false_iff_eq.mpr c8
        clear c8
        replace H := Option.bind_eq_some_iff.mp H
        obtain ⟨t102, A90, H⟩ := H
        replace H : (some (t102 == 7)) = some r := H
        have A9 := Aside0.mk A90
        clear A90
        obtain rfl := Option.some.inj H
        go_enter Try.func6, Try.ntmps6
        go_wp2_with (first | ((with_reducible refine gate_callee (f := 18) rfl ?_); refine goesL_ (some 11) rfl rfl Try.func18 (by kernel_rfl) rfl #[.int .i64 ji5] rfl (by (try simp only [List.map_toArray, List.map_cons, List.map_nil]); first | done | (simp only [hji5]; rfl) | rfl | (simp only [List.length_drop, List.length_take]; rfl)) ?_; (with_reducible refine (arith_Sqrt.calls k ji5 t101 _ A6.out).mono ?_); rintro e w' ⟨rfl, ⟨nd, rfl⟩⟩; refine ⟨_, rfl, ?_⟩) | (go_at_call 18; (with_reducible refine (arith_Sqrt.calls k 50 t102 _ A9.out).mono ?_); rintro e w' ⟨rfl, ⟨nd, rfl⟩⟩))
        go_ret
        exact ⟨by first | rfl | (simp; done) | (simp only [← hji3, ← hji5] <;> (first | rfl | simp)) | (simp [*]; done), by repeat (first | exact Drawn0.refl _ | apply Drawn0.step)⟩
      · rw [if_neg c8] at H
        have c8b0 : (t101 == 0) = false := beq_eq_false_iff_ne.mpr c8
        have c8b1 : (t101 != 0) = true := bne_iff_ne.mpr c8
        obtain rfl := Option.some.inj H
        go_enter Try.func6, Try.ntmps6
        go_wp2_with (first | ((with_reducible refine gate_callee (f := 18) rfl ?_); refine goesL_ (some 11) rfl rfl Try.func18 (by kernel_rfl) rfl #[.int .i64 ji5] rfl (by (try simp only [List.map_toArray, List.map_cons, List.map_nil]); first | done | (simp only [hji5]; rfl) | rfl | (simp only [List.length_drop, List.length_take]; rfl)) ?_; (with_reducible refine (arith_Sqrt.calls k ji5 t101 _ A6.out).mono ?_); rintro e w' ⟨rfl, ⟨nd, rfl⟩⟩; refine ⟨_, rfl, ?_⟩))
        go_ret
        exact ⟨by first | rfl | (simp; done) | (simp only [← hji3, ← hji5] <;> (first | rfl | simp)) | (simp [*]; done), by repeat (first | exact Drawn0.refl _ | apply Drawn0.step)⟩
    · rw [if_neg c7] at H
      have c7b0 : decide ((ji5) < 0) = false := decide_eq_false c7
      clear c7
      by_cases c10 : t101 ≥ 0
      · rw [if_pos c10] at H
        have c10b0 : decide (0 ≤ t101) = true := decide_eq_true c10
        clear c10
        by_cases c11 : t101 ≤ 3037000499
        · rw [if_pos c11] at H
          have c11b0 : decide (t101 ≤ 3037000499) = true := decide_eq_true c11
          clear c11
          by_cases c12 : (wrap64 (t101 * t101)) ≤ (ji5)
          · rw [if_pos c12] at H
            have c12b0 : decide ((wrap64 (t101 * t101)) ≤ (ji5)) = true := decide_eq_true c12
            clear c12
            by_cases c13 : t101 = 3037000499
            · rw [if_pos c13] at H
              have c13b0 : (t101 == 3037000499) = true := beq_iff_eq.mpr c13
              have c13b1 : (t101 != 3037000499) = false := bne_eq_false_iff_eq.mpr c13
              clear c13
              replace H := Option.bind_eq_some_iff.mp H
              obtain ⟨t103, A140, H⟩ := H
              replace H : (some (t103 == 7)) = some r := H
              have A14 := Aside0.mk A140
              clear A140
              obtain rfl := Option.some.inj H
              go_enter Try.func6, Try.ntmps6
              go_wp2_with (first | ((with_reducible refine gate_callee (f := 18) rfl ?_); refine goesL_ (some 11) rfl rfl Try.func18 (by kernel_rfl) rfl #[.int .i64 ji5] rfl (by (try simp only [List.map_toArray, List.map_cons, List.map_nil]); first | done | (simp only [hji5]; rfl) | rfl | (simp only [List.length_drop, List.length_take]; rfl)) ?_; (with_reducible refine (arith_Sqrt.calls k ji5 t101 _ A6.out).mono ?_); rintro e w' ⟨rfl, ⟨nd, rfl⟩⟩; refine ⟨_, rfl, ?_⟩) | (go_at_call 18; (with_reducible refine (arith_Sqrt.calls k 50 t103 _ A14.out).mono ?_); rintro e w' ⟨rfl, ⟨nd, rfl⟩⟩))
              go_ret
              exact ⟨by first | rfl | (simp; done) | (simp only [← hji3, ← hji5] <;> (first | rfl | simp)) | (simp [*]; done), by repeat (first | exact Drawn0.refl _ | apply Drawn0.step)⟩
            · rw [if_neg c13] at H
              have c13b0 : (t101 == 3037000499) = false := beq_eq_false_iff_ne.mpr c13
              have c13b1 : (t101 != 3037000499) = true := bne_iff_ne.mpr c13
              by_cases c15 : (wrap64 ((wrap64 (t101 + 1)) * (wrap64 (t101 + 1)))) > (ji5)
              · rw [if_pos c15] at H
                have c15b0 : decide ((ji5) < (wrap64 ((wrap64 (t101 + 1)) * (wrap64 (t101 + 1))))) = true := decide_eq_true c15
                clear c15
                replace H := Option.bind_eq_some_iff.mp H
                obtain ⟨t104, A160, H⟩ := H
                replace H : (some (t104 == 7)) = some r := H
                have A16 := Aside0.mk A160
                clear A160
                obtain rfl := Option.some.inj H
                go_enter Try.func6, Try.ntmps6
                go_wp2_with (first | ((with_reducible refine gate_callee (f := 18) rfl ?_); refine goesL_ (some 11) rfl rfl Try.func18 (by kernel_rfl) rfl #[.int .i64 ji5] rfl (by (try simp only [List.map_toArray, List.map_cons, List.map_nil]); first | done | (simp only [hji5]; rfl) | rfl | (simp only [List.length_drop, List.length_take]; rfl)) ?_; (with_reducible refine (arith_Sqrt.calls k ji5 t101 _ A6.out).mono ?_); rintro e w' ⟨rfl, ⟨nd, rfl⟩⟩; refine ⟨_, rfl, ?_⟩) | (go_at_call 18; (with_reducible refine (arith_Sqrt.calls k 50 t104 _ A16.out).mono ?_); rintro e w' ⟨rfl, ⟨nd, rfl⟩⟩))
                go_ret
                exact ⟨by first | rfl | (simp; done) | (simp only [← hji3, ← hji5] <;> (first | rfl | simp)) | (simp [*]; done), by repeat (first | exact Drawn0.refl _ | apply Drawn0.step)⟩
              · rw [if_neg c15] at H
                have c15b0 : decide ((ji5) < (wrap64 ((wrap64 (t101 + 1)) * (wrap64 (t101 + 1))))) = false := decide_eq_false c15
                clear c15
                obtain rfl := Option.some.inj H
                go_enter Try.func6, Try.ntmps6
                go_wp2_with (first | ((with_reducible refine gate_callee (f := 18) rfl ?_); refine goesL_ (some 11) rfl rfl Try.func18 (by kernel_rfl) rfl #[.int .i64 ji5] rfl (by (try simp only [List.map_toArray, List.map_cons, List.map_nil]); first | done | (simp only [hji5]; rfl) | rfl | (simp only [List.length_drop, List.length_take]; rfl)) ?_; (with_reducible refine (arith_Sqrt.calls k ji5 t101 _ A6.out).mono ?_); rintro e w' ⟨rfl, ⟨nd, rfl⟩⟩; refine ⟨_, rfl, ?_⟩))
                go_ret
                exact ⟨by first | rfl | (simp; done) | (simp only [← hji3, ← hji5] <;> (first | rfl | simp)) | (simp [*]; done), by repeat (first | exact Drawn0.refl _ | apply Drawn0.step)⟩
          · rw [if_neg c12] at H
            have c12b0 : decide ((wrap64 (t101 * t101)) ≤ (ji5)) = false := decide_eq_false c12
            clear c12
            obtain rfl := Option.some.inj H
            go_enter Try.func6, Try.ntmps6
            go_wp2_with (first | ((with_reducible refine gate_callee (f := 18) rfl ?_); refine goesL_ (some 11) rfl rfl Try.func18 (by kernel_rfl) rfl #[.int .i64 ji5] rfl (by (try simp only [List.map_toArray, List.map_cons, List.map_nil]); first | done | (simp only [hji5]; rfl) | rfl | (simp only [List.length_drop, List.length_take]; rfl)) ?_; (with_reducible refine (arith_Sqrt.calls k ji5 t101 _ A6.out).mono ?_); rintro e w' ⟨rfl, ⟨nd, rfl⟩⟩; refine ⟨_, rfl, ?_⟩))
            go_ret
            exact ⟨by first | rfl | (simp; done) | (simp only [← hji3, ← hji5] <;> (first | rfl | simp)) | (simp [*]; done), by repeat (first | exact Drawn0.refl _ | apply Drawn0.step)⟩
        · rw [if_neg c11] at H
          have c11b0 : decide (t101 ≤ 3037000499) = false := decide_eq_false c11
          clear c11
          obtain rfl := Option.some.inj H
          go_enter Try.func6, Try.ntmps6
          go_wp2_with (first | ((with_reducible refine gate_callee (f := 18) rfl ?_); refine goesL_ (some 11) rfl rfl Try.func18 (by kernel_rfl) rfl #[.int .i64 ji5] rfl (by (try simp only [List.map_toArray, List.map_cons, List.map_nil]); first | done | (simp only [hji5]; rfl) | rfl | (simp only [List.length_drop, List.length_take]; rfl)) ?_; (with_reducible refine (arith_Sqrt.calls k ji5 t101 _ A6.out).mono ?_); rintro e w' ⟨rfl, ⟨nd, rfl⟩⟩; refine ⟨_, rfl, ?_⟩))
          go_ret
          exact ⟨by first | rfl | (simp; done) | (simp only [← hji3, ← hji5] <;> (first | rfl | simp)) | (simp [*]; done), by repeat (first | exact Drawn0.refl _ | apply Drawn0.step)⟩
      · rw [if_neg c10] at H
        have c10b0 : decide (0 ≤ t101) = false := decide_eq_false c10
        clear c10
        obtain rfl := Option.some.inj H
        go_enter Try.func6, Try.ntmps6
        go_wp2_with (first | ((with_reducible refine gate_callee (f := 18) rfl ?_); refine goesL_ (some 11) rfl rfl Try.func18 (by kernel_rfl) rfl #[.int .i64 ji5] rfl (by (try simp only [List.map_toArray, List.map_cons, List.map_nil]); first | done | (simp only [hji5]; rfl) | rfl | (simp only [List.length_drop, List.length_take]; rfl)) ?_; (with_reducible refine (arith_Sqrt.calls k ji5 t101 _ A6.out).mono ?_); rintro e w' ⟨rfl, ⟨nd, rfl⟩⟩; refine ⟨_, rfl, ?_⟩))
        go_ret
        exact ⟨by first | rfl | (simp; done) | (simp only [← hji3, ← hji5] <;> (first | rfl | simp)) | (simp [*]; done), by repeat (first | exact Drawn0.refl _ | apply Drawn0.step)⟩
  · rw [if_neg c4] at H
    exact absurd H (by simp)

/-- THE ONE PURE STATEMENT of railplanlaw1_SqrtIsFloor: yours. -/
def railplanlaw1_SqrtIsFloor.Pure : Prop := ∀ (a0 : Int) (a1 : Int), (Lit.int .i64 a0).wf = true → (Lit.int .u8 a1).wf = true → ∃ k, railplanlaw1_SqrtIsFloor.f k a0 a1 = some true
theorem railplanlaw1_SqrtIsFloor.walk (P : railplanlaw1_SqrtIsFloor.Pure) (a0 : Int) (a1 : Int) (w : World) (w0 : (Lit.int .i64 a0).wf = true) (w1 : (Lit.int .u8 a1).wf = true) :
    Calls Try.prog 6 #[.int .i64 a0, .int .u8 a1] w fun e w' => e = .returned (.bool true) ∧ Below w.heap.size w w' := by
  obtain ⟨k, h⟩ := P a0 a1 w0 w1
  refine (railplanlaw1_SqrtIsFloor.calls k a0 a1 true w h).mono ?_
  rintro e w' ⟨rfl, hd⟩
  exact ⟨rfl, hd.below⟩

end Go.Proofs.Ytfgbkfgbgcfpbaa.PSqrtIsFloor
