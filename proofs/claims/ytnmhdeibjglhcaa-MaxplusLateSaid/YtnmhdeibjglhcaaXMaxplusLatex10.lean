-- This session's own text, written by wip/tools/xprint.py after the form of the kit's print.
import Derived.Test.YtnmhdeibjglhcaaXMaxplusLatex0
import Derived.Test.YtnmhdeibjglhcaaXMaxplusLatex1
import Derived.Test.YtnmhdeibjglhcaaXMaxplusLatex7
import Derived.Test.YtnmhdeibjglhcaaXMaxplusLatex8
import Derived.Test.YtnmhdeibjglhcaaXMaxplusLatex9
namespace Go.Proofs.Ytnmhdeibjglhcaa.XMaxplusLate
open Go.RowKit Go.Proofs.YtnmhdeibjglhcaaW.PrintWords Go.Proofs.YtnmhdeibjglhcaaW.PrintLast Go.Proofs.YtnmhdeibjglhcaaW.PrintMore
attribute [local go_sem] max2_int min2_int max_two min_two max_three min_three max_four min_four   -- for this text's walks alone
set_option linter.unusedVariables false
set_option linter.unusedSimpArgs false

/-! ### railplanref30_Critical: function 24 -/
mutual
def railplanref30_Critical.l0 : Nat → List (List Int) → Int → Int → List Int → Int → Int → Option (List Int)
  | 0, _, _, _, _, _, _ => none
  | k + 1, x0, x3, x4, x6, x20, x21 => if x21 < x20 then (railplanref30_Critical.l1 k x0 x3 x4 x6 x21 x0 false 1 x20 x21) else (some x6)
def railplanref30_Critical.l1 : Nat → List (List Int) → Int → Int → List Int → Int → List (List Int) → Bool → Int → Int → Int → Option (List Int)
  | 0, _, _, _, _, _, _, _, _, _, _ => none
  | k + 1, x0, x3, x4, x6, x7, x8, x9, x10, x20, x21 => if x10 ≤ (x0.length : Int) then (if x9 = true then ((railplanref30_raw.f k x8 x0).bind fun t278 => (railplanref30_Critical.l1 k x0 x3 x4 x6 x7 t278 true (wrap64 (x10 + 1)) x20 x21)) else (if 0 ≤ x7 then (if x7 < (x8.length : Int) then (if x7 < ((rd_L1 x8 x7).length : Int) then (if (rd (rd_L1 x8 x7) x7) = (-1125899906842624) then ((railplanref30_raw.f k x8 x0).bind fun t283 => (railplanref30_Critical.l1 k x0 x3 x4 x6 x7 t283 false (wrap64 (x10 + 1)) x20 x21)) else ((railplanref30_raw.f k x8 x0).bind fun t288 => (railplanref30_Critical.l1 k x0 x3 x4 x6 x7 t288 ((wrap64 ((rd (rd_L1 x8 x7) x7) * x4)) == (wrap64 (x3 * x10))) (wrap64 (x10 + 1)) x20 x21))) else (none)) else (none)) else (none))) else (if x9 = true then (if x6.length < 17592186044416 then (railplanref30_Critical.l0 k x0 x3 x4 (x6 ++ [x7]) x20 (wrap64 (x21 + 1))) else (none)) else (railplanref30_Critical.l0 k x0 x3 x4 x6 x20 (wrap64 (x21 + 1))))
end
def railplanref30_Critical.f (k : Nat) (l0 : List (List Int)) : Option (List Int) := (railplanref30_Mean.f k l0).bind fun bt275 => (if bt275.2.2 = true then (railplanref30_Critical.l0 k l0 bt275.1 bt275.2.1 ([] : List Int) (l0.length : Int) 0) else (some ([] : List Int)))
theorem railplanref30_Critical.mono_l : ∀ k, (∀ y0 y1 y2 y3 y4 y5, LeO (railplanref30_Critical.l0 k y0 y1 y2 y3 y4 y5) (railplanref30_Critical.l0 (k + 1) y0 y1 y2 y3 y4 y5)) ∧ (∀ y0 y1 y2 y3 y4 y5 y6 y7 y8 y9, LeO (railplanref30_Critical.l1 k y0 y1 y2 y3 y4 y5 y6 y7 y8 y9) (railplanref30_Critical.l1 (k + 1) y0 y1 y2 y3 y4 y5 y6 y7 y8 y9))
  | 0 => ⟨fun _ _ _ _ _ _ r h => by simp [railplanref30_Critical.l0] at h, fun _ _ _ _ _ _ _ _ _ _ r h => by simp [railplanref30_Critical.l1] at h⟩
  | k + 1 => by
    obtain ⟨ih0, ih1⟩ := railplanref30_Critical.mono_l k
    refine ⟨?_, ?_⟩
    · intro y0 y1 y2 y3 y4 y5
      unfold railplanref30_Critical.l0
      repeat' first
      | (with_reducible exact ih0 _ _ _ _ _ _)
      | (with_reducible exact ih1 _ _ _ _ _ _ _ _ _ _)
      | (with_reducible exact railplanref30_Mean.mono _ _)
      | (with_reducible exact railplanref30_raw.mono _ _ _)
      | (with_reducible exact LeO.refl _)
      | (with_reducible exact LeO.none _)
      | (with_reducible refine LeO.ite ?_ ?_)
      | (with_reducible refine LeO.bind ?_ (fun _ => ?_))
      | exact ih0 _ _ _ _ _ _
      | exact ih1 _ _ _ _ _ _ _ _ _ _
      | exact railplanref30_Mean.mono _ _
      | exact railplanref30_raw.mono _ _ _
      | exact LeO.none _
      | refine LeO.ite ?_ ?_
      | refine LeO.bind ?_ (fun _ => ?_)
    · intro y0 y1 y2 y3 y4 y5 y6 y7 y8 y9
      unfold railplanref30_Critical.l1
      repeat' first
      | (with_reducible exact ih0 _ _ _ _ _ _)
      | (with_reducible exact ih1 _ _ _ _ _ _ _ _ _ _)
      | (with_reducible exact railplanref30_Mean.mono _ _)
      | (with_reducible exact railplanref30_raw.mono _ _ _)
      | (with_reducible exact LeO.refl _)
      | (with_reducible exact LeO.none _)
      | (with_reducible refine LeO.ite ?_ ?_)
      | (with_reducible refine LeO.bind ?_ (fun _ => ?_))
      | exact ih0 _ _ _ _ _ _
      | exact ih1 _ _ _ _ _ _ _ _ _ _
      | exact railplanref30_Mean.mono _ _
      | exact railplanref30_raw.mono _ _ _
      | exact LeO.none _
      | refine LeO.ite ?_ ?_
      | refine LeO.bind ?_ (fun _ => ?_)
theorem railplanref30_Critical.mono : ∀ a0 k, LeO (railplanref30_Critical.f k a0) (railplanref30_Critical.f (k + 1) a0) := by
  intro a0 k
  obtain ⟨ih0, ih1⟩ := railplanref30_Critical.mono_l k
  unfold railplanref30_Critical.f
  repeat' first
      | (with_reducible exact ih0 _ _ _ _ _ _)
      | (with_reducible exact ih1 _ _ _ _ _ _ _ _ _ _)
      | (with_reducible exact railplanref30_Mean.mono _ _)
      | (with_reducible exact railplanref30_raw.mono _ _ _)
      | (with_reducible exact LeO.refl _)
      | (with_reducible exact LeO.none _)
      | (with_reducible refine LeO.ite ?_ ?_)
      | (with_reducible refine LeO.bind ?_ (fun _ => ?_))
      | exact ih0 _ _ _ _ _ _
      | exact ih1 _ _ _ _ _ _ _ _ _ _
      | exact railplanref30_Mean.mono _ _
      | exact railplanref30_raw.mono _ _ _
      | exact LeO.none _
      | refine LeO.ite ?_ ?_
      | refine LeO.bind ?_ (fun _ => ?_)
set_option maxHeartbeats 8000000 in
set_option maxRecDepth 100000 in
theorem railplanref30_Critical.calls (k : Nat) (P0_ : Nat → Prop) (A0 : Option Addr) (c0 : Nat) (l0 : List (List Int)) (r : List Int) (w : World) (hs0 : Kd.V (Kd.slice 3 (Kd.int .i64)) 22 w w.heap.size (fun k_ => P0_ k_) (.slice A0 l0.length c0) l0) (h : railplanref30_Critical.f k l0 = some r) :
    Calls Try.prog 24 #[.slice A0 l0.length c0] w fun e w' => ∃ v0_ : Value, e = .returned (v0_) ∧ Kd.R (Kd.int .i64) 3 w' w.heap.size (fun k_ => (w.heap.size ≤ k_)) v0_ r ∧ Below w.heap.size w w' := by
  have HO0 := Aside0.mk (show Kd.V (Kd.slice 3 (Kd.int .i64)) 22 w w.heap.size (fun k_ => (P0_ k_ ∨ w.heap.size ≤ k_)) (.slice A0 l0.length c0) l0 from Kd.V_mono hs0 (fun k_ hk => .inl hk))
  have HB := Aside0.mk (Below.refl w.heap.size w)
  have H : ((railplanref30_Mean.f k l0).bind fun bt275 => (if bt275.2.2 = true then (railplanref30_Critical.l0 k l0 bt275.1 bt275.2.1 ([] : List Int) (l0.length : Int) 0) else (some ([] : List Int)))) = some r := h
  clear h
  replace H := Option.bind_eq_some_iff.mp H
  obtain ⟨⟨t275, t276, t277⟩, A20, H⟩ := H
  replace H : (if t277 = true then (railplanref30_Critical.l0 k l0 t275 t276 ([] : List Int) (l0.length : Int) 0) else (some ([] : List Int))) = some r := H
  have A2 := Aside0.mk A20
  clear A20
  by_cases c3 : t277 = true
  · subst c3
    have H1 : (railplanref30_Critical.l0 k l0 t275 t276 ([] : List Int) (l0.length : Int) 0) = some r := by rw [if_pos rfl] at H; exact H
    clear H
    have H := H1
    clear H1
    have H' := Aside0.mk H
    clear H
    go_enter Try.func24, Try.ntmps24
    go_wp2_with (first | ((with_reducible refine gate_callee (f := 23) rfl ?_); refine goesL_ (some 13) rfl rfl Try.func23 (by kernel_rfl) rfl #[.slice A0 l0.length c0] rfl (by (try simp only [List.map_toArray, List.map_cons, List.map_nil]); first | done | rfl | (simp only [List.length_drop, List.length_take]; rfl)) ?_; (with_reducible refine (railplanref30_Mean.calls k (fun k_ => (P0_ k_ ∨ w.heap.size ≤ k_)) _ _ l0 t275 t276 true _ ?side1 A2.out).mono ?_); (case side1 => exact HO0.out); rintro e w4 ⟨rfl, hb⟩; refine ⟨_, rfl, ?_⟩; have n0_ := Aside0.mk (Kd.V_below (by (with_reducible repeat (first | apply Kd.V_alloc | apply Kd.V_drewN | apply Kd.V_drew)); exact HO0.out) hb); have n1_ := Aside0.mk (below_step (by repeat (first | (with_reducible first | exact HB.out | apply below_alloc | apply pw_below_drewN | apply below_drew1) | exact HB.out)) hb); clear HO0; clear HB; have HO0 := n0_; have HB := n1_; clear n0_ n1_; (try clear hb); (try clear hb2); (try clear hk); (try clear hi)))
    go_loopg [6, 21] k (fun kq v6 v21 w' => ∃ (x6_1 : List Int) (x21_1 : Int), v21 = .int .i64 x21_1 ∧ Aside0 (railplanref30_Critical.l0 kq l0 t275 t276 x6_1 (l0.length : Int) x21_1 = some r) ∧ Aside0 (kq ≤ k) ∧ Aside0 (Kd.V (Kd.slice 3 (Kd.int .i64)) 22 w' w.heap.size (fun k_ => (P0_ k_ ∨ w.heap.size ≤ k_) ∧ some k_ ≠ (v6 : Value).ownBlock) (.slice A0 l0.length c0) l0) ∧ Aside0 (Kd.R (Kd.int .i64) 3 w' w.heap.size (fun k_ => (w.heap.size ≤ k_)) v6 x6_1) ∧ Aside0 (Below w.heap.size w w'))
    case atStart => exact ⟨(([] : List Int)), (0), (by first | rfl | (simp; done) | (simp [*]; done)), H', ⟨Nat.le_refl _⟩, ⟨by (with_reducible repeat (first | apply Kd.V_alloc | apply Kd.V_drewN | apply Kd.V_drew)); exact Kd.V_mono HO0.out (fun _ hk => ⟨hk, (by simp [Value.ownBlock])⟩)⟩, ⟨by first | exact Kd.R_nil _ _ _ _ _ | exact Kd.N_nil _ _ _ _ _ | exact Kd.V_nil _ _ _ _ _ | exact Kd.Q_nil _ _ _ _ _ | exact Kd.S_nil _ _ _ _ _⟩, ⟨by repeat (first | (with_reducible first | exact HB.out | apply below_alloc | apply pw_below_drewN | apply below_drew1) | exact HB.out)⟩⟩
    case round =>
      clear H'
      try clear c2
      try clear p2
      try clear c3
      obtain ⟨x6_1, x21_1, rfl, HA, HK1, HO_0, HO_6, HB⟩ := hrel
      cases gk with
      | zero => exact absurd HA.out (by simp [railplanref30_Critical.l0])
      | succ k1 =>
        have H := HA.out
        clear HA
        simp only [railplanref30_Critical.l0] at H
        by_cases c5 : x21_1 < (l0.length : Int)
        · rw [if_pos c5] at H
          have c5b0 : decide (x21_1 < (l0.length : Int)) = true := decide_eq_true c5
          clear c5
          have H' := Aside0.mk H
          clear H
          go_wp2
          go_loopg [8, 9, 10] k1 (fun kq v8 v9 v10 w' => ∃ (x8_2 : List (List Int)) (x9_2 : Bool) (x10_2 : Int), v9 = .bool x9_2 ∧ v10 = .int .i64 x10_2 ∧ Aside0 (railplanref30_Critical.l1 kq l0 t275 t276 x6_1 x21_1 x8_2 x9_2 x10_2 (l0.length : Int) x21_1 = some r) ∧ Aside0 (kq ≤ k1) ∧ Aside0 (Kd.V (Kd.slice 3 (Kd.int .i64)) 22 w' w.heap.size (fun k_ => (P0_ k_ ∨ w.heap.size ≤ k_) ∧ some k_ ≠ (u6 : Value).ownBlock) (.slice A0 l0.length c0) l0) ∧ Aside0 (Kd.R (Kd.int .i64) 3 w' w.heap.size (fun k_ => (w.heap.size ≤ k_)) u6 x6_1) ∧ Aside0 (Kd.V (Kd.slice 3 (Kd.int .i64)) 22 w' w.heap.size (fun k_ => (P0_ k_ ∨ w.heap.size ≤ k_) ∧ some k_ ≠ (u6 : Value).ownBlock) v8 x8_2) ∧ Aside0 (Below w.heap.size w w'))
          case atStart => exact ⟨(l0), (false), (1), (by first | rfl | (simp; done) | (simp [*]; done)), (by first | rfl | (simp; done) | (simp [*]; done)), H', ⟨Nat.le_refl _⟩, ⟨by (with_reducible repeat (first | apply Kd.V_alloc | apply Kd.V_drewN | apply Kd.V_drew)); exact HO_0.out⟩, ⟨by (with_reducible repeat (first | apply Kd.R_alloc | apply Kd.R_drewN | apply Kd.R_drew)); exact HO_6.out⟩, ⟨by (with_reducible repeat (first | apply Kd.V_alloc | apply Kd.V_drewN | apply Kd.V_drew)); exact HO_0.out⟩, ⟨by repeat (first | (with_reducible first | exact HB.out | apply below_alloc | apply pw_below_drewN | apply below_drew1) | exact HB.out)⟩⟩
          case round =>
            clear H'
            try clear c2
            try clear p2
            try clear c3
            try clear c5
            try clear c5b0
            try clear p2
            obtain ⟨x8_2, x9_2, x10_2, rfl, rfl, HA, HK2, HO_0, HO_6, HO_8, HB⟩ := hrel
            cases gk with
            | zero => exact absurd HA.out (by simp [railplanref30_Critical.l1])
            | succ k2 =>
              have H := HA.out
              clear HA
              simp only [railplanref30_Critical.l1] at H
              by_cases c6 : x10_2 ≤ (l0.length : Int)
              · rw [if_pos c6] at H
                have c6b0 : decide (x10_2 ≤ (l0.length : Int)) = true := decide_eq_true c6
                clear c6
                by_cases c7 : x9_2 = true
                · subst c7
                  have H1 : ((railplanref30_raw.f k2 x8_2 l0).bind fun t278 => (railplanref30_Critical.l1 k2 l0 t275 t276 x6_1 x21_1 t278 true (wrap64 (x10_2 + 1)) (l0.length : Int) x21_1)) = some r := by rw [if_pos rfl] at H; exact H
                  clear H
                  have H := H1
                  clear H1
                  replace H := Option.bind_eq_some_iff.mp H
                  obtain ⟨t278, A80, H⟩ := H
                  replace H : (railplanref30_Critical.l1 k2 l0 t275 t276 x6_1 x21_1 t278 true (wrap64 (x10_2 + 1)) (l0.length : Int) x21_1) = some r := H
                  have A8 := Aside0.mk A80
                  clear A80
                  have H' := Aside0.mk H
                  clear H
                  obtain ⟨Ao9, co9, eo9⟩ := Kd.V_slice HO_8.out
                  subst eo9
                  go_wp2_with (first | ((with_reducible refine gate_callee (f := 48) rfl ?_); refine goesL_ (some 59) rfl rfl Try.func48 (by kernel_rfl) rfl #[.slice Ao9 x8_2.length co9, .slice A0 l0.length c0] rfl (by (try simp only [List.map_toArray, List.map_cons, List.map_nil]); first | done | rfl | (simp only [List.length_drop, List.length_take]; rfl)) ?_; (with_reducible refine (railplanref30_raw.calls k2 _ _ x8_2 _ _ l0 t278 _ ?side1 ?side2 ?side3 ?side4 A8.out).mono ?_); (case side1 => repeat (first | exact (Kd.V_reads' HO_8.out).2.2 | (with_reducible refine Kd.C_alloc ?_ _) | (with_reducible refine Kd.C_drewN ?_ _) | (with_reducible refine Kd.C_drew ?_))); (case side2 => exact (Kd.V_reads' HO_8.out).2.1); (case side3 => repeat (first | exact (Kd.V_reads' HO_0.out).2.2 | (with_reducible refine Kd.C_alloc ?_ _) | (with_reducible refine Kd.C_drewN ?_ _) | (with_reducible refine Kd.C_drew ?_))); (case side4 => exact (Kd.V_reads' HO_0.out).2.1); rintro e w10 ⟨v279, rfl, ho0, hb⟩; refine ⟨_, rfl, ?_⟩; have n0_ := Aside0.mk (Kd.V_elder' (by (with_reducible repeat (first | apply Kd.V_alloc | apply Kd.V_drewN | apply Kd.V_drew)); exact HO_0.out) (by first | exact Kd.N_base ho0 | exact Kd.S_base ho0 | exact Kd.R_base ho0 | exact Kd.Q_base ho0) hb); have n1_ := Aside0.mk (Kd.R_below (by (with_reducible repeat (first | apply Kd.R_alloc | apply Kd.R_drewN | apply Kd.R_drew)); exact HO_6.out) hb); have n2_ := Aside0.mk (Kd.V_elder' (by (with_reducible repeat (first | apply Kd.V_alloc | apply Kd.V_drewN | apply Kd.V_drew)); exact HO_8.out) (by first | exact Kd.N_base ho0 | exact Kd.S_base ho0 | exact Kd.R_base ho0 | exact Kd.Q_base ho0) hb); have n3_ := Aside0.mk (Kd.S_lower (Kd.S_new' (Kd.S_newM (M := fun k_ => (w.heap.size ≤ k_)) ho0 (below_size (by repeat (first | (with_reducible first | exact HB.out | apply below_alloc | apply pw_below_drewN | apply below_drew1) | exact HB.out))) (fun k_ h_ => h_)) (Kd.R_lt (by (with_reducible repeat (first | apply Kd.R_alloc | apply Kd.R_drewN | apply Kd.R_drew)); exact HO_6.out))) (below_size (by repeat (first | (with_reducible first | exact HB.out | apply below_alloc | apply pw_below_drewN | apply below_drew1) | exact HB.out)))); have n4_ := Aside0.mk (below_step (by repeat (first | (with_reducible first | exact HB.out | apply below_alloc | apply pw_below_drewN | apply below_drew1) | exact HB.out)) hb); clear HO_0; clear HO_6; clear HO_8; clear HB; have HO_0 := n0_; have HO_6 := n1_; have HO_8 := n2_; have HO280 := n3_; have HB := n4_; clear n0_ n1_ n2_ n3_ n4_; (try clear hb); (try clear hb2); (try clear hk); (try clear hi); (try clear ho0)))
                  go_roundg k2
                  case measure => have := HK1.out; have := HK2.out; omega
                  case rel => exact ⟨(t278), (true), (wrap64 (x10_2 + 1)), (by first | rfl | (simp; done) | (simp [*]; done)), (by first | rfl | (simp; done) | (simp [*]; done)), H', ⟨by have := HK1.out; have := HK2.out; omega⟩, ⟨by (with_reducible repeat (first | apply Kd.V_alloc | apply Kd.V_drewN | apply Kd.V_drew)); exact Kd.V_mono HO_0.out (fun _ hk => ⟨hk.1.1, hk.1.2⟩)⟩, ⟨by (with_reducible repeat (first | apply Kd.R_alloc | apply Kd.R_drewN | apply Kd.R_drew)); exact HO_6.out⟩, ⟨Kd.V_mono (Kd.S_V (by (with_reducible repeat (first | apply Kd.S_alloc | apply Kd.S_drewN | apply Kd.S_drew)); exact HO280.out)) (fun k_ hk => by first | exact ⟨(.inr (hk.1.1)), hk.2⟩ | exact ⟨(.inr (hk.1)), hk.2⟩ | exact (.inr (hk)))⟩, ⟨by repeat (first | (with_reducible first | exact HB.out | apply below_alloc | apply pw_below_drewN | apply below_drew1) | exact HB.out)⟩⟩
                · replace c7 := Bool.eq_false_iff.mpr c7
                  subst c7
                  have H1 : (if 0 ≤ x21_1 then (if x21_1 < (x8_2.length : Int) then (if x21_1 < ((rd_L1 x8_2 x21_1).length : Int) then (if (rd (rd_L1 x8_2 x21_1) x21_1) = (-1125899906842624) then ((railplanref30_raw.f k2 x8_2 l0).bind fun t283 => (railplanref30_Critical.l1 k2 l0 t275 t276 x6_1 x21_1 t283 false (wrap64 (x10_2 + 1)) (l0.length : Int) x21_1)) else ((railplanref30_raw.f k2 x8_2 l0).bind fun t288 => (railplanref30_Critical.l1 k2 l0 t275 t276 x6_1 x21_1 t288 ((wrap64 ((rd (rd_L1 x8_2 x21_1) x21_1) * t276)) == (wrap64 (t275 * x10_2))) (wrap64 (x10_2 + 1)) (l0.length : Int) x21_1))) else (none)) else (none)) else (none)) = some r := by rw [if_neg (show ¬ (false = true) by decide)] at H; exact H
                  clear H
                  have H := H1
                  clear H1
                  by_cases c11 : 0 ≤ x21_1
                  · rw [if_pos c11] at H
                    have c11b0 : decide (0 ≤ x21_1) = true := decide_eq_true c11
                    clear c11
                    by_cases c12 : x21_1 < (x8_2.length : Int)
                    · rw [if_pos c12] at H
                      have c12b0 : decide (x21_1 < (x8_2.length : Int)) = true := decide_eq_true c12
                      clear c12
                      by_cases c13 : x21_1 < ((rd_L1 x8_2 x21_1).length : Int)
                      · rw [if_pos c13] at H
                        have c13b0 : decide (x21_1 < ((rd_L1 x8_2 x21_1).length : Int)) = true := decide_eq_true c13
                        clear c13
                        by_cases c14 : (rd (rd_L1 x8_2 x21_1) x21_1) = (-1125899906842624)
                        · rw [if_pos c14] at H
                          have c14b0 : ((rd (rd_L1 x8_2 x21_1) x21_1) == (-1125899906842624)) = true := beq_iff_eq.mpr c14
                          have c14b1 : ((rd (rd_L1 x8_2 x21_1) x21_1) != (-1125899906842624)) = false := bne_eq_false_iff_eq.mpr c14
                          clear c14
                          replace H := Option.bind_eq_some_iff.mp H
                          obtain ⟨t283, A150, H⟩ := H
                          replace H : (railplanref30_Critical.l1 k2 l0 t275 t276 x6_1 x21_1 t283 false (wrap64 (x10_2 + 1)) (l0.length : Int) x21_1) = some r := H
                          have A15 := Aside0.mk A150
                          clear A150
                          have H' := Aside0.mk H
                          clear H
                          obtain ⟨Ao16, co16, eo16⟩ := Kd.V_slice HO_8.out
                          subst eo16
                          have p281 : 0 ≤ (x21_1 : Int) := of_decide_eq_true (by first | (with_reducible assumption) | assumption)
                          have q281 : x21_1 < (x8_2.length : Int) := of_decide_eq_true (by first | (with_reducible assumption) | assumption)
                          obtain ⟨ad281, A281_0, c281_0, e281, hx281_0, hl281_0, hi281_0⟩ := at_L1 (Kd.V_reads' HO_8.out).2.2 x21_1 p281 q281
                          cases e281
                          obtain ⟨ce281, hce281, hMe281, hcc281⟩ := Kd.V_get HO_8.out [] x21_1 p281 (by first | exact q281 | exact of_decide_eq_true (by first | (with_reducible assumption) | assumption) | (have e_ := (Kd.V_reads' HO_8.out).1; omega))
                          obtain ⟨ua281_0, uc281_0, rfl, ul281_0, ge281_0⟩ := Kd.FK_slice_open hMe281
                          have hv281_0 := hcc281 0 _ rfl
                          rw [Nat.add_zero, show ((Kd.slice 3 (Kd.int .i64))).sz = 1 from rfl, Nat.mul_one] at hv281_0
                          replace hv281_0 := Option.some.inj (hv281_0.symm.trans hx281_0)
                          injection hv281_0 with hva_ hvn_ hvc_
                          rw [hva_] at ge281_0
                          rw [hvc_] at ul281_0
                          have HL281_0 := Aside0.mk (show Kd.V (Kd.int .i64) 3 _ w.heap.size _ _ (rd_L1 x8_2 x21_1) from Kd.V_mk ul281_0 ge281_0)
                          clear hva_ hvn_ hvc_ ge281_0 ul281_0
                          clear hcc281 hce281
                          have HR281_0 := Aside0.mk hi281_0
                          have HC281_0 := Aside0.mk hl281_0
                          clear hi281_0 hl281_0
                          replace p281 := eq_true p281
                          replace q281 := eq_true q281
                          have p282 : 0 ≤ (x21_1 : Int) := of_decide_eq_true (by first | (with_reducible assumption) | assumption)
                          have q282 : x21_1 < ((rd_L1 x8_2 x21_1).length : Int) := of_decide_eq_true (by first | (with_reducible assumption) | assumption)
                          obtain ⟨ad282, e282, hx282_0⟩ := Kd.at_int (by repeat (first | (with_reducible exact HR281_0.out) | (with_reducible refine Kd.C_alloc ?_ _) | (with_reducible refine Kd.C_drewN ?_ _) | (with_reducible refine Kd.C_drew ?_) | exact HR281_0.out)) x21_1 p282 q282
                          cases e282
                          replace p282 := eq_true p282
                          replace q282 := eq_true q282
                          go_wp2_with (first | ((with_reducible refine gate_callee (f := 48) rfl ?_); refine goesL_ (some 59) rfl rfl Try.func48 (by kernel_rfl) rfl #[.slice (some ad281) x8_2.length co16, .slice A0 l0.length c0] rfl (by (try simp only [List.map_toArray, List.map_cons, List.map_nil]); first | done | rfl | (simp only [List.length_drop, List.length_take]; rfl)) ?_; (with_reducible refine (railplanref30_raw.calls k2 _ _ x8_2 _ _ l0 t283 _ ?side1 ?side2 ?side3 ?side4 A15.out).mono ?_); (case side1 => repeat (first | exact (Kd.V_reads' HO_8.out).2.2 | (with_reducible refine Kd.C_alloc ?_ _) | (with_reducible refine Kd.C_drewN ?_ _) | (with_reducible refine Kd.C_drew ?_))); (case side2 => exact (Kd.V_reads' HO_8.out).2.1); (case side3 => repeat (first | exact (Kd.V_reads' HO_0.out).2.2 | (with_reducible refine Kd.C_alloc ?_ _) | (with_reducible refine Kd.C_drewN ?_ _) | (with_reducible refine Kd.C_drew ?_))); (case side4 => exact (Kd.V_reads' HO_0.out).2.1); rintro e w17 ⟨v284, rfl, ho0, hb⟩; refine ⟨_, rfl, ?_⟩; have n0_ := Aside0.mk (Kd.V_elder' (by (with_reducible repeat (first | apply Kd.V_alloc | apply Kd.V_drewN | apply Kd.V_drew)); exact HO_0.out) (by first | exact Kd.N_base ho0 | exact Kd.S_base ho0 | exact Kd.R_base ho0 | exact Kd.Q_base ho0) hb); have n1_ := Aside0.mk (Kd.R_below (by (with_reducible repeat (first | apply Kd.R_alloc | apply Kd.R_drewN | apply Kd.R_drew)); exact HO_6.out) hb); have n2_ := Aside0.mk (Kd.V_elder' (by (with_reducible repeat (first | apply Kd.V_alloc | apply Kd.V_drewN | apply Kd.V_drew)); exact HO_8.out) (by first | exact Kd.N_base ho0 | exact Kd.S_base ho0 | exact Kd.R_base ho0 | exact Kd.Q_base ho0) hb); have n3_ := Aside0.mk (Kd.V_elder' (by (with_reducible repeat (first | apply Kd.V_alloc | apply Kd.V_drewN | apply Kd.V_drew)); exact HL281_0.out) (by first | exact Kd.N_base ho0 | exact Kd.S_base ho0 | exact Kd.R_base ho0 | exact Kd.Q_base ho0) hb); have n4_ := Aside0.mk (Kd.S_lower (Kd.S_new' (Kd.S_newM (M := fun k_ => (w.heap.size ≤ k_)) ho0 (below_size (by repeat (first | (with_reducible first | exact HB.out | apply below_alloc | apply pw_below_drewN | apply below_drew1) | exact HB.out))) (fun k_ h_ => h_)) (Kd.R_lt (by (with_reducible repeat (first | apply Kd.R_alloc | apply Kd.R_drewN | apply Kd.R_drew)); exact HO_6.out))) (below_size (by repeat (first | (with_reducible first | exact HB.out | apply below_alloc | apply pw_below_drewN | apply below_drew1) | exact HB.out)))); have n5_ := Aside0.mk (Kd.C_below (by repeat (first | (with_reducible exact HR281_0.out) | (with_reducible refine Kd.C_alloc ?_ _) | (with_reducible refine Kd.C_drewN ?_ _) | (with_reducible refine Kd.C_drew ?_) | exact HR281_0.out)) hb); have n6_ := Aside0.mk (below_step (by repeat (first | (with_reducible first | exact HB.out | apply below_alloc | apply pw_below_drewN | apply below_drew1) | exact HB.out)) hb); clear HO_0; clear HO_6; clear HO_8; clear HL281_0; clear HR281_0; clear HB; have HO_0 := n0_; have HO_6 := n1_; have HO_8 := n2_; have HL281_0 := n3_; have HO285 := n4_; have HR281_0 := n5_; have HB := n6_; clear n0_ n1_ n2_ n3_ n4_ n5_ n6_; (try clear hb); (try clear hb2); (try clear hk); (try clear hi); (try clear ho0)))
                          go_roundg k2
                          case measure => have := HK1.out; have := HK2.out; omega
                          case rel => exact ⟨(t283), (false), (wrap64 (x10_2 + 1)), (by first | rfl | (simp; done) | (simp [*]; done)), (by first | rfl | (simp; done) | (simp [*]; done)), H', ⟨by have := HK1.out; have := HK2.out; omega⟩, ⟨by (with_reducible repeat (first | apply Kd.V_alloc | apply Kd.V_drewN | apply Kd.V_drew)); exact Kd.V_mono HO_0.out (fun _ hk => ⟨hk.1.1, hk.1.2⟩)⟩, ⟨by (with_reducible repeat (first | apply Kd.R_alloc | apply Kd.R_drewN | apply Kd.R_drew)); exact HO_6.out⟩, ⟨Kd.V_mono (Kd.S_V (by (with_reducible repeat (first | apply Kd.S_alloc | apply Kd.S_drewN | apply Kd.S_drew)); exact HO285.out)) (fun k_ hk => by first | exact ⟨(.inr (hk.1.1)), hk.2⟩ | exact ⟨(.inr (hk.1)), hk.2⟩ | exact (.inr (hk)))⟩, ⟨by repeat (first | (with_reducible first | exact HB.out | apply below_alloc | apply pw_below_drewN | apply below_drew1) | exact HB.out)⟩⟩
                        · rw [if_neg c14] at H
                          have c14b0 : ((rd (rd_L1 x8_2 x21_1) x21_1) == (-1125899906842624)) = false := beq_eq_false_iff_ne.mpr c14
                          have c14b1 : ((rd (rd_L1 x8_2 x21_1) x21_1) != (-1125899906842624)) = true := bne_iff_ne.mpr c14
                          replace H := Option.bind_eq_some_iff.mp H
                          obtain ⟨t288, A180, H⟩ := H
                          replace H : (railplanref30_Critical.l1 k2 l0 t275 t276 x6_1 x21_1 t288 ((wrap64 ((rd (rd_L1 x8_2 x21_1) x21_1) * t276)) == (wrap64 (t275 * x10_2))) (wrap64 (x10_2 + 1)) (l0.length : Int) x21_1) = some r := H
                          have A18 := Aside0.mk A180
                          clear A180
                          have H' := Aside0.mk H
                          clear H
                          obtain ⟨Ao19, co19, eo19⟩ := Kd.V_slice HO_8.out
                          subst eo19
                          have p281 : 0 ≤ (x21_1 : Int) := of_decide_eq_true (by first | (with_reducible assumption) | assumption)
                          have q281 : x21_1 < (x8_2.length : Int) := of_decide_eq_true (by first | (with_reducible assumption) | assumption)
                          obtain ⟨ad281, A281_0, c281_0, e281, hx281_0, hl281_0, hi281_0⟩ := at_L1 (Kd.V_reads' HO_8.out).2.2 x21_1 p281 q281
                          cases e281
                          obtain ⟨ce281, hce281, hMe281, hcc281⟩ := Kd.V_get HO_8.out [] x21_1 p281 (by first | exact q281 | exact of_decide_eq_true (by first | (with_reducible assumption) | assumption) | (have e_ := (Kd.V_reads' HO_8.out).1; omega))
                          obtain ⟨ua281_0, uc281_0, rfl, ul281_0, ge281_0⟩ := Kd.FK_slice_open hMe281
                          have hv281_0 := hcc281 0 _ rfl
                          rw [Nat.add_zero, show ((Kd.slice 3 (Kd.int .i64))).sz = 1 from rfl, Nat.mul_one] at hv281_0
                          replace hv281_0 := Option.some.inj (hv281_0.symm.trans hx281_0)
                          injection hv281_0 with hva_ hvn_ hvc_
                          rw [hva_] at ge281_0
                          rw [hvc_] at ul281_0
                          have HL281_0 := Aside0.mk (show Kd.V (Kd.int .i64) 3 _ w.heap.size _ _ (rd_L1 x8_2 x21_1) from Kd.V_mk ul281_0 ge281_0)
                          clear hva_ hvn_ hvc_ ge281_0 ul281_0
                          clear hcc281 hce281
                          have HR281_0 := Aside0.mk hi281_0
                          have HC281_0 := Aside0.mk hl281_0
                          clear hi281_0 hl281_0
                          replace p281 := eq_true p281
                          replace q281 := eq_true q281
                          have p282 : 0 ≤ (x21_1 : Int) := of_decide_eq_true (by first | (with_reducible assumption) | assumption)
                          have q282 : x21_1 < ((rd_L1 x8_2 x21_1).length : Int) := of_decide_eq_true (by first | (with_reducible assumption) | assumption)
                          obtain ⟨ad282, e282, hx282_0⟩ := Kd.at_int (by repeat (first | (with_reducible exact HR281_0.out) | (with_reducible refine Kd.C_alloc ?_ _) | (with_reducible refine Kd.C_drewN ?_ _) | (with_reducible refine Kd.C_drew ?_) | exact HR281_0.out)) x21_1 p282 q282
                          cases e282
                          replace p282 := eq_true p282
                          replace q282 := eq_true q282
                          have p286 : 0 ≤ (x21_1 : Int) := of_decide_eq_true (by first | (with_reducible assumption) | assumption)
                          have q286 : x21_1 < (x8_2.length : Int) := of_decide_eq_true (by first | (with_reducible assumption) | assumption)
                          obtain ⟨ad286, A286_0, c286_0, e286, hx286_0, hl286_0, hi286_0⟩ := at_L1 (Kd.V_reads' HO_8.out).2.2 x21_1 p286 q286
                          obtain rfl : ad281 = ad286 := (by injection e286)
                          obtain ⟨ce286, hce286, hMe286, hcc286⟩ := Kd.V_get HO_8.out [] x21_1 p286 (by first | exact q286 | exact of_decide_eq_true (by first | (with_reducible assumption) | assumption) | (have e_ := (Kd.V_reads' HO_8.out).1; omega))
                          obtain ⟨ua286_0, uc286_0, rfl, ul286_0, ge286_0⟩ := Kd.FK_slice_open hMe286
                          have hv286_0 := hcc286 0 _ rfl
                          rw [Nat.add_zero, show ((Kd.slice 3 (Kd.int .i64))).sz = 1 from rfl, Nat.mul_one] at hv286_0
                          replace hv286_0 := Option.some.inj (hv286_0.symm.trans hx286_0)
                          injection hv286_0 with hva_ hvn_ hvc_
                          rw [hva_] at ge286_0
                          rw [hvc_] at ul286_0
                          have HL286_0 := Aside0.mk (show Kd.V (Kd.int .i64) 3 _ w.heap.size _ _ (rd_L1 x8_2 x21_1) from Kd.V_mk ul286_0 ge286_0)
                          clear hva_ hvn_ hvc_ ge286_0 ul286_0
                          clear hcc286 hce286
                          have HR286_0 := Aside0.mk hi286_0
                          have HC286_0 := Aside0.mk hl286_0
                          clear hi286_0 hl286_0
                          replace p286 := eq_true p286
                          replace q286 := eq_true q286
                          have ea_ := Option.some.inj (hx281_0.symm.trans hx286_0)
                          injection ea_ with ea_ en_ ec_
                          subst ea_
                          subst ec_
                          clear en_
                          have p287 : 0 ≤ (x21_1 : Int) := of_decide_eq_true (by first | (with_reducible assumption) | assumption)
                          have q287 : x21_1 < ((rd_L1 x8_2 x21_1).length : Int) := of_decide_eq_true (by first | (with_reducible assumption) | assumption)
                          obtain ⟨ad287, e287, hx287_0⟩ := Kd.at_int (by repeat (first | (with_reducible exact HR286_0.out) | (with_reducible refine Kd.C_alloc ?_ _) | (with_reducible refine Kd.C_drewN ?_ _) | (with_reducible refine Kd.C_drew ?_) | exact HR286_0.out)) x21_1 p287 q287
                          cases e287
                          replace p287 := eq_true p287
                          replace q287 := eq_true q287
                          go_wp2_with (first | ((with_reducible refine gate_callee (f := 48) rfl ?_); refine goesL_ (some 59) rfl rfl Try.func48 (by kernel_rfl) rfl #[.slice (some ad281) x8_2.length co19, .slice A0 l0.length c0] rfl (by (try simp only [List.map_toArray, List.map_cons, List.map_nil]); first | done | rfl | (simp only [List.length_drop, List.length_take]; rfl)) ?_; (with_reducible refine (railplanref30_raw.calls k2 _ _ x8_2 _ _ l0 t288 _ ?side1 ?side2 ?side3 ?side4 A18.out).mono ?_); (case side1 => repeat (first | exact (Kd.V_reads' HO_8.out).2.2 | (with_reducible refine Kd.C_alloc ?_ _) | (with_reducible refine Kd.C_drewN ?_ _) | (with_reducible refine Kd.C_drew ?_))); (case side2 => exact (Kd.V_reads' HO_8.out).2.1); (case side3 => repeat (first | exact (Kd.V_reads' HO_0.out).2.2 | (with_reducible refine Kd.C_alloc ?_ _) | (with_reducible refine Kd.C_drewN ?_ _) | (with_reducible refine Kd.C_drew ?_))); (case side4 => exact (Kd.V_reads' HO_0.out).2.1); rintro e w20 ⟨v289, rfl, ho0, hb⟩; refine ⟨_, rfl, ?_⟩; have n0_ := Aside0.mk (Kd.V_elder' (by (with_reducible repeat (first | apply Kd.V_alloc | apply Kd.V_drewN | apply Kd.V_drew)); exact HO_0.out) (by first | exact Kd.N_base ho0 | exact Kd.S_base ho0 | exact Kd.R_base ho0 | exact Kd.Q_base ho0) hb); have n1_ := Aside0.mk (Kd.R_below (by (with_reducible repeat (first | apply Kd.R_alloc | apply Kd.R_drewN | apply Kd.R_drew)); exact HO_6.out) hb); have n2_ := Aside0.mk (Kd.V_elder' (by (with_reducible repeat (first | apply Kd.V_alloc | apply Kd.V_drewN | apply Kd.V_drew)); exact HO_8.out) (by first | exact Kd.N_base ho0 | exact Kd.S_base ho0 | exact Kd.R_base ho0 | exact Kd.Q_base ho0) hb); have n3_ := Aside0.mk (Kd.V_elder' (by (with_reducible repeat (first | apply Kd.V_alloc | apply Kd.V_drewN | apply Kd.V_drew)); exact HL281_0.out) (by first | exact Kd.N_base ho0 | exact Kd.S_base ho0 | exact Kd.R_base ho0 | exact Kd.Q_base ho0) hb); have n4_ := Aside0.mk (Kd.V_elder' (by (with_reducible repeat (first | apply Kd.V_alloc | apply Kd.V_drewN | apply Kd.V_drew)); exact HL286_0.out) (by first | exact Kd.N_base ho0 | exact Kd.S_base ho0 | exact Kd.R_base ho0 | exact Kd.Q_base ho0) hb); have n5_ := Aside0.mk (Kd.S_lower (Kd.S_new' (Kd.S_newM (M := fun k_ => (w.heap.size ≤ k_)) ho0 (below_size (by repeat (first | (with_reducible first | exact HB.out | apply below_alloc | apply pw_below_drewN | apply below_drew1) | exact HB.out))) (fun k_ h_ => h_)) (Kd.R_lt (by (with_reducible repeat (first | apply Kd.R_alloc | apply Kd.R_drewN | apply Kd.R_drew)); exact HO_6.out))) (below_size (by repeat (first | (with_reducible first | exact HB.out | apply below_alloc | apply pw_below_drewN | apply below_drew1) | exact HB.out)))); have n6_ := Aside0.mk (Kd.C_below (by repeat (first | (with_reducible exact HR281_0.out) | (with_reducible refine Kd.C_alloc ?_ _) | (with_reducible refine Kd.C_drewN ?_ _) | (with_reducible refine Kd.C_drew ?_) | exact HR281_0.out)) hb); have n7_ := Aside0.mk (Kd.C_below (by repeat (first | (with_reducible exact HR286_0.out) | (with_reducible refine Kd.C_alloc ?_ _) | (with_reducible refine Kd.C_drewN ?_ _) | (with_reducible refine Kd.C_drew ?_) | exact HR286_0.out)) hb); have n8_ := Aside0.mk (below_step (by repeat (first | (with_reducible first | exact HB.out | apply below_alloc | apply pw_below_drewN | apply below_drew1) | exact HB.out)) hb); clear HO_0; clear HO_6; clear HO_8; clear HL281_0; clear HL286_0; clear HR281_0; clear HR286_0; clear HB; have HO_0 := n0_; have HO_6 := n1_; have HO_8 := n2_; have HL281_0 := n3_; have HL286_0 := n4_; have HO290 := n5_; have HR281_0 := n6_; have HR286_0 := n7_; have HB := n8_; clear n0_ n1_ n2_ n3_ n4_ n5_ n6_ n7_ n8_; (try clear hb); (try clear hb2); (try clear hk); (try clear hi); (try clear ho0)))
                          go_roundg k2
                          case measure => have := HK1.out; have := HK2.out; omega
                          case rel => exact ⟨(t288), (((wrap64 ((rd (rd_L1 x8_2 x21_1) x21_1) * t276)) == (wrap64 (t275 * x10_2)))), (wrap64 (x10_2 + 1)), (by first | rfl | (simp; done) | (simp [*]; done)), (by first | rfl | (simp; done) | (simp [*]; done)), H', ⟨by have := HK1.out; have := HK2.out; omega⟩, ⟨by (with_reducible repeat (first | apply Kd.V_alloc | apply Kd.V_drewN | apply Kd.V_drew)); exact Kd.V_mono HO_0.out (fun _ hk => ⟨hk.1.1, hk.1.2⟩)⟩, ⟨by (with_reducible repeat (first | apply Kd.R_alloc | apply Kd.R_drewN | apply Kd.R_drew)); exact HO_6.out⟩, ⟨Kd.V_mono (Kd.S_V (by (with_reducible repeat (first | apply Kd.S_alloc | apply Kd.S_drewN | apply Kd.S_drew)); exact HO290.out)) (fun k_ hk => by first | exact ⟨(.inr (hk.1.1)), hk.2⟩ | exact ⟨(.inr (hk.1)), hk.2⟩ | exact (.inr (hk)))⟩, ⟨by repeat (first | (with_reducible first | exact HB.out | apply below_alloc | apply pw_below_drewN | apply below_drew1) | exact HB.out)⟩⟩
                      · rw [if_neg c13] at H
                        exact absurd H (by simp)
                    · rw [if_neg c12] at H
                      exact absurd H (by simp)
                  · rw [if_neg c11] at H
                    exact absurd H (by simp)
              · rw [if_neg c6] at H
                have c6b0 : decide (x10_2 ≤ (l0.length : Int)) = false := decide_eq_false c6
                clear c6
                by_cases c21 : x9_2 = true
                · subst c21
                  have H1 : (if x6_1.length < 17592186044416 then (railplanref30_Critical.l0 k2 l0 t275 t276 (x6_1 ++ [x21_1]) (l0.length : Int) (wrap64 (x21_1 + 1))) else (none)) = some r := by rw [if_pos rfl] at H; exact H
                  clear H
                  have H := H1
                  clear H1
                  by_cases c22 : x6_1.length < 17592186044416
                  · rw [if_pos c22] at H
                    have LMc22 := Aside0.mk c22
                    clear c22
                    obtain ⟨y291, hy291⟩ : ∃ y_ : List Int, y_ = (x6_1 ++ [x21_1]) := ⟨_, rfl⟩
                    replace H : (railplanref30_Critical.l0 k2 l0 t275 t276 y291 (l0.length : Int) (wrap64 (x21_1 + 1))) = some r := by first | (rw [hy291]; with_reducible exact H) | (have H2_ := (Option.bind_some _ _).symm.trans H; rw [hy291]; with_reducible exact H2_) | (have H2_ := (Option.bind_some _ _).symm.trans H; with_reducible exact H2_) | with_reducible exact H | (rw [hy291]; exact H) | exact H
                    have Ny291 := Aside0.mk hy291
                    clear hy291
                    have H' := Aside0.mk H
                    clear H
                    go_wp2_with (first | ((with_reducible refine gate_builtin (b := .append) (xs := #[.tmp 61, .tmp 63]) rfl ?_); at_builtin; refine Kd.R_append (Kd.int .i64) (w0 := w) w.heap.size rfl (.tmp 61) (.tmp 63) 22 3 (.int .i64 0) 8 rfl Try.underlying22 info3 rfl (by decide) (by omega) u6 x6_1 x21_1 [.int .i64 x21_1] (fun k_ => (w.heap.size ≤ k_)) (fun _ => False) rfl rfl ?aP (fun _ hk => hk.elim) ?aF ?aO ?aB ?aS ?aL ?_; (case aP => exact rfl); (case aB => exact (by repeat (first | (with_reducible first | exact HB.out | apply below_alloc | apply pw_below_drewN | apply below_drew1) | exact HB.out))); (case aF => exact (fun k_ hk => (Nat.le_trans (below_size (by repeat (first | (with_reducible first | exact HB.out | apply below_alloc | apply pw_below_drewN | apply below_drew1) | exact HB.out))) hk))); (case aO => exact (by (with_reducible repeat (first | apply Kd.R_alloc | apply Kd.R_drewN | apply Kd.R_drew)); exact HO_6.out)); (case aS => exact (below_size (by repeat (first | (with_reducible first | exact HB.out | apply below_alloc | apply pw_below_drewN | apply below_drew1) | exact HB.out)))); (case aL => have := LMc22.out; omega); intro v292 w23 ho hb hg hat; rw [← Ny291.out] at ho; have n0_ := Aside0.mk (Kd.V_afterv (ok := (fun k_ => (P0_ k_ ∨ w.heap.size ≤ k_))) (by (with_reducible repeat (first | apply Kd.V_alloc | apply Kd.V_drewN | apply Kd.V_drew)); exact HO_0.out) hg hat); have n1_ := Aside0.mk (Kd.V_afterv (ok := (fun k_ => (P0_ k_ ∨ w.heap.size ≤ k_))) (by (with_reducible repeat (first | apply Kd.V_alloc | apply Kd.V_drewN | apply Kd.V_drew)); exact HO_8.out) hg hat); have n2_ := Aside0.mk (hb); have n3_ := Aside0.mk (ho); clear HO_0; clear HO_8; clear HB; clear HO_6; have HO_0 := n0_; have HO_8 := n1_; have HB := n2_; have HO293 := n3_; clear n0_ n1_ n2_ n3_; clear ho hb hg hat))
                    go_roundg k2
                    case measure => have := HK1.out; have := HK2.out; omega
                    case rel => exact ⟨(y291), (wrap64 (x21_1 + 1)), (by first | rfl | (simp; done) | (simp [*]; done)), H', ⟨by have := HK1.out; have := HK2.out; omega⟩, ⟨by (with_reducible repeat (first | apply Kd.V_alloc | apply Kd.V_drewN | apply Kd.V_drew)); exact HO_0.out⟩, ⟨by (with_reducible repeat (first | apply Kd.R_alloc | apply Kd.R_drewN | apply Kd.R_drew)); exact HO293.out⟩, ⟨by repeat (first | (with_reducible first | exact HB.out | apply below_alloc | apply pw_below_drewN | apply below_drew1) | exact HB.out)⟩⟩
                  · rw [if_neg c22] at H
                    exact absurd H (by simp)
                · replace c21 := Bool.eq_false_iff.mpr c21
                  subst c21
                  have H1 : (railplanref30_Critical.l0 k2 l0 t275 t276 x6_1 (l0.length : Int) (wrap64 (x21_1 + 1))) = some r := by rw [if_neg (show ¬ (false = true) by decide)] at H; exact H
                  clear H
                  have H := H1
                  clear H1
                  have H' := Aside0.mk H
                  clear H
                  go_wp2
                  go_roundg k2
                  case measure => have := HK1.out; have := HK2.out; omega
                  case rel => exact ⟨(x6_1), (wrap64 (x21_1 + 1)), (by first | rfl | (simp; done) | (simp [*]; done)), H', ⟨by have := HK1.out; have := HK2.out; omega⟩, ⟨by (with_reducible repeat (first | apply Kd.V_alloc | apply Kd.V_drewN | apply Kd.V_drew)); exact HO_0.out⟩, ⟨by (with_reducible repeat (first | apply Kd.R_alloc | apply Kd.R_drewN | apply Kd.R_drew)); exact HO_6.out⟩, ⟨by repeat (first | (with_reducible first | exact HB.out | apply below_alloc | apply pw_below_drewN | apply below_drew1) | exact HB.out)⟩⟩
        · rw [if_neg c5] at H
          have c5b0 : decide (x21_1 < (l0.length : Int)) = false := decide_eq_false c5
          clear c5
          obtain rfl := Option.some.inj H
          go_wp2
          go_ret
          exact ⟨_, by first | rfl | (simp [errW_none, errW_some] <;> rfl) | (simp [*, errW_none, errW_some] <;> rfl), by (with_reducible repeat (first | apply Kd.R_alloc | apply Kd.R_drewN | apply Kd.R_drew)); exact HO_6.out, by repeat (first | (with_reducible first | exact HB.out | apply below_alloc | apply pw_below_drewN | apply below_drew1) | exact HB.out)⟩
  · replace c3 := Bool.eq_false_iff.mpr c3
    subst c3
    have H1 : (some ([] : List Int)) = some r := by rw [if_neg (show ¬ (false = true) by decide)] at H; exact H
    clear H
    have H := H1
    clear H1
    obtain rfl := Option.some.inj H
    go_enter Try.func24, Try.ntmps24
    go_wp2_with (first | ((with_reducible refine gate_callee (f := 23) rfl ?_); refine goesL_ (some 13) rfl rfl Try.func23 (by kernel_rfl) rfl #[.slice A0 l0.length c0] rfl (by (try simp only [List.map_toArray, List.map_cons, List.map_nil]); first | done | rfl | (simp only [List.length_drop, List.length_take]; rfl)) ?_; (with_reducible refine (railplanref30_Mean.calls k (fun k_ => (P0_ k_ ∨ w.heap.size ≤ k_)) _ _ l0 t275 t276 false _ ?side1 A2.out).mono ?_); (case side1 => exact HO0.out); rintro e w24 ⟨rfl, hb⟩; refine ⟨_, rfl, ?_⟩; have n0_ := Aside0.mk (Kd.V_below (by (with_reducible repeat (first | apply Kd.V_alloc | apply Kd.V_drewN | apply Kd.V_drew)); exact HO0.out) hb); have n1_ := Aside0.mk (below_step (by repeat (first | (with_reducible first | exact HB.out | apply below_alloc | apply pw_below_drewN | apply below_drew1) | exact HB.out)) hb); clear HO0; clear HB; have HO0 := n0_; have HB := n1_; clear n0_ n1_; (try clear hb); (try clear hb2); (try clear hk); (try clear hi)))
    go_ret
    exact ⟨_, by first | rfl | (simp [errW_none, errW_some] <;> rfl) | (simp [*, errW_none, errW_some] <;> rfl), by first | exact Kd.R_nil _ _ _ _ _ | exact Kd.N_nil _ _ _ _ _ | exact Kd.V_nil _ _ _ _ _ | exact Kd.Q_nil _ _ _ _ _ | exact Kd.S_nil _ _ _ _ _, by repeat (first | (with_reducible first | exact HB.out | apply below_alloc | apply pw_below_drewN | apply below_drew1) | exact HB.out)⟩

/-! ### railplanlaw33_MaxplusLate: function 6 -/
mutual
def railplanlaw33_MaxplusLate.j0 : Nat → Int → List (List Int) → Int → Bool → Option (Bool)
  | 0, _, _, _, _ => none
  | k + 1, x3, x9, x10, x41 => if x41 = true then ((railplanlaw33_awake.f k).bind fun t302 => (some t302)) else (if 0 ≤ (x9.length : Int) then (if ((x9.length : Int) : Int).toNat ≤ 35184372088832 then ((railplanref30_Critical.f k x9).bind fun t306 => (railplanlaw33_MaxplusLate.l0 k x3 x9 x10 (List.replicate ((x9.length : Int) : Int).toNat 0) t306 (t306.length : Int) 0)) else (none)) else (none))
def railplanlaw33_MaxplusLate.l0 : Nat → Int → List (List Int) → Int → List Int → List Int → Int → Int → Option (Bool)
  | 0, _, _, _, _, _, _, _ => none
  | k + 1, x3, x9, x10, x14, x47, x48, x49 => if x49 < x48 then (if 0 ≤ x49 then (if x49 < (x47.length : Int) then ((railplankeep_Pick.f x3 1000).bind fun t310 => (if 0 ≤ (rd x47 x49) then (if (rd x47 x49) < (x14.length : Int) then (railplanlaw33_MaxplusLate.l0 k x3 x9 x10 (x14.set ((rd x47 x49) : Int).toNat (wrap64 (400 + t310))) x47 x48 (wrap64 (x49 + 1))) else (none)) else (none))) else (none)) else (none)) else ((maxplus_Recover.f k x9 x14 x10 200).bind fun bt312 => ((railplanlaw33_awake.f k).bind fun t314 => (if t314 = true then (some (!bt312.2)) else (some false))))
end
def railplanlaw33_MaxplusLate.f (k : Nat) (a0 : Int) (l1 : List Int) (a2 : Int) (a3 : Int) : Option (Bool) := (railplankeep_Pick.f a0 4).bind fun t294 => ((railplankeep2_Matrix.f k (wrap64 (1 + t294)) l1).bind fun t295 => ((railplankeep_Pick.f a2 25).bind fun t298 => ((railplanref30_Mean.f k t295).bind fun bt299 => (if bt299.2.2 = true then (railplanlaw33_MaxplusLate.j0 k a3 t295 (wrap64 (1 + t298)) (decide (bt299.1 ≤ (wrap64 ((wrap64 (1 + t298)) * bt299.2.1))))) else (railplanlaw33_MaxplusLate.j0 k a3 t295 (wrap64 (1 + t298)) true)))))
theorem railplanlaw33_MaxplusLate.mono_l : ∀ k, (∀ y0 y1 y2 y3, LeO (railplanlaw33_MaxplusLate.j0 k y0 y1 y2 y3) (railplanlaw33_MaxplusLate.j0 (k + 1) y0 y1 y2 y3)) ∧ (∀ y0 y1 y2 y3 y4 y5 y6, LeO (railplanlaw33_MaxplusLate.l0 k y0 y1 y2 y3 y4 y5 y6) (railplanlaw33_MaxplusLate.l0 (k + 1) y0 y1 y2 y3 y4 y5 y6))
  | 0 => ⟨fun _ _ _ _ r h => by simp [railplanlaw33_MaxplusLate.j0] at h, fun _ _ _ _ _ _ _ r h => by simp [railplanlaw33_MaxplusLate.l0] at h⟩
  | k + 1 => by
    obtain ⟨ih0, ih1⟩ := railplanlaw33_MaxplusLate.mono_l k
    refine ⟨?_, ?_⟩
    · intro y0 y1 y2 y3
      unfold railplanlaw33_MaxplusLate.j0
      repeat' first
      | (with_reducible exact ih0 _ _ _ _)
      | (with_reducible exact ih1 _ _ _ _ _ _ _)
      | (with_reducible exact maxplus_Recover.mono _ _ _ _ _)
      | (with_reducible exact railplankeep2_Matrix.mono _ _ _)
      | (with_reducible exact railplanlaw33_awake.mono _)
      | (with_reducible exact railplanref30_Critical.mono _ _)
      | (with_reducible exact railplanref30_Mean.mono _ _)
      | (with_reducible exact LeO.refl _)
      | (with_reducible exact LeO.none _)
      | (with_reducible refine LeO.ite ?_ ?_)
      | (with_reducible refine LeO.bind ?_ (fun _ => ?_))
      | exact ih0 _ _ _ _
      | exact ih1 _ _ _ _ _ _ _
      | exact maxplus_Recover.mono _ _ _ _ _
      | exact railplankeep2_Matrix.mono _ _ _
      | exact railplanlaw33_awake.mono _
      | exact railplanref30_Critical.mono _ _
      | exact railplanref30_Mean.mono _ _
      | exact LeO.none _
      | refine LeO.ite ?_ ?_
      | refine LeO.bind ?_ (fun _ => ?_)
    · intro y0 y1 y2 y3 y4 y5 y6
      unfold railplanlaw33_MaxplusLate.l0
      repeat' first
      | (with_reducible exact ih0 _ _ _ _)
      | (with_reducible exact ih1 _ _ _ _ _ _ _)
      | (with_reducible exact maxplus_Recover.mono _ _ _ _ _)
      | (with_reducible exact railplankeep2_Matrix.mono _ _ _)
      | (with_reducible exact railplanlaw33_awake.mono _)
      | (with_reducible exact railplanref30_Critical.mono _ _)
      | (with_reducible exact railplanref30_Mean.mono _ _)
      | (with_reducible exact LeO.refl _)
      | (with_reducible exact LeO.none _)
      | (with_reducible refine LeO.ite ?_ ?_)
      | (with_reducible refine LeO.bind ?_ (fun _ => ?_))
      | exact ih0 _ _ _ _
      | exact ih1 _ _ _ _ _ _ _
      | exact maxplus_Recover.mono _ _ _ _ _
      | exact railplankeep2_Matrix.mono _ _ _
      | exact railplanlaw33_awake.mono _
      | exact railplanref30_Critical.mono _ _
      | exact railplanref30_Mean.mono _ _
      | exact LeO.none _
      | refine LeO.ite ?_ ?_
      | refine LeO.bind ?_ (fun _ => ?_)
theorem railplanlaw33_MaxplusLate.mono : ∀ a0 a1 a2 a3 k, LeO (railplanlaw33_MaxplusLate.f k a0 a1 a2 a3) (railplanlaw33_MaxplusLate.f (k + 1) a0 a1 a2 a3) := by
  intro a0 a1 a2 a3 k
  obtain ⟨ih0, ih1⟩ := railplanlaw33_MaxplusLate.mono_l k
  unfold railplanlaw33_MaxplusLate.f
  repeat' first
      | (with_reducible exact ih0 _ _ _ _)
      | (with_reducible exact ih1 _ _ _ _ _ _ _)
      | (with_reducible exact maxplus_Recover.mono _ _ _ _ _)
      | (with_reducible exact railplankeep2_Matrix.mono _ _ _)
      | (with_reducible exact railplanlaw33_awake.mono _)
      | (with_reducible exact railplanref30_Critical.mono _ _)
      | (with_reducible exact railplanref30_Mean.mono _ _)
      | (with_reducible exact LeO.refl _)
      | (with_reducible exact LeO.none _)
      | (with_reducible refine LeO.ite ?_ ?_)
      | (with_reducible refine LeO.bind ?_ (fun _ => ?_))
      | exact ih0 _ _ _ _
      | exact ih1 _ _ _ _ _ _ _
      | exact maxplus_Recover.mono _ _ _ _ _
      | exact railplankeep2_Matrix.mono _ _ _
      | exact railplanlaw33_awake.mono _
      | exact railplanref30_Critical.mono _ _
      | exact railplanref30_Mean.mono _ _
      | exact LeO.none _
      | refine LeO.ite ?_ ?_
      | refine LeO.bind ?_ (fun _ => ?_)
set_option maxHeartbeats 8000000 in
set_option maxRecDepth 100000 in
theorem railplanlaw33_MaxplusLate.calls (k : Nat) (a0 : Int) (A1 : Option Addr) (c1 : Nat) (l1 : List Int) (a2 : Int) (a3 : Int) (r : Bool) (w : World) (hr1 : Kd.C (Kd.int .i64) w A1 l1.length l1) (hc1 : l1.length ≤ c1) (h : railplanlaw33_MaxplusLate.f k a0 l1 a2 a3 = some r) (hT : Aside0 (r = true)) :
    Calls Try.prog 6 #[.int .i64 a0, .slice A1 l1.length c1, .int .i64 a2, .int .i64 a3] w fun e w' => e = .returned (.bool r) ∧ Below w.heap.size w w' := by
  have HR1 := Aside0.mk hr1
  have HC1 := Aside0.mk hc1
  clear hr1 hc1
  have HB := Aside0.mk (Below.refl w.heap.size w)
  have H : ((railplankeep_Pick.f a0 4).bind fun t294 => ((railplankeep2_Matrix.f k (wrap64 (1 + t294)) l1).bind fun t295 => ((railplankeep_Pick.f a2 25).bind fun t298 => ((railplanref30_Mean.f k t295).bind fun bt299 => (if bt299.2.2 = true then (railplanlaw33_MaxplusLate.j0 k a3 t295 (wrap64 (1 + t298)) (decide (bt299.1 ≤ (wrap64 ((wrap64 (1 + t298)) * bt299.2.1))))) else (railplanlaw33_MaxplusLate.j0 k a3 t295 (wrap64 (1 + t298)) true)))))) = some r := h
  clear h
  replace H := Option.bind_eq_some_iff.mp H
  obtain ⟨t294, A50, H⟩ := H
  replace H : ((railplankeep2_Matrix.f k (wrap64 (1 + t294)) l1).bind fun t295 => ((railplankeep_Pick.f a2 25).bind fun t298 => ((railplanref30_Mean.f k t295).bind fun bt299 => (if bt299.2.2 = true then (railplanlaw33_MaxplusLate.j0 k a3 t295 (wrap64 (1 + t298)) (decide (bt299.1 ≤ (wrap64 ((wrap64 (1 + t298)) * bt299.2.1))))) else (railplanlaw33_MaxplusLate.j0 k a3 t295 (wrap64 (1 + t298)) true))))) = some r := H
  have A5 := Aside0.mk A50
  clear A50
  replace H := Option.bind_eq_some_iff.mp H
  obtain ⟨t295, A60, H⟩ := H
  replace H : ((railplankeep_Pick.f a2 25).bind fun t298 => ((railplanref30_Mean.f k t295).bind fun bt299 => (if bt299.2.2 = true then (railplanlaw33_MaxplusLate.j0 k a3 t295 (wrap64 (1 + t298)) (decide (bt299.1 ≤ (wrap64 ((wrap64 (1 + t298)) * bt299.2.1))))) else (railplanlaw33_MaxplusLate.j0 k a3 t295 (wrap64 (1 + t298)) true)))) = some r := H
  have A6 := Aside0.mk A60
  clear A60
  replace H := Option.bind_eq_some_iff.mp H
  obtain ⟨t298, A70, H⟩ := H
  replace H : ((railplanref30_Mean.f k t295).bind fun bt299 => (if bt299.2.2 = true then (railplanlaw33_MaxplusLate.j0 k a3 t295 (wrap64 (1 + t298)) (decide (bt299.1 ≤ (wrap64 ((wrap64 (1 + t298)) * bt299.2.1))))) else (railplanlaw33_MaxplusLate.j0 k a3 t295 (wrap64 (1 + t298)) true))) = some r := H
  have A7 := Aside0.mk A70
  clear A70
  replace H := Option.bind_eq_some_iff.mp H
  obtain ⟨⟨t299, t300, t301⟩, A80, H⟩ := H
  replace H : (if t301 = true then (railplanlaw33_MaxplusLate.j0 k a3 t295 (wrap64 (1 + t298)) (decide (t299 ≤ (wrap64 ((wrap64 (1 + t298)) * t300))))) else (railplanlaw33_MaxplusLate.j0 k a3 t295 (wrap64 (1 + t298)) true)) = some r := H
  have A8 := Aside0.mk A80
  clear A80
  have HC9 := Aside0.mk H
  clear H
  go_enter Try.func6, Try.ntmps6
  go_upto_region 4 with (first | ((with_reducible refine gate_callee (f := 14) rfl ?_); refine goesL_ (some 20) rfl rfl Try.func14 (by kernel_rfl) rfl #[.int .i64 a0, .int .i64 4] rfl (by (try simp only [List.map_toArray, List.map_cons, List.map_nil]); first | done | rfl | (simp only [List.length_drop, List.length_take]; rfl)) ?_; (with_reducible refine (railplankeep_Pick.calls a0 4 t294 _ A5.out).mono ?_); rintro e w' ⟨rfl, ⟨nd, rfl⟩⟩; refine ⟨_, rfl, ?_⟩) | ((with_reducible refine gate_callee (f := 13) rfl ?_); refine goesL_ (some 23) rfl rfl Try.func13 (by kernel_rfl) rfl #[.int .i64 (wrap64 (1 + t294)), .slice A1 l1.length c1] rfl (by (try simp only [List.map_toArray, List.map_cons, List.map_nil]); first | done | rfl | (simp only [List.length_drop, List.length_take]; rfl)) ?_; (with_reducible refine (railplankeep2_Matrix.calls k (wrap64 (1 + t294)) _ _ l1 t295 _ ?side1 ?side2 A6.out).mono ?_); (case side1 => repeat (first | exact HR1.out | (with_reducible refine Kd.C_alloc ?_ _) | (with_reducible refine Kd.C_drewN ?_ _) | (with_reducible refine Kd.C_drew ?_))); (case side2 => exact HC1.out); rintro e w10 ⟨v296, rfl, ho0, hb⟩; refine ⟨_, rfl, ?_⟩; have n0_ := Aside0.mk (Kd.S_lower ho0 (below_size (by repeat (first | (with_reducible first | exact HB.out | apply below_alloc | apply pw_below_drewN | apply below_drew1) | exact HB.out)))); have n1_ := Aside0.mk (below_step (by repeat (first | (with_reducible first | exact HB.out | apply below_alloc | apply pw_below_drewN | apply below_drew1) | exact HB.out)) hb); clear HB; have HO297 := n0_; have HB := n1_; clear n0_ n1_; (try clear hb); (try clear hb2); (try clear hk); (try clear hi); (try clear ho0)) | ((with_reducible refine gate_callee (f := 14) rfl ?_); refine goesL_ (some 25) rfl rfl Try.func14 (by kernel_rfl) rfl #[.int .i64 a2, .int .i64 25] rfl (by (try simp only [List.map_toArray, List.map_cons, List.map_nil]); first | done | rfl | (simp only [List.length_drop, List.length_take]; rfl)) ?_; (with_reducible refine (railplankeep_Pick.calls a2 25 t298 _ A7.out).mono ?_); rintro e w' ⟨rfl, ⟨nd, rfl⟩⟩; refine ⟨_, rfl, ?_⟩; obtain ⟨Ao11, co11, eo11⟩ := Kd.S_slice HO297.out; subst eo11) | ((with_reducible refine gate_callee (f := 23) rfl ?_); refine goesL_ (some 29) rfl rfl Try.func23 (by kernel_rfl) rfl #[.slice Ao11 t295.length co11] rfl (by (try simp only [List.map_toArray, List.map_cons, List.map_nil]); first | done | rfl | (simp only [List.length_drop, List.length_take]; rfl)) ?_; (with_reducible refine (railplanref30_Mean.calls k (fun k_ => True) _ _ t295 t299 t300 t301 _ ?side1 A8.out).mono ?_); (case side1 => exact Kd.S_V (HO297.out)); rintro e w12 ⟨rfl, hb⟩; refine ⟨_, rfl, ?_⟩; have n0_ := Aside0.mk (Kd.S_below (by (with_reducible repeat (first | apply Kd.S_alloc | apply Kd.S_drewN | apply Kd.S_drew)); exact HO297.out) hb); have n1_ := Aside0.mk (below_step (by repeat (first | (with_reducible first | exact HB.out | apply below_alloc | apply pw_below_drewN | apply below_drew1) | exact HB.out)) hb); clear HO297; clear HB; have HO297 := n0_; have HB := n1_; clear n0_ n1_; (try clear hb); (try clear hb2); (try clear hk); (try clear hi)))
  (try simp only [Act.put, List.setIfInBounds_toArray, List.set_cons_zero, List.set_cons_succ])
  go_cut [41] (fun v41 wc => ∃ (kq : Nat) (x41_8 : Bool), v41 = .bool x41_8 ∧ Aside0 (railplanlaw33_MaxplusLate.j0 kq a3 t295 (wrap64 (1 + t298)) x41_8 = some r) ∧ Aside0 (kq ≤ k) ∧ Aside0 (Kd.S (Kd.slice 3 (Kd.int .i64)) 22 wc w.heap.size (fun _ => True) (.slice Ao11 t295.length co11) t295) ∧ Aside0 (Below w.heap.size w wc))
  case first =>
    have H := HC9.out
    clear HC9
    by_cases c13 : t301 = true
    · subst c13
      have H1 : (railplanlaw33_MaxplusLate.j0 k a3 t295 (wrap64 (1 + t298)) (decide (t299 ≤ (wrap64 ((wrap64 (1 + t298)) * t300))))) = some r := by rw [if_pos rfl] at H; exact H
      clear H
      have H := H1
      clear H1
      have H' := Aside0.mk H
      clear H
      go_wp2
      go_meet
      case rel => exact ⟨_, (decide (t299 ≤ (wrap64 ((wrap64 (1 + t298)) * t300)))), (by first | rfl | (simp; done) | (simp [*]; done)), H', ⟨by first | omega | exact Nat.le_refl _⟩, ⟨by (with_reducible repeat (first | apply Kd.S_alloc | apply Kd.S_drewN | apply Kd.S_drew)); exact HO297.out⟩, ⟨by repeat (first | (with_reducible first | exact HB.out | apply below_alloc | apply pw_below_drewN | apply below_drew1) | exact HB.out)⟩⟩
    · replace c13 := Bool.eq_false_iff.mpr c13
      subst c13
      have H1 : (railplanlaw33_MaxplusLate.j0 k a3 t295 (wrap64 (1 + t298)) true) = some r := by rw [if_neg (show ¬ (false = true) by decide)] at H; exact H
      clear H
      have H := H1
      clear H1
      have H' := Aside0.mk H
      clear H
      go_wp2
      go_meet
      case rel => exact ⟨_, (true), (by first | rfl | (simp; done) | (simp [*]; done)), H', ⟨by first | omega | exact Nat.le_refl _⟩, ⟨by (with_reducible repeat (first | apply Kd.S_alloc | apply Kd.S_drewN | apply Kd.S_drew)); exact HO297.out⟩, ⟨by repeat (first | (with_reducible first | exact HB.out | apply below_alloc | apply pw_below_drewN | apply below_drew1) | exact HB.out)⟩⟩
  case rest =>
    clear HC9
    try clear c1
    try clear c2
    try clear p2
    try clear c6
    try clear p6
    try clear c13
    obtain ⟨kq, x41_8, rfl, HA, HJ8, HO_9, HB⟩ := hcut
    cases kq with
    | zero => exact absurd HA.out (by simp [railplanlaw33_MaxplusLate.j0])
    | succ kj8 =>
      have H := HA.out
      clear HA
      simp only [railplanlaw33_MaxplusLate.j0] at H
      by_cases c14 : x41_8 = true
      · subst c14
        have H1 : ((railplanlaw33_awake.f kj8).bind fun t302 => (some t302)) = some r := by rw [if_pos rfl] at H; exact H
        clear H
        have H := H1
        clear H1
        replace H := Option.bind_eq_some_iff.mp H
        obtain ⟨t302, A150, H⟩ := H
        replace H : (some t302) = some r := H
        have A15 := Aside0.mk A150
        clear A150
        obtain rfl := Option.some.inj H
        go_wp2_with (first | ((with_reducible refine gate_callee (f := 17) rfl ?_); refine goesL_ (some 42) rfl rfl Try.func17 (by kernel_rfl) rfl #[] rfl (by (try simp only [List.map_toArray, List.map_cons, List.map_nil]); first | done | rfl | (simp only [List.length_drop, List.length_take]; rfl)) ?_; (with_reducible refine (railplanlaw33_awake.calls kj8  t302 _ A15.out ⟨by first | rfl | assumption | exact hT.out⟩).mono ?_); rintro e w16 ⟨rfl, hb⟩; refine ⟨_, rfl, ?_⟩; have n0_ := Aside0.mk (Kd.S_below (by (with_reducible repeat (first | apply Kd.S_alloc | apply Kd.S_drewN | apply Kd.S_drew)); exact HO_9.out) hb); have n1_ := Aside0.mk (below_step (by repeat (first | (with_reducible first | exact HB.out | apply below_alloc | apply pw_below_drewN | apply below_drew1) | exact HB.out)) hb); clear HO_9; clear HB; have HO_9 := n0_; have HB := n1_; clear n0_ n1_; (try clear hb); (try clear hb2); (try clear hk); (try clear hi)))
        go_ret
        exact ⟨by first | rfl | (simp [errW_none, errW_some] <;> rfl) | (simp [*, errW_none, errW_some] <;> rfl), by repeat (first | (with_reducible first | exact HB.out | apply below_alloc | apply pw_below_drewN | apply below_drew1) | exact HB.out)⟩
      · replace c14 := Bool.eq_false_iff.mpr c14
        subst c14
        have H1 : (if 0 ≤ (t295.length : Int) then (if ((t295.length : Int) : Int).toNat ≤ 35184372088832 then ((railplanref30_Critical.f kj8 t295).bind fun t306 => (railplanlaw33_MaxplusLate.l0 kj8 a3 t295 (wrap64 (1 + t298)) (List.replicate ((t295.length : Int) : Int).toNat 0) t306 (t306.length : Int) 0)) else (none)) else (none)) = some r := by rw [if_neg (show ¬ (false = true) by decide)] at H; exact H
        clear H
        have H := H1
        clear H1
        by_cases c17 : 0 ≤ (t295.length : Int)
        · rw [if_pos c17] at H
          have c17b0 := eq_true c17
          have c17b1 : decide (0 ≤ (t295.length : Int)) = true := decide_eq_true c17
          clear c17
          by_cases c18 : ((t295.length : Int) : Int).toNat ≤ 35184372088832
          · rw [if_pos c18] at H
            have c18b0 := eq_true c18
            have c18b1 : decide (((t295.length : Int) : Int).toNat ≤ 35184372088832) = true := decide_eq_true c18
            clear c18
            obtain ⟨y303, hy303⟩ : ∃ y_ : List Int, y_ = (List.replicate ((t295.length : Int) : Int).toNat 0) := ⟨_, rfl⟩
            replace H : ((railplanref30_Critical.f kj8 t295).bind fun t306 => (railplanlaw33_MaxplusLate.l0 kj8 a3 t295 (wrap64 (1 + t298)) y303 t306 (t306.length : Int) 0)) = some r := by first | (rw [hy303]; with_reducible exact H) | (have H2_ := (Option.bind_some _ _).symm.trans H; rw [hy303]; with_reducible exact H2_) | (have H2_ := (Option.bind_some _ _).symm.trans H; with_reducible exact H2_) | with_reducible exact H | (rw [hy303]; exact H) | exact H
            have Ny303 := Aside0.mk hy303
            clear hy303
            replace H := Option.bind_eq_some_iff.mp H
            obtain ⟨t306, A190, H⟩ := H
            replace H : (railplanlaw33_MaxplusLate.l0 kj8 a3 t295 (wrap64 (1 + t298)) y303 t306 (t306.length : Int) 0) = some r := H
            have A19 := Aside0.mk A190
            clear A190
            have H' := Aside0.mk H
            clear H
            go_wp2_with (first | ((with_reducible refine gate_dst (N := 45) rfl ?_); refine Kd.R_make (Kd.int .i64) _ 3 rfl (N := 45) rfl 22 _ _ rfl (t295.length : Int) rfl rfl Try.underlying22 (.int .i64 0) 8 info3 rfl (by decide) (by omega) 0 (ok := fun _ => True) (okp := fun _ => True) rfl (fun _ hk => hk) trivial (of_decide_eq_true (by first | (with_reducible assumption) | assumption)) (Nat.le_trans (Nat.mul_le_mul_right _ (of_decide_eq_true (by first | (with_reducible assumption) | assumption) : (t295.length : Int).toNat ≤ 35184372088832)) (by omega)) (Below.refl _ _) (Nat.le_refl _) ?_; intro v304 w20 ho21 hb hg_ hnew_; clear hg_ hnew_; (first | rw [← Ny303.out] at ho21 | (simp only [Int.reduceToNat] at ho21; rw [← Ny303.out] at ho21)); have n0_ := Aside0.mk (Kd.S_elder' (by (with_reducible repeat (first | apply Kd.S_alloc | apply Kd.S_drewN | apply Kd.S_drew)); exact HO_9.out) (by first | exact Kd.N_base ho21 | exact Kd.S_base ho21 | exact Kd.R_base ho21 | exact Kd.Q_base ho21) hb); have n1_ := Aside0.mk (Kd.R_lower ho21 (below_size (by repeat (first | (with_reducible first | exact HB.out | apply below_alloc | apply pw_below_drewN | apply below_drew1) | exact HB.out)))); have n2_ := Aside0.mk (below_step (by repeat (first | (with_reducible first | exact HB.out | apply below_alloc | apply pw_below_drewN | apply below_drew1) | exact HB.out)) hb); clear HO_9; clear HB; have HO_9 := n0_; have HO305 := n1_; have HB := n2_; clear n0_ n1_ n2_; clear hb ho21) | ((with_reducible refine gate_callee (f := 24) rfl ?_); refine goesL_ (some 47) rfl rfl Try.func24 (by kernel_rfl) rfl #[.slice Ao11 t295.length co11] rfl (by (try simp only [List.map_toArray, List.map_cons, List.map_nil]); first | done | rfl | (simp only [List.length_drop, List.length_take]; rfl)) ?_; (with_reducible refine (railplanref30_Critical.calls kj8 (fun k_ => (True ∧ some k_ ≠ (v304 : Value).ownBlock)) _ _ t295 t306 _ ?side1 A19.out).mono ?_); (case side1 => exact Kd.S_V (HO_9.out)); rintro e w22 ⟨v307, rfl, ho0, hb⟩; refine ⟨_, rfl, ?_⟩; have n0_ := Aside0.mk (Kd.S_elder' (by (with_reducible repeat (first | apply Kd.S_alloc | apply Kd.S_drewN | apply Kd.S_drew)); exact HO_9.out) (by first | exact Kd.N_base ho0 | exact Kd.S_base ho0 | exact Kd.R_base ho0 | exact Kd.Q_base ho0) hb); have n1_ := Aside0.mk (Kd.R_elder' (by (with_reducible repeat (first | apply Kd.R_alloc | apply Kd.R_drewN | apply Kd.R_drew)); exact HO305.out) (by first | exact Kd.N_base ho0 | exact Kd.S_base ho0 | exact Kd.R_base ho0 | exact Kd.Q_base ho0) hb); have n2_ := Aside0.mk (Kd.R_lower (Kd.R_new' (Kd.R_mono (ok' := fun k_ => True) ho0 (fun _ hk_ => trivial)) (Kd.R_lt (by (with_reducible repeat (first | apply Kd.R_alloc | apply Kd.R_drewN | apply Kd.R_drew)); exact HO305.out))) (below_size (by repeat (first | (with_reducible first | exact HB.out | apply below_alloc | apply pw_below_drewN | apply below_drew1) | exact HB.out)))); have n3_ := Aside0.mk (below_step (by repeat (first | (with_reducible first | exact HB.out | apply below_alloc | apply pw_below_drewN | apply below_drew1) | exact HB.out)) hb); clear HO_9; clear HO305; clear HB; have HO_9 := n0_; have HO305 := n1_; have HO308 := n2_; have HB := n3_; clear n0_ n1_ n2_ n3_; (try clear hb); (try clear hb2); (try clear hk); (try clear hi); (try clear ho0); obtain ⟨Ao23, co23, eo23⟩ := Kd.R_slice HO308.out; subst eo23))
            go_loopg [49] kj8 (fun kq v49 w' => ∃ (x14_2 : List Int) (x49_2 : Int), v49 = .int .i64 x49_2 ∧ Aside0 (railplanlaw33_MaxplusLate.l0 kq a3 t295 (wrap64 (1 + t298)) x14_2 t306 (t306.length : Int) x49_2 = some r) ∧ Aside0 (kq ≤ kj8) ∧ Aside0 (Kd.S (Kd.slice 3 (Kd.int .i64)) 22 w' w.heap.size (fun k_ => some k_ ≠ (v304 : Value).ownBlock ∧ some k_ ≠ ((.slice Ao23 t306.length co23) : Value).ownBlock) (.slice Ao11 t295.length co11) t295) ∧ Aside0 (Kd.R (Kd.int .i64) 3 w' w.heap.size (fun k_ => some k_ ≠ ((.slice Ao23 t306.length co23) : Value).ownBlock) v304 x14_2) ∧ Aside0 (Kd.R (Kd.int .i64) 3 w' w.heap.size (fun k_ => some k_ ≠ (v304 : Value).ownBlock) (.slice Ao23 t306.length co23) t306) ∧ Aside0 (Below w.heap.size w w'))
            case atStart => exact ⟨(y303), (0), (by first | rfl | (simp; done) | (simp [*]; done)), H', ⟨Nat.le_refl _⟩, ⟨by (with_reducible repeat (first | apply Kd.S_alloc | apply Kd.S_drewN | apply Kd.S_drew)); exact Kd.S_mono HO_9.out (fun _ hk => ⟨hk.1.2, hk.2⟩)⟩, ⟨by (with_reducible repeat (first | apply Kd.R_alloc | apply Kd.R_drewN | apply Kd.R_drew)); exact Kd.R_mono HO305.out (fun _ hk => hk.2)⟩, ⟨by (with_reducible repeat (first | apply Kd.R_alloc | apply Kd.R_drewN | apply Kd.R_drew)); exact Kd.R_mono HO308.out (fun _ hk => hk.2)⟩, ⟨by repeat (first | (with_reducible first | exact HB.out | apply below_alloc | apply pw_below_drewN | apply below_drew1) | exact HB.out)⟩⟩
            case round =>
              clear H'
              try clear c1
              try clear c2
              try clear p2
              try clear c6
              try clear p6
              try clear c13
              try clear c14
              try clear c17
              try clear c17b0
              try clear c17b1
              try clear c18
              try clear c18b0
              try clear c18b1
              try clear c23
              try clear p2
              try clear p6
              obtain ⟨x14_2, x49_2, rfl, HA, HK2, HO_9, HO_14, HO_47, HB⟩ := hrel
              cases gk with
              | zero => exact absurd HA.out (by simp [railplanlaw33_MaxplusLate.l0])
              | succ k2 =>
                have H := HA.out
                clear HA
                simp only [railplanlaw33_MaxplusLate.l0] at H
                by_cases c24 : x49_2 < (t306.length : Int)
                · rw [if_pos c24] at H
                  have c24b0 : decide (x49_2 < (t306.length : Int)) = true := decide_eq_true c24
                  clear c24
                  by_cases c25 : 0 ≤ x49_2
                  · rw [if_pos c25] at H
                    have c25b0 : decide (0 ≤ x49_2) = true := decide_eq_true c25
                    clear c25
                    by_cases c26 : x49_2 < (t306.length : Int)
                    · rw [if_pos c26] at H
                      have c26b0 : decide (x49_2 < (t306.length : Int)) = true := decide_eq_true c26
                      clear c26
                      replace H := Option.bind_eq_some_iff.mp H
                      obtain ⟨t310, A270, H⟩ := H
                      replace H : (if 0 ≤ (rd t306 x49_2) then (if (rd t306 x49_2) < (x14_2.length : Int) then (railplanlaw33_MaxplusLate.l0 k2 a3 t295 (wrap64 (1 + t298)) (x14_2.set ((rd t306 x49_2) : Int).toNat (wrap64 (400 + t310))) t306 (t306.length : Int) (wrap64 (x49_2 + 1))) else (none)) else (none)) = some r := H
                      have A27 := Aside0.mk A270
                      clear A270
                      by_cases c28 : 0 ≤ (rd t306 x49_2)
                      · rw [if_pos c28] at H
                        have c28b0 : decide (0 ≤ (rd t306 x49_2)) = true := decide_eq_true c28
                        clear c28
                        by_cases c29 : (rd t306 x49_2) < (x14_2.length : Int)
                        · rw [if_pos c29] at H
                          have c29b0 : decide ((rd t306 x49_2) < (x14_2.length : Int)) = true := decide_eq_true c29
                          clear c29
                          obtain ⟨y311, hy311⟩ : ∃ y_ : List Int, y_ = (x14_2.set ((rd t306 x49_2) : Int).toNat (wrap64 (400 + t310))) := ⟨_, rfl⟩
                          replace H : (railplanlaw33_MaxplusLate.l0 k2 a3 t295 (wrap64 (1 + t298)) y311 t306 (t306.length : Int) (wrap64 (x49_2 + 1))) = some r := by first | (rw [hy311]; with_reducible exact H) | (have H2_ := (Option.bind_some _ _).symm.trans H; rw [hy311]; with_reducible exact H2_) | (have H2_ := (Option.bind_some _ _).symm.trans H; with_reducible exact H2_) | with_reducible exact H | (rw [hy311]; exact H) | exact H
                          have Ny311 := Aside0.mk hy311
                          clear hy311
                          have H' := Aside0.mk H
                          clear H
                          have p309 : 0 ≤ (x49_2 : Int) := of_decide_eq_true (by first | (with_reducible assumption) | assumption)
                          have q309 : x49_2 < (t306.length : Int) := of_decide_eq_true (by first | (with_reducible assumption) | assumption)
                          obtain ⟨ad309, e309, hx309_0⟩ := Kd.at_int (Kd.R_reads' HO_47.out).2.2 x49_2 p309 q309
                          cases e309
                          replace p309 := eq_true p309
                          replace q309 := eq_true q309
                          go_wp2_with (first | ((with_reducible refine gate_callee (f := 14) rfl ?_); refine goesL_ (some 56) rfl rfl Try.func14 (by kernel_rfl) rfl #[.int .i64 a3, .int .i64 1000] rfl (by (try simp only [List.map_toArray, List.map_cons, List.map_nil]); first | done | rfl | (simp only [List.length_drop, List.length_take]; rfl)) ?_; (with_reducible refine (railplankeep_Pick.calls a3 1000 t310 _ A27.out).mono ?_); rintro e w' ⟨rfl, ⟨nd, rfl⟩⟩; refine ⟨_, rfl, ?_⟩; (try (rw [drewN_self wr]; generalize hq_ : World.drewN wr _ = wr; have n0_ : Aside0 (Kd.R (Kd.int .i64) 3 wr w.heap.size (fun k_ => some k_ ≠ (.slice (some ad309) t306.length co23 : Value).ownBlock) v304 x14_2) := ⟨by rw [← hq_]; exact (by (with_reducible repeat (first | apply Kd.R_alloc | apply Kd.R_drewN | apply Kd.R_drew)); exact HO_14.out)⟩; have n1_ : Aside0 (Kd.R (Kd.int .i64) 3 wr w.heap.size (fun k_ => some k_ ≠ (v304 : Value).ownBlock) (.slice (some ad309) t306.length co23) t306) := ⟨by rw [← hq_]; exact (by (with_reducible repeat (first | apply Kd.R_alloc | apply Kd.R_drewN | apply Kd.R_drew)); exact HO_47.out)⟩; have n2_ : Aside0 (Kd.S (Kd.slice 3 (Kd.int .i64)) 22 wr w.heap.size (fun k_ => some k_ ≠ (v304 : Value).ownBlock ∧ some k_ ≠ (.slice (some ad309) t306.length co23 : Value).ownBlock) (.slice Ao11 t295.length co11) t295) := ⟨by rw [← hq_]; exact (by (with_reducible repeat (first | apply Kd.S_alloc | apply Kd.S_drewN | apply Kd.S_drew)); exact HO_9.out)⟩; have n3_ : Aside0 (Below w.heap.size w wr) := ⟨by rw [← hq_]; exact (by repeat (first | (with_reducible first | exact HB.out | apply below_alloc | apply pw_below_drewN | apply below_drew1) | exact HB.out))⟩; clear HO_14 HO_47 HO_9 HB hq_; have HO_14 := n0_; have HO_47 := n1_; have HO_9 := n2_; have HB := n3_; clear n0_ n1_ n2_ n3_)); have p30 : 0 ≤ ((rd t306 x49_2) : Int) := of_decide_eq_true (by first | (with_reducible assumption) | assumption); have q30 : ((rd t306 x49_2) : Int) < ((x14_2.length : Int) : Int) := of_decide_eq_true (by first | (with_reducible assumption) | assumption); obtain ⟨go30, co30, eo30, gb30, gl30, cl30, HG30⟩ := Kd.R_form HO_14.out (by omega); (first | cases eo30 | (injection eo30 with ea_ en_ ec_; (first | subst ea_ | (injection ea_ with ea_; subst ea_)); subst ec_; clear en_)); have GB30 := Aside0.mk gb30; have GG30 := Aside0.mk HG30; clear gb30 gl30 HG30; obtain ⟨hx30_0, hf30_0⟩ := Kd.R_celln 0 HO_14.out ((rd t306 x49_2) : Int) p30 q30; replace p30 := eq_true p30; replace q30 := eq_true q30; obtain ⟨hy31_, hz31_⟩ := Kd.R_celln 0 HO_14.out ((rd t306 x49_2) : Int) (of_decide_eq_true (by first | (with_reducible assumption) | assumption)) (of_decide_eq_true (by first | (with_reducible assumption) | assumption)); have HP31 := Kd.R_putg HO_14.out ((rd t306 x49_2) : Int) (wrap64 (400 + t310))) | ((with_reducible refine gate_store (t := 3) (p := 58) rfl ?_); refine store_event (t := 3) (p := 58) (v := ?vo_w32) (w1 := (wr.setCell ⟨go30, ((rd t306 x49_2) : Int).toNat, none⟩ (.int .i64 (wrap64 (400 + t310))))) ?hg ?ho ?hn ?hr ?_; (case ho => rfl); (case hg => rfl); (case hn => rfl); (case hr => first | (go_simp; done) | (go_simp; rfl)); intro w32 hw; have hg : wr.grownBy w32 (some go30) := (by rw [hw]; exact HP31.2); have hp_ : Kd.R (Kd.int .i64) 3 w32 w.heap.size (fun k_ => some k_ ≠ (.slice (some ad309) t306.length co23 : Value).ownBlock) (.slice (some ⟨go30, 0, none⟩) x14_2.length co30) y311 := (by rw [hw, Ny311.out]; exact HP31.1); clear HP31; have n0_ := Aside0.mk (Kd.S_after (v := (.slice (some ⟨go30, 0, none⟩) x14_2.length co30)) (v1 := (.slice (some ⟨go30, 0, none⟩) x14_2.length co30)) (ok := (fun k_ => some k_ ≠ (.slice (some ad309) t306.length co23 : Value).ownBlock)) (by (with_reducible repeat (first | apply Kd.S_alloc | apply Kd.S_drewN | apply Kd.S_drew)); exact Kd.S_mono HO_9.out (fun _ hk => ⟨hk.2, hk.1⟩)) hg (.inl rfl)); have n1_ := Aside0.mk (hp_); have n2_ := Aside0.mk (Kd.R_after (v := (.slice (some ⟨go30, 0, none⟩) x14_2.length co30)) (v1 := (.slice (some ⟨go30, 0, none⟩) x14_2.length co30)) (ok := (fun _ => True)) (by (with_reducible repeat (first | apply Kd.R_alloc | apply Kd.R_drewN | apply Kd.R_drew)); exact Kd.R_mono HO_47.out (fun _ hk => ⟨trivial, hk⟩)) hg (.inl rfl)); have n3_ := Aside0.mk ((by rw [hw]; exact below_set (HB.out) GB30.out : Below w.heap.size w w32)); clear HO_9; clear HO_14; clear HO_47; clear HB; have HO_9 := n0_; have HO_14 := n1_; have HO_47 := n2_; have HB := n3_; clear n0_ n1_ n2_ n3_; clear hg hw hp_))
                          go_roundg k2
                          case measure => have := HJ8.out; have := HK2.out; omega
                          case rel => exact ⟨(y311), (wrap64 (x49_2 + 1)), (by first | rfl | (simp; done) | (simp [*]; done)), H', ⟨by have := HJ8.out; have := HK2.out; omega⟩, ⟨by (with_reducible repeat (first | apply Kd.S_alloc | apply Kd.S_drewN | apply Kd.S_drew)); exact Kd.S_mono HO_9.out (fun _ hk => ⟨hk.2, hk.1⟩)⟩, ⟨by (with_reducible repeat (first | apply Kd.R_alloc | apply Kd.R_drewN | apply Kd.R_drew)); exact HO_14.out⟩, ⟨by (with_reducible repeat (first | apply Kd.R_alloc | apply Kd.R_drewN | apply Kd.R_drew)); exact Kd.R_mono HO_47.out (fun _ hk => hk.2)⟩, ⟨by repeat (first | (with_reducible first | exact HB.out | apply below_alloc | apply pw_below_drewN | apply below_drew1) | exact HB.out)⟩⟩
                        · rw [if_neg c29] at H
                          exact absurd H (by simp)
                      · rw [if_neg c28] at H
                        exact absurd H (by simp)
                    · rw [if_neg c26] at H
                      exact absurd H (by simp)
                  · rw [if_neg c25] at H
                    exact absurd H (by simp)
                · rw [if_neg c24] at H
                  have c24b0 : decide (x49_2 < (t306.length : Int)) = false := decide_eq_false c24
                  clear c24
                  replace H := Option.bind_eq_some_iff.mp H
                  obtain ⟨⟨t312, t313⟩, A330, H⟩ := H
                  replace H : ((railplanlaw33_awake.f k2).bind fun t314 => (if t314 = true then (some (!t313)) else (some false))) = some r := H
                  have A33 := Aside0.mk A330
                  clear A330
                  replace H := Option.bind_eq_some_iff.mp H
                  obtain ⟨t314, A340, H⟩ := H
                  replace H : (if t314 = true then (some (!t313)) else (some false)) = some r := H
                  have A34 := Aside0.mk A340
                  clear A340
                  by_cases c35 : t314 = true
                  · subst c35
                    have H1 : (some (!t313)) = some r := by rw [if_pos rfl] at H; exact H
                    clear H
                    have H := H1
                    clear H1
                    obtain rfl := Option.some.inj H
                    obtain ⟨Ao36, co36, eo36⟩ := Kd.R_slice HO_14.out
                    subst eo36
                    go_wp2_with (first | ((with_reducible refine gate_callee (f := 21) rfl ?_); refine goesL_ (some 64) rfl rfl Try.func21 (by kernel_rfl) rfl #[.slice Ao11 t295.length co11, .slice Ao36 x14_2.length co36, .int .i64 (wrap64 (1 + t298)), .int .i64 200] rfl (by (try simp only [List.map_toArray, List.map_cons, List.map_nil]); first | done | rfl | (simp only [List.length_drop, List.length_take]; rfl)) ?_; (with_reducible refine (maxplus_Recover.calls k2 _ _ t295 (fun k_ => some k_ = (.slice Ao36 x14_2.length co36 : Value).ownBlock) _ _ x14_2 (wrap64 (1 + t298)) 200 t312 t313 _ ?side1 ?side2 ?side3 A33.out).mono ?_); (case side1 => repeat (first | exact (Kd.S_reads' HO_9.out).2.2 | (with_reducible refine Kd.C_alloc ?_ _) | (with_reducible refine Kd.C_drewN ?_ _) | (with_reducible refine Kd.C_drew ?_))); (case side2 => exact (Kd.S_reads' HO_9.out).2.1); (case side3 => exact Kd.R_V (Kd.R_tight rfl (Kd.R_apart' (HO_14.out) (Kd.S_typed HO_9.out) (by decide)))); rintro e w37 ⟨rfl, hb⟩; refine ⟨_, rfl, ?_⟩; have n0_ := Aside0.mk (Kd.S_below (by (with_reducible repeat (first | apply Kd.S_alloc | apply Kd.S_drewN | apply Kd.S_drew)); exact HO_9.out) hb); have n1_ := Aside0.mk (Kd.R_below (by (with_reducible repeat (first | apply Kd.R_alloc | apply Kd.R_drewN | apply Kd.R_drew)); exact HO_14.out) hb); have n2_ := Aside0.mk (Kd.R_below (by (with_reducible repeat (first | apply Kd.R_alloc | apply Kd.R_drewN | apply Kd.R_drew)); exact HO_47.out) hb); have n3_ := Aside0.mk (below_step (by repeat (first | (with_reducible first | exact HB.out | apply below_alloc | apply pw_below_drewN | apply below_drew1) | exact HB.out)) hb); clear HO_9; clear HO_14; clear HO_47; clear HB; have HO_9 := n0_; have HO_14 := n1_; have HO_47 := n2_; have HB := n3_; clear n0_ n1_ n2_ n3_; (try clear hb); (try clear hb2); (try clear hk); (try clear hi)) | ((with_reducible refine gate_callee (f := 17) rfl ?_); refine goesL_ (some 67) rfl rfl Try.func17 (by kernel_rfl) rfl #[] rfl (by (try simp only [List.map_toArray, List.map_cons, List.map_nil]); first | done | rfl | (simp only [List.length_drop, List.length_take]; rfl)) ?_; (with_reducible refine (railplanlaw33_awake.calls k2  true _ A34.out ⟨by first | rfl | assumption | exact hT.out⟩).mono ?_); rintro e w38 ⟨rfl, hb⟩; refine ⟨_, rfl, ?_⟩; have n0_ := Aside0.mk (Kd.S_below (by (with_reducible repeat (first | apply Kd.S_alloc | apply Kd.S_drewN | apply Kd.S_drew)); exact HO_9.out) hb); have n1_ := Aside0.mk (Kd.R_below (by (with_reducible repeat (first | apply Kd.R_alloc | apply Kd.R_drewN | apply Kd.R_drew)); exact HO_14.out) hb); have n2_ := Aside0.mk (Kd.R_below (by (with_reducible repeat (first | apply Kd.R_alloc | apply Kd.R_drewN | apply Kd.R_drew)); exact HO_47.out) hb); have n3_ := Aside0.mk (below_step (by repeat (first | (with_reducible first | exact HB.out | apply below_alloc | apply pw_below_drewN | apply below_drew1) | exact HB.out)) hb); clear HO_9; clear HO_14; clear HO_47; clear HB; have HO_9 := n0_; have HO_14 := n1_; have HO_47 := n2_; have HB := n3_; clear n0_ n1_ n2_ n3_; (try clear hb); (try clear hb2); (try clear hk); (try clear hi)))
                    go_ret
                    exact ⟨by first | rfl | (simp [errW_none, errW_some] <;> rfl) | (simp [*, errW_none, errW_some] <;> rfl), by repeat (first | (with_reducible first | exact HB.out | apply below_alloc | apply pw_below_drewN | apply below_drew1) | exact HB.out)⟩
                  · replace c35 := Bool.eq_false_iff.mpr c35
                    subst c35
                    have H1 : (some false) = some r := by rw [if_neg (show ¬ (false = true) by decide)] at H; exact H
                    clear H
                    have H := H1
                    clear H1
                    exact absurd (Option.some.inj H) (by rw [hT.out]; decide)
          · rw [if_neg c18] at H
            exact absurd H (by simp)
        · rw [if_neg c17] at H
          exact absurd H (by simp)

/-- THE ONE PURE STATEMENT of railplanlaw33_MaxplusLate: yours. -/
def railplanlaw33_MaxplusLate.Pure : Prop := ∀ (a0 : Int) (l1 : List Int) (a2 : Int) (a3 : Int), (Lit.int .i64 a0).wf = true → l1.length ≤ maxLen → l1.length * 8 ≤ 140737488351232 → (∀ x ∈ l1, (Lit.int .i64 x).wf = true) → (Lit.int .i64 a2).wf = true → (Lit.int .i64 a3).wf = true → ∃ k, railplanlaw33_MaxplusLate.f k a0 l1 a2 a3 = some true
theorem railplanlaw33_MaxplusLate.walk (P : railplanlaw33_MaxplusLate.Pure) (a0 : Int) (a1 : Option Addr) (len1 cap1 : Nat) (z1 : List Int) (a2 : Int) (a3 : Int) (w : World) (w0 : (Lit.int .i64 a0).wf = true) (w1 : (a1 = none ∧ len1 = 0 ∧ cap1 = 0 ∧ z1 = []) ∨ ∃ x, a1 = some x ∧ len1 ≤ cap1 ∧ cap1 ≤ maxLen ∧ z1.length = cap1 ∧ (∀ i, i < z1.length → w.cell? (x.add i) = some (.int .i64 (z1.getD i 0))) ∧ ∀ n ∈ z1, (Lit.int .i64 n).wf = true) (y1 : len1 * 8 ≤ 140737488351232) (w2 : (Lit.int .i64 a2).wf = true) (w3 : (Lit.int .i64 a3).wf = true) :
    Calls Try.prog 6 #[.int .i64 a0, .slice a1 len1 cap1, .int .i64 a2, .int .i64 a3] w fun e w' => e = .returned (.bool true) ∧ Below w.heap.size w w' := by
  obtain ⟨l1, rfl, hr1, hm1, hw1, hc1⟩ := ReadsInt.ofRowC w1
  obtain ⟨k, h⟩ := P a0 l1 a2 a3 w0 hm1 y1 hw1 w2 w3
  refine (railplanlaw33_MaxplusLate.calls k a0 _ _ l1 a2 a3 true w (Kd.C_of_reads (d := (0 : Int)) (h1 := fun _ => rfl) hr1) hc1 h ⟨rfl⟩).mono ?_
  rintro e w' ⟨rfl, hd⟩
  exact ⟨rfl, hd⟩

end Go.Proofs.Ytnmhdeibjglhcaa.XMaxplusLate
