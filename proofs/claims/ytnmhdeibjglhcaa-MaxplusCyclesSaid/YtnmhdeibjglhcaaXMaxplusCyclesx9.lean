-- This session's own text, written by wip/tools/xprint.py after the form of the kit's print.
import Derived.Test.YtnmhdeibjglhcaaXMaxplusCyclesx0
import Derived.Test.YtnmhdeibjglhcaaXMaxplusCyclesx1
import Derived.Test.YtnmhdeibjglhcaaXMaxplusCyclesx6
import Derived.Test.YtnmhdeibjglhcaaXMaxplusCyclesx8
namespace Go.Proofs.Ytnmhdeibjglhcaa.XMaxplusCycles
open Go.RowKit Go.Proofs.YtnmhdeibjglhcaaW.PrintWords Go.Proofs.YtnmhdeibjglhcaaW.PrintLast Go.Proofs.YtnmhdeibjglhcaaW.PrintMore
attribute [local go_sem] max2_int min2_int max_two min_two max_three min_three max_four min_four   -- for this text's walks alone
set_option linter.unusedVariables false
set_option linter.unusedSimpArgs false

/-! ### railplanlaw33_MaxplusCycles: function 4 -/
mutual
def railplanlaw33_MaxplusCycles.l0 : Nat → List (List Int) → Int → Int → Int → Int → Option (Bool)
  | 0, _, _, _, _, _ => none
  | k + 1, x5, x6, x7, x19, x20 => if x20 < x19 then (if 0 ≤ (x5.length : Int) then (if ((x5.length : Int) : Int).toNat ≤ 281474976710656 then ((railplanlaw33_walk.f k x5 x20 x20 0 0 (List.replicate ((x5.length : Int) : Int).toNat false) x6 x7).bind fun bt267 => (railplanlaw33_MaxplusCycles.l0 k x5 bt267.1 bt267.2.1 x19 (wrap64 (x20 + 1)))) else (none)) else (none)) else ((maxplus_Mean.f k x5).bind fun bt270 => (if x7 = 0 then ((railplanlaw33_awake.f k).bind fun t273 => (if t273 = true then (if bt270.2.2 = true then (some false) else (if bt270.1 = 0 then (some (bt270.2.1 == 0)) else (some false))) else (some false))) else (if bt270.2.2 = true then (if bt270.2.1 < 1 then (railplanlaw33_MaxplusCycles.j1 k bt270.1 bt270.2.1 true) else (railplanlaw33_MaxplusCycles.j1 k bt270.1 bt270.2.1 ((wrap64 (bt270.1 * x7)) != (wrap64 (x6 * bt270.2.1))))) else (railplanlaw33_MaxplusCycles.j1 k bt270.1 bt270.2.1 true))))
def railplanlaw33_MaxplusCycles.j1 : Nat → Int → Int → Bool → Option (Bool)
  | 0, _, _, _ => none
  | k + 1, x9, x10, x71 => if x71 = true then (some false) else (railplanlaw33_MaxplusCycles.l1 k x9 x10 2)
def railplanlaw33_MaxplusCycles.l1 : Nat → Int → Int → Int → Option (Bool)
  | 0, _, _, _ => none
  | k + 1, x9, x10, x12 => if x12 ≤ x10 then (if x12 = 0 then (none) else (if (Int.tmod x10 x12) = 0 then (if (Int.tmod x9 x12) = 0 then (some false) else (railplanlaw33_MaxplusCycles.l1 k x9 x10 (wrap64 (x12 + 1)))) else (railplanlaw33_MaxplusCycles.l1 k x9 x10 (wrap64 (x12 + 1))))) else ((railplanlaw33_awake.f k).bind fun t274 => (some t274))
end
def railplanlaw33_MaxplusCycles.f (k : Nat) (a0 : Int) (l1 : List Int) : Option (Bool) := (railplankeep_Pick.f a0 4).bind fun t260 => ((railplankeep2_Matrix.f k (wrap64 (1 + t260)) l1).bind fun t261 => (railplanlaw33_MaxplusCycles.l0 k t261 0 0 (t261.length : Int) 0))
theorem railplanlaw33_MaxplusCycles.mono_l : ∀ k, (∀ y0 y1 y2 y3 y4, LeO (railplanlaw33_MaxplusCycles.l0 k y0 y1 y2 y3 y4) (railplanlaw33_MaxplusCycles.l0 (k + 1) y0 y1 y2 y3 y4)) ∧ (∀ y0 y1 y2, LeO (railplanlaw33_MaxplusCycles.j1 k y0 y1 y2) (railplanlaw33_MaxplusCycles.j1 (k + 1) y0 y1 y2)) ∧ (∀ y0 y1 y2, LeO (railplanlaw33_MaxplusCycles.l1 k y0 y1 y2) (railplanlaw33_MaxplusCycles.l1 (k + 1) y0 y1 y2))
  | 0 => ⟨fun _ _ _ _ _ r h => by simp [railplanlaw33_MaxplusCycles.l0] at h, fun _ _ _ r h => by simp [railplanlaw33_MaxplusCycles.j1] at h, fun _ _ _ r h => by simp [railplanlaw33_MaxplusCycles.l1] at h⟩
  | k + 1 => by
    obtain ⟨ih0, ih1, ih2⟩ := railplanlaw33_MaxplusCycles.mono_l k
    refine ⟨?_, ?_, ?_⟩
    · intro y0 y1 y2 y3 y4
      unfold railplanlaw33_MaxplusCycles.l0
      repeat' first
      | (with_reducible exact ih0 _ _ _ _ _)
      | (with_reducible exact ih1 _ _ _)
      | (with_reducible exact ih2 _ _ _)
      | (with_reducible exact maxplus_Mean.mono _ _)
      | (with_reducible exact railplankeep2_Matrix.mono _ _ _)
      | (with_reducible exact railplanlaw33_awake.mono _)
      | (with_reducible exact railplanlaw33_walk.mono _ _ _ _ _ _ _ _ _)
      | (with_reducible exact LeO.refl _)
      | (with_reducible exact LeO.none _)
      | (with_reducible refine LeO.ite ?_ ?_)
      | (with_reducible refine LeO.bind ?_ (fun _ => ?_))
      | exact ih0 _ _ _ _ _
      | exact ih1 _ _ _
      | exact ih2 _ _ _
      | exact maxplus_Mean.mono _ _
      | exact railplankeep2_Matrix.mono _ _ _
      | exact railplanlaw33_awake.mono _
      | exact railplanlaw33_walk.mono _ _ _ _ _ _ _ _ _
      | exact LeO.none _
      | refine LeO.ite ?_ ?_
      | refine LeO.bind ?_ (fun _ => ?_)
    · intro y0 y1 y2
      unfold railplanlaw33_MaxplusCycles.j1
      repeat' first
      | (with_reducible exact ih0 _ _ _ _ _)
      | (with_reducible exact ih1 _ _ _)
      | (with_reducible exact ih2 _ _ _)
      | (with_reducible exact maxplus_Mean.mono _ _)
      | (with_reducible exact railplankeep2_Matrix.mono _ _ _)
      | (with_reducible exact railplanlaw33_awake.mono _)
      | (with_reducible exact railplanlaw33_walk.mono _ _ _ _ _ _ _ _ _)
      | (with_reducible exact LeO.refl _)
      | (with_reducible exact LeO.none _)
      | (with_reducible refine LeO.ite ?_ ?_)
      | (with_reducible refine LeO.bind ?_ (fun _ => ?_))
      | exact ih0 _ _ _ _ _
      | exact ih1 _ _ _
      | exact ih2 _ _ _
      | exact maxplus_Mean.mono _ _
      | exact railplankeep2_Matrix.mono _ _ _
      | exact railplanlaw33_awake.mono _
      | exact railplanlaw33_walk.mono _ _ _ _ _ _ _ _ _
      | exact LeO.none _
      | refine LeO.ite ?_ ?_
      | refine LeO.bind ?_ (fun _ => ?_)
    · intro y0 y1 y2
      unfold railplanlaw33_MaxplusCycles.l1
      repeat' first
      | (with_reducible exact ih0 _ _ _ _ _)
      | (with_reducible exact ih1 _ _ _)
      | (with_reducible exact ih2 _ _ _)
      | (with_reducible exact maxplus_Mean.mono _ _)
      | (with_reducible exact railplankeep2_Matrix.mono _ _ _)
      | (with_reducible exact railplanlaw33_awake.mono _)
      | (with_reducible exact railplanlaw33_walk.mono _ _ _ _ _ _ _ _ _)
      | (with_reducible exact LeO.refl _)
      | (with_reducible exact LeO.none _)
      | (with_reducible refine LeO.ite ?_ ?_)
      | (with_reducible refine LeO.bind ?_ (fun _ => ?_))
      | exact ih0 _ _ _ _ _
      | exact ih1 _ _ _
      | exact ih2 _ _ _
      | exact maxplus_Mean.mono _ _
      | exact railplankeep2_Matrix.mono _ _ _
      | exact railplanlaw33_awake.mono _
      | exact railplanlaw33_walk.mono _ _ _ _ _ _ _ _ _
      | exact LeO.none _
      | refine LeO.ite ?_ ?_
      | refine LeO.bind ?_ (fun _ => ?_)
theorem railplanlaw33_MaxplusCycles.mono : ∀ a0 a1 k, LeO (railplanlaw33_MaxplusCycles.f k a0 a1) (railplanlaw33_MaxplusCycles.f (k + 1) a0 a1) := by
  intro a0 a1 k
  obtain ⟨ih0, ih1, ih2⟩ := railplanlaw33_MaxplusCycles.mono_l k
  unfold railplanlaw33_MaxplusCycles.f
  repeat' first
      | (with_reducible exact ih0 _ _ _ _ _)
      | (with_reducible exact ih1 _ _ _)
      | (with_reducible exact ih2 _ _ _)
      | (with_reducible exact maxplus_Mean.mono _ _)
      | (with_reducible exact railplankeep2_Matrix.mono _ _ _)
      | (with_reducible exact railplanlaw33_awake.mono _)
      | (with_reducible exact railplanlaw33_walk.mono _ _ _ _ _ _ _ _ _)
      | (with_reducible exact LeO.refl _)
      | (with_reducible exact LeO.none _)
      | (with_reducible refine LeO.ite ?_ ?_)
      | (with_reducible refine LeO.bind ?_ (fun _ => ?_))
      | exact ih0 _ _ _ _ _
      | exact ih1 _ _ _
      | exact ih2 _ _ _
      | exact maxplus_Mean.mono _ _
      | exact railplankeep2_Matrix.mono _ _ _
      | exact railplanlaw33_awake.mono _
      | exact railplanlaw33_walk.mono _ _ _ _ _ _ _ _ _
      | exact LeO.none _
      | refine LeO.ite ?_ ?_
      | refine LeO.bind ?_ (fun _ => ?_)
set_option maxHeartbeats 8000000 in
set_option maxRecDepth 100000 in
theorem railplanlaw33_MaxplusCycles.calls (k : Nat) (a0 : Int) (A1 : Option Addr) (c1 : Nat) (l1 : List Int) (r : Bool) (w : World) (hr1 : Kd.C (Kd.int .i64) w A1 l1.length l1) (hc1 : l1.length ≤ c1) (h : railplanlaw33_MaxplusCycles.f k a0 l1 = some r) (hT : Aside0 (r = true)) :
    Calls Try.prog 4 #[.int .i64 a0, .slice A1 l1.length c1] w fun e w' => e = .returned (.bool r) ∧ Below w.heap.size w w' := by
  have HR1 := Aside0.mk hr1
  have HC1 := Aside0.mk hc1
  clear hr1 hc1
  have HB := Aside0.mk (Below.refl w.heap.size w)
  have H : ((railplankeep_Pick.f a0 4).bind fun t260 => ((railplankeep2_Matrix.f k (wrap64 (1 + t260)) l1).bind fun t261 => (railplanlaw33_MaxplusCycles.l0 k t261 0 0 (t261.length : Int) 0))) = some r := h
  clear h
  replace H := Option.bind_eq_some_iff.mp H
  obtain ⟨t260, A30, H⟩ := H
  replace H : ((railplankeep2_Matrix.f k (wrap64 (1 + t260)) l1).bind fun t261 => (railplanlaw33_MaxplusCycles.l0 k t261 0 0 (t261.length : Int) 0)) = some r := H
  have A3 := Aside0.mk A30
  clear A30
  replace H := Option.bind_eq_some_iff.mp H
  obtain ⟨t261, A40, H⟩ := H
  replace H : (railplanlaw33_MaxplusCycles.l0 k t261 0 0 (t261.length : Int) 0) = some r := H
  have A4 := Aside0.mk A40
  clear A40
  have H' := Aside0.mk H
  clear H
  go_enter Try.func4, Try.ntmps4
  go_wp2_with (first | ((with_reducible refine gate_callee (f := 14) rfl ?_); refine goesL_ (some 14) rfl rfl Try.func14 (by kernel_rfl) rfl #[.int .i64 a0, .int .i64 4] rfl (by (try simp only [List.map_toArray, List.map_cons, List.map_nil]); first | done | rfl | (simp only [List.length_drop, List.length_take]; rfl)) ?_; (with_reducible refine (railplankeep_Pick.calls a0 4 t260 _ A3.out).mono ?_); rintro e w' ⟨rfl, ⟨nd, rfl⟩⟩; refine ⟨_, rfl, ?_⟩) | ((with_reducible refine gate_callee (f := 13) rfl ?_); refine goesL_ (some 17) rfl rfl Try.func13 (by kernel_rfl) rfl #[.int .i64 (wrap64 (1 + t260)), .slice A1 l1.length c1] rfl (by (try simp only [List.map_toArray, List.map_cons, List.map_nil]); first | done | rfl | (simp only [List.length_drop, List.length_take]; rfl)) ?_; (with_reducible refine (railplankeep2_Matrix.calls k (wrap64 (1 + t260)) _ _ l1 t261 _ ?side1 ?side2 A4.out).mono ?_); (case side1 => repeat (first | exact HR1.out | (with_reducible refine Kd.C_alloc ?_ _) | (with_reducible refine Kd.C_drewN ?_ _) | (with_reducible refine Kd.C_drew ?_))); (case side2 => exact HC1.out); rintro e w5 ⟨v262, rfl, ho0, hb⟩; refine ⟨_, rfl, ?_⟩; have n0_ := Aside0.mk (Kd.S_lower ho0 (below_size (by repeat (first | (with_reducible first | exact HB.out | apply below_alloc | apply pw_below_drewN | apply below_drew1) | exact HB.out)))); have n1_ := Aside0.mk (below_step (by repeat (first | (with_reducible first | exact HB.out | apply below_alloc | apply pw_below_drewN | apply below_drew1) | exact HB.out)) hb); clear HB; have HO263 := n0_; have HB := n1_; clear n0_ n1_; (try clear hb); (try clear hb2); (try clear hk); (try clear hi); (try clear ho0); obtain ⟨Ao6, co6, eo6⟩ := Kd.S_slice HO263.out; subst eo6))
  go_loopg [6, 7, 20] k (fun kq v6 v7 v20 w' => ∃ (x6_1 : Int) (x7_1 : Int) (x20_1 : Int), v6 = .int .i64 x6_1 ∧ v7 = .int .i64 x7_1 ∧ v20 = .int .i64 x20_1 ∧ Aside0 (railplanlaw33_MaxplusCycles.l0 kq t261 x6_1 x7_1 (t261.length : Int) x20_1 = some r) ∧ Aside0 (kq ≤ k) ∧ Aside0 (Kd.S (Kd.slice 3 (Kd.int .i64)) 22 w' w.heap.size (fun _ => True) (.slice Ao6 t261.length co6) t261) ∧ Aside0 (Below w.heap.size w w'))
  case atStart => exact ⟨(0), (0), (0), (by first | rfl | (simp; done) | (simp [*]; done)), (by first | rfl | (simp; done) | (simp [*]; done)), (by first | rfl | (simp; done) | (simp [*]; done)), H', ⟨Nat.le_refl _⟩, ⟨by (with_reducible repeat (first | apply Kd.S_alloc | apply Kd.S_drewN | apply Kd.S_drew)); exact HO263.out⟩, ⟨by repeat (first | (with_reducible first | exact HB.out | apply below_alloc | apply pw_below_drewN | apply below_drew1) | exact HB.out)⟩⟩
  case round =>
    clear H'
    try clear c1
    try clear p2
    try clear c4
    try clear p6
    obtain ⟨x6_1, x7_1, x20_1, rfl, rfl, rfl, HA, HK1, HO_5, HB⟩ := hrel
    cases gk with
    | zero => exact absurd HA.out (by simp [railplanlaw33_MaxplusCycles.l0])
    | succ k1 =>
      have H := HA.out
      clear HA
      simp only [railplanlaw33_MaxplusCycles.l0] at H
      by_cases c7 : x20_1 < (t261.length : Int)
      · rw [if_pos c7] at H
        have c7b0 : decide (x20_1 < (t261.length : Int)) = true := decide_eq_true c7
        clear c7
        by_cases c8 : 0 ≤ (t261.length : Int)
        · rw [if_pos c8] at H
          have c8b0 := eq_true c8
          have c8b1 : decide (0 ≤ (t261.length : Int)) = true := decide_eq_true c8
          clear c8
          by_cases c9 : ((t261.length : Int) : Int).toNat ≤ 281474976710656
          · rw [if_pos c9] at H
            have c9b0 := eq_true c9
            have c9b1 : decide (((t261.length : Int) : Int).toNat ≤ 281474976710656) = true := decide_eq_true c9
            clear c9
            obtain ⟨y264, hy264⟩ : ∃ y_ : List Bool, y_ = (List.replicate ((t261.length : Int) : Int).toNat false) := ⟨_, rfl⟩
            replace H : ((railplanlaw33_walk.f k1 t261 x20_1 x20_1 0 0 y264 x6_1 x7_1).bind fun bt267 => (railplanlaw33_MaxplusCycles.l0 k1 t261 bt267.1 bt267.2.1 (t261.length : Int) (wrap64 (x20_1 + 1)))) = some r := by first | (rw [hy264]; with_reducible exact H) | (have H2_ := (Option.bind_some _ _).symm.trans H; rw [hy264]; with_reducible exact H2_) | (have H2_ := (Option.bind_some _ _).symm.trans H; with_reducible exact H2_) | with_reducible exact H | (rw [hy264]; exact H) | exact H
            have Ny264 := Aside0.mk hy264
            clear hy264
            replace H := Option.bind_eq_some_iff.mp H
            obtain ⟨⟨t267, t268, t269⟩, A100, H⟩ := H
            replace H : (railplanlaw33_MaxplusCycles.l0 k1 t261 t267 t268 (t261.length : Int) (wrap64 (x20_1 + 1))) = some r := H
            have A10 := Aside0.mk A100
            clear A100
            have H' := Aside0.mk H
            clear H
            go_wp2_with (first | ((with_reducible refine gate_dst (N := 29) rfl ?_); refine Kd.R_make Kd.bool _ 4 rfl (N := 29) rfl 35 _ _ rfl (t261.length : Int) rfl rfl Try.underlying35 (.bool false) 1 info4 rfl (by decide) (by omega) false (ok := fun _ => True) (okp := fun _ => True) rfl (fun _ hk => hk) trivial (of_decide_eq_true (by first | (with_reducible assumption) | assumption)) (Nat.le_trans (Nat.mul_le_mul_right _ (of_decide_eq_true (by first | (with_reducible assumption) | assumption) : (t261.length : Int).toNat ≤ 281474976710656)) (by omega)) (Below.refl _ _) (Nat.le_refl _) ?_; intro v265 w11 ho12 hb hg_ hnew_; clear hg_ hnew_; (first | rw [← Ny264.out] at ho12 | (simp only [Int.reduceToNat] at ho12; rw [← Ny264.out] at ho12)); have n0_ := Aside0.mk (Kd.S_below (by (with_reducible repeat (first | apply Kd.S_alloc | apply Kd.S_drewN | apply Kd.S_drew)); exact HO_5.out) hb); have n1_ := Aside0.mk (Kd.R_lower ho12 (below_size (by repeat (first | (with_reducible first | exact HB.out | apply below_alloc | apply pw_below_drewN | apply below_drew1) | exact HB.out)))); have n2_ := Aside0.mk (below_step (by repeat (first | (with_reducible first | exact HB.out | apply below_alloc | apply pw_below_drewN | apply below_drew1) | exact HB.out)) hb); clear HO_5; clear HB; have HO_5 := n0_; have HO266 := n1_; have HB := n2_; clear n0_ n1_ n2_; clear hb ho12; obtain ⟨Ao13, co13, eo13⟩ := Kd.R_slice HO266.out; subst eo13) | ((with_reducible refine gate_callee (f := 19) rfl ?_); refine goesL_ (some 32) rfl rfl Try.func19 (by kernel_rfl) rfl #[.slice Ao6 t261.length co6, .int .i64 x20_1, .int .i64 x20_1, .int .i64 0, .int .i64 0, .slice Ao13 y264.length co13, .int .i64 x6_1, .int .i64 x7_1] rfl (by (try simp only [List.map_toArray, List.map_cons, List.map_nil]); first | done | rfl | (simp only [List.length_drop, List.length_take]; rfl)) ?_; (with_reducible refine (railplanlaw33_walk.calls k1 _ _ t261 x20_1 x20_1 0 0 (fun k_ => some k_ = (.slice Ao13 y264.length co13 : Value).ownBlock) (.slice Ao13 y264.length co13) y264 x6_1 x7_1 t267 t268 t269 w _ ?side1 ?side2 ?side3 ?side4 A10.out).mono ?_); (case side1 => repeat (first | (with_reducible first | exact HB.out | apply below_alloc | apply pw_below_drewN | apply below_drew1) | exact HB.out)); (case side2 => exact Kd.C_kept_own ((Kd.S_R (Kd.S_apart' HO_5.out (Kd.R_typed HO266.out) (by decide)))) (fun k_ hk_ hs_ => (hk_.2) hs_)); (case side3 => exact (Kd.S_reads' HO_5.out).2.1); (case side4 => exact Kd.R_tight rfl HO266.out); rintro e w14 ⟨rfl, hy0, hb, hkp⟩; refine ⟨_, rfl, ?_⟩; have n0_ := Aside0.mk (Kd.S_mono (ok' := fun k_ => True) (Kd.S_keptB ((Kd.S_apart' HO_5.out (Kd.R_typed HO266.out) (by decide))) hkp (fun k_ hk_ hs_ => (hk_.2) hs_)) (fun k_ hk_ => trivial)); have n1_ := Aside0.mk (Kd.R_reok rfl hy0 (fun k_ e_ => HO266.out.1 k_ e_)); have n2_ := Aside0.mk (hb); clear HO_5; clear HO266; clear HB; have HO_5 := n0_; have HO266 := n1_; have HB := n2_; clear n0_ n1_ n2_; (try clear hb); (try clear hkp); (try clear hy0)))
            go_roundg k1
            case measure => have := HK1.out; omega
            case rel => exact ⟨(t267), (t268), (wrap64 (x20_1 + 1)), (by first | rfl | (simp; done) | (simp [*]; done)), (by first | rfl | (simp; done) | (simp [*]; done)), (by first | rfl | (simp; done) | (simp [*]; done)), H', ⟨by have := HK1.out; omega⟩, ⟨by (with_reducible repeat (first | apply Kd.S_alloc | apply Kd.S_drewN | apply Kd.S_drew)); exact HO_5.out⟩, ⟨by repeat (first | (with_reducible first | exact HB.out | apply below_alloc | apply pw_below_drewN | apply below_drew1) | exact HB.out)⟩⟩
          · rw [if_neg c9] at H
            exact absurd H (by simp)
        · rw [if_neg c8] at H
          exact absurd H (by simp)
      · rw [if_neg c7] at H
        have c7b0 : decide (x20_1 < (t261.length : Int)) = false := decide_eq_false c7
        clear c7
        replace H := Option.bind_eq_some_iff.mp H
        obtain ⟨⟨t270, t271, t272⟩, A150, H⟩ := H
        replace H : (if x7_1 = 0 then ((railplanlaw33_awake.f k1).bind fun t273 => (if t273 = true then (if t272 = true then (some false) else (if t270 = 0 then (some (t271 == 0)) else (some false))) else (some false))) else (if t272 = true then (if t271 < 1 then (railplanlaw33_MaxplusCycles.j1 k1 t270 t271 true) else (railplanlaw33_MaxplusCycles.j1 k1 t270 t271 ((wrap64 (t270 * x7_1)) != (wrap64 (x6_1 * t271))))) else (railplanlaw33_MaxplusCycles.j1 k1 t270 t271 true))) = some r := H
        have A15 := Aside0.mk A150
        clear A150
        by_cases c16 : x7_1 = 0
        · rw [if_pos c16] at H
          have c16b0 : (x7_1 == 0) = true := beq_iff_eq.mpr c16
          have c16b1 : (x7_1 != 0) = false := bne_eq_false_iff_eq.mpr c16
          clear c16
          replace H := Option.bind_eq_some_iff.mp H
          obtain ⟨t273, A170, H⟩ := H
          replace H : (if t273 = true then (if t272 = true then (some false) else (if t270 = 0 then (some (t271 == 0)) else (some false))) else (some false)) = some r := H
          have A17 := Aside0.mk A170
          clear A170
          by_cases c18 : t273 = true
          · subst c18
            have H1 : (if t272 = true then (some false) else (if t270 = 0 then (some (t271 == 0)) else (some false))) = some r := by rw [if_pos rfl] at H; exact H
            clear H
            have H := H1
            clear H1
            by_cases c19 : t272 = true
            · subst c19
              have H1 : (some false) = some r := by rw [if_pos rfl] at H; exact H
              clear H
              have H := H1
              clear H1
              exact absurd (Option.some.inj H) (by rw [hT.out]; decide)
            · replace c19 := Bool.eq_false_iff.mpr c19
              subst c19
              have H1 : (if t270 = 0 then (some (t271 == 0)) else (some false)) = some r := by rw [if_neg (show ¬ (false = true) by decide)] at H; exact H
              clear H
              have H := H1
              clear H1
              by_cases c20 : t270 = 0
              · rw [if_pos c20] at H
                have c20b0 : (t270 == 0) = true := beq_iff_eq.mpr c20
                have c20b1 : (t270 != 0) = false := bne_eq_false_iff_eq.mpr c20
                clear c20
                obtain rfl := Option.some.inj H
                go_wp2_with (first | ((with_reducible refine gate_callee (f := 20) rfl ?_); refine goesL_ (some 38) rfl rfl Try.func20 (by kernel_rfl) rfl #[.slice Ao6 t261.length co6] rfl (by (try simp only [List.map_toArray, List.map_cons, List.map_nil]); first | done | rfl | (simp only [List.length_drop, List.length_take]; rfl)) ?_; (with_reducible refine (maxplus_Mean.calls k1 _ _ t261 t270 t271 false _ ?side1 ?side2 A15.out).mono ?_); (case side1 => repeat (first | exact (Kd.S_reads' HO_5.out).2.2 | (with_reducible refine Kd.C_alloc ?_ _) | (with_reducible refine Kd.C_drewN ?_ _) | (with_reducible refine Kd.C_drew ?_))); (case side2 => exact (Kd.S_reads' HO_5.out).2.1); rintro e w21 ⟨rfl, hb⟩; refine ⟨_, rfl, ?_⟩; have n0_ := Aside0.mk (Kd.S_below (by (with_reducible repeat (first | apply Kd.S_alloc | apply Kd.S_drewN | apply Kd.S_drew)); exact HO_5.out) hb); have n1_ := Aside0.mk (below_step (by repeat (first | (with_reducible first | exact HB.out | apply below_alloc | apply pw_below_drewN | apply below_drew1) | exact HB.out)) hb); clear HO_5; clear HB; have HO_5 := n0_; have HB := n1_; clear n0_ n1_; (try clear hb); (try clear hb2); (try clear hk); (try clear hi)) | ((with_reducible refine gate_callee (f := 17) rfl ?_); refine goesL_ (some 44) rfl rfl Try.func17 (by kernel_rfl) rfl #[] rfl (by (try simp only [List.map_toArray, List.map_cons, List.map_nil]); first | done | rfl | (simp only [List.length_drop, List.length_take]; rfl)) ?_; (with_reducible refine (railplanlaw33_awake.calls k1  true _ A17.out ⟨by first | rfl | assumption | exact hT.out⟩).mono ?_); rintro e w22 ⟨rfl, hb⟩; refine ⟨_, rfl, ?_⟩; have n0_ := Aside0.mk (Kd.S_below (by (with_reducible repeat (first | apply Kd.S_alloc | apply Kd.S_drewN | apply Kd.S_drew)); exact HO_5.out) hb); have n1_ := Aside0.mk (below_step (by repeat (first | (with_reducible first | exact HB.out | apply below_alloc | apply pw_below_drewN | apply below_drew1) | exact HB.out)) hb); clear HO_5; clear HB; have HO_5 := n0_; have HB := n1_; clear n0_ n1_; (try clear hb); (try clear hb2); (try clear hk); (try clear hi)))
                go_ret
                exact ⟨by first | rfl | (simp [errW_none, errW_some] <;> rfl) | (simp [*, errW_none, errW_some] <;> rfl), by repeat (first | (with_reducible first | exact HB.out | apply below_alloc | apply pw_below_drewN | apply below_drew1) | exact HB.out)⟩
              · rw [if_neg c20] at H
                have c20b0 : (t270 == 0) = false := beq_eq_false_iff_ne.mpr c20
                have c20b1 : (t270 != 0) = true := bne_iff_ne.mpr c20
                exact absurd (Option.some.inj H) (by rw [hT.out]; decide)
          · replace c18 := Bool.eq_false_iff.mpr c18
            subst c18
            have H1 : (some false) = some r := by rw [if_neg (show ¬ (false = true) by decide)] at H; exact H
            clear H
            have H := H1
            clear H1
            exact absurd (Option.some.inj H) (by rw [hT.out]; decide)
        · rw [if_neg c16] at H
          have c16b0 : (x7_1 == 0) = false := beq_eq_false_iff_ne.mpr c16
          have c16b1 : (x7_1 != 0) = true := bne_iff_ne.mpr c16
          have HC23 := Aside0.mk H
          clear H
          go_upto_region 11 with (first | ((with_reducible refine gate_callee (f := 20) rfl ?_); refine goesL_ (some 38) rfl rfl Try.func20 (by kernel_rfl) rfl #[.slice Ao6 t261.length co6] rfl (by (try simp only [List.map_toArray, List.map_cons, List.map_nil]); first | done | rfl | (simp only [List.length_drop, List.length_take]; rfl)) ?_; (with_reducible refine (maxplus_Mean.calls k1 _ _ t261 t270 t271 t272 _ ?side1 ?side2 A15.out).mono ?_); (case side1 => repeat (first | exact (Kd.S_reads' HO_5.out).2.2 | (with_reducible refine Kd.C_alloc ?_ _) | (with_reducible refine Kd.C_drewN ?_ _) | (with_reducible refine Kd.C_drew ?_))); (case side2 => exact (Kd.S_reads' HO_5.out).2.1); rintro e w24 ⟨rfl, hb⟩; refine ⟨_, rfl, ?_⟩; have n0_ := Aside0.mk (Kd.S_below (by (with_reducible repeat (first | apply Kd.S_alloc | apply Kd.S_drewN | apply Kd.S_drew)); exact HO_5.out) hb); have n1_ := Aside0.mk (below_step (by repeat (first | (with_reducible first | exact HB.out | apply below_alloc | apply pw_below_drewN | apply below_drew1) | exact HB.out)) hb); clear HO_5; clear HB; have HO_5 := n0_; have HB := n1_; clear n0_ n1_; (try clear hb); (try clear hb2); (try clear hk); (try clear hi)))
          (try simp only [Act.put, List.setIfInBounds_toArray, List.set_cons_zero, List.set_cons_succ])
          go_cut [71] (fun v71 wc => ∃ (kq : Nat) (x71_22 : Bool), v71 = .bool x71_22 ∧ Aside0 (railplanlaw33_MaxplusCycles.j1 kq t270 t271 x71_22 = some r) ∧ Aside0 (kq ≤ k1) ∧ Aside0 (Below w.heap.size w wc))
          case first =>
            have H := HC23.out
            clear HC23
            by_cases c25 : t272 = true
            · subst c25
              have H1 : (if t271 < 1 then (railplanlaw33_MaxplusCycles.j1 k1 t270 t271 true) else (railplanlaw33_MaxplusCycles.j1 k1 t270 t271 ((wrap64 (t270 * x7_1)) != (wrap64 (x6_1 * t271))))) = some r := by rw [if_pos rfl] at H; exact H
              clear H
              have H := H1
              clear H1
              by_cases c26 : t271 < 1
              · rw [if_pos c26] at H
                have c26b0 : decide (t271 < 1) = true := decide_eq_true c26
                clear c26
                (first | rw [c26b0] | (simp only [i64_w, i32_w]; rw [c26b0]) | skip)
                have H' := Aside0.mk H
                clear H
                go_wp2
                go_meet
                case rel => exact ⟨_, (true), (by first | rfl | (simp; done) | (simp [*]; done)), H', ⟨by have := HK1.out; first | omega | exact Nat.le_refl _⟩, ⟨by repeat (first | (with_reducible first | exact HB.out | apply below_alloc | apply pw_below_drewN | apply below_drew1) | exact HB.out)⟩⟩
              · rw [if_neg c26] at H
                have c26b0 : decide (t271 < 1) = false := decide_eq_false c26
                clear c26
                (first | rw [c26b0] | (simp only [i64_w, i32_w]; rw [c26b0]) | skip)
                have H' := Aside0.mk H
                clear H
                go_wp2
                go_meet
                case rel => exact ⟨_, (((wrap64 (t270 * x7_1)) != (wrap64 (x6_1 * t271)))), (by first | rfl | (simp; done) | (simp [*]; done)), H', ⟨by have := HK1.out; first | omega | exact Nat.le_refl _⟩, ⟨by repeat (first | (with_reducible first | exact HB.out | apply below_alloc | apply pw_below_drewN | apply below_drew1) | exact HB.out)⟩⟩
            · replace c25 := Bool.eq_false_iff.mpr c25
              subst c25
              have H1 : (railplanlaw33_MaxplusCycles.j1 k1 t270 t271 true) = some r := by rw [if_neg (show ¬ (false = true) by decide)] at H; exact H
              clear H
              have H := H1
              clear H1
              have H' := Aside0.mk H
              clear H
              go_wp2
              go_meet
              case rel => exact ⟨_, (true), (by first | rfl | (simp; done) | (simp [*]; done)), H', ⟨by have := HK1.out; first | omega | exact Nat.le_refl _⟩, ⟨by repeat (first | (with_reducible first | exact HB.out | apply below_alloc | apply pw_below_drewN | apply below_drew1) | exact HB.out)⟩⟩
          case rest =>
            clear HC23
            try clear c1
            try clear c2
            try clear p2
            try clear c4
            try clear p6
            try clear c7
            try clear c7b0
            try clear c8
            try clear c8b0
            try clear c8b1
            try clear c9
            try clear c9b0
            try clear c9b1
            try clear c13
            try clear c14
            try clear c16
            try clear c16b0
            try clear c16b1
            try clear c17
            try clear c18
            try clear c19
            try clear c20
            try clear c20b0
            try clear c20b1
            try clear c25
            try clear c26
            try clear c26b0
            try clear p2
            try clear p6
            obtain ⟨kq, x71_22, rfl, HA, HJ22, HB⟩ := hcut
            cases kq with
            | zero => exact absurd HA.out (by simp [railplanlaw33_MaxplusCycles.j1])
            | succ kj22 =>
              have H := HA.out
              clear HA
              simp only [railplanlaw33_MaxplusCycles.j1] at H
              by_cases c27 : x71_22 = true
              · subst c27
                have H1 : (some false) = some r := by rw [if_pos rfl] at H; exact H
                clear H
                have H := H1
                clear H1
                exact absurd (Option.some.inj H) (by rw [hT.out]; decide)
              · replace c27 := Bool.eq_false_iff.mpr c27
                subst c27
                have H1 : (railplanlaw33_MaxplusCycles.l1 kj22 t270 t271 2) = some r := by rw [if_neg (show ¬ (false = true) by decide)] at H; exact H
                clear H
                have H := H1
                clear H1
                have H' := Aside0.mk H
                clear H
                go_wp2
                go_loopg [12] kj22 (fun kq v12 w' => ∃ (x12_3 : Int), v12 = .int .i64 x12_3 ∧ Aside0 (railplanlaw33_MaxplusCycles.l1 kq t270 t271 x12_3 = some r) ∧ Aside0 (kq ≤ kj22) ∧ Aside0 (Below w.heap.size w w'))
                case atStart => exact ⟨(2), (by first | rfl | (simp; done) | (simp [*]; done)), H', ⟨Nat.le_refl _⟩, ⟨by repeat (first | (with_reducible first | exact HB.out | apply below_alloc | apply pw_below_drewN | apply below_drew1) | exact HB.out)⟩⟩
                case round =>
                  clear H'
                  try clear c1
                  try clear c2
                  try clear p2
                  try clear c4
                  try clear p6
                  try clear c7
                  try clear c7b0
                  try clear c8
                  try clear c8b0
                  try clear c8b1
                  try clear c9
                  try clear c9b0
                  try clear c9b1
                  try clear c13
                  try clear c14
                  try clear c16
                  try clear c16b0
                  try clear c16b1
                  try clear c17
                  try clear c18
                  try clear c19
                  try clear c20
                  try clear c20b0
                  try clear c20b1
                  try clear c25
                  try clear c26
                  try clear c26b0
                  try clear c27
                  try clear p2
                  try clear p6
                  obtain ⟨x12_3, rfl, HA, HK3, HB⟩ := hrel
                  cases gk with
                  | zero => exact absurd HA.out (by simp [railplanlaw33_MaxplusCycles.l1])
                  | succ k3 =>
                    have H := HA.out
                    clear HA
                    simp only [railplanlaw33_MaxplusCycles.l1] at H
                    by_cases c28 : x12_3 ≤ t271
                    · rw [if_pos c28] at H
                      have c28b0 : decide (x12_3 ≤ t271) = true := decide_eq_true c28
                      clear c28
                      by_cases c29 : x12_3 = 0
                      · rw [if_pos c29] at H
                        exact absurd H (by simp)
                      · rw [if_neg c29] at H
                        have c29b0 : (x12_3 == 0) = false := beq_eq_false_iff_ne.mpr c29
                        have c29b1 : (x12_3 != 0) = true := bne_iff_ne.mpr c29
                        by_cases c30 : (Int.tmod t271 x12_3) = 0
                        · rw [if_pos c30] at H
                          have c30b0 : ((Int.tmod t271 x12_3) == 0) = true := beq_iff_eq.mpr c30
                          have c30b1 : ((Int.tmod t271 x12_3) != 0) = false := bne_eq_false_iff_eq.mpr c30
                          clear c30
                          by_cases c31 : (Int.tmod t270 x12_3) = 0
                          · rw [if_pos c31] at H
                            have c31b0 : ((Int.tmod t270 x12_3) == 0) = true := beq_iff_eq.mpr c31
                            have c31b1 : ((Int.tmod t270 x12_3) != 0) = false := bne_eq_false_iff_eq.mpr c31
                            clear c31
                            exact absurd (Option.some.inj H) (by rw [hT.out]; decide)
                          · rw [if_neg c31] at H
                            have c31b0 : ((Int.tmod t270 x12_3) == 0) = false := beq_eq_false_iff_ne.mpr c31
                            have c31b1 : ((Int.tmod t270 x12_3) != 0) = true := bne_iff_ne.mpr c31
                            have H' := Aside0.mk H
                            clear H
                            go_wp2
                            go_roundg k3
                            case measure => have := HK1.out; have := HJ22.out; have := HK3.out; omega
                            case rel => exact ⟨(wrap64 (x12_3 + 1)), (by first | rfl | (simp; done) | (simp [*]; done)), H', ⟨by have := HK1.out; have := HJ22.out; have := HK3.out; omega⟩, ⟨by repeat (first | (with_reducible first | exact HB.out | apply below_alloc | apply pw_below_drewN | apply below_drew1) | exact HB.out)⟩⟩
                        · rw [if_neg c30] at H
                          have c30b0 : ((Int.tmod t271 x12_3) == 0) = false := beq_eq_false_iff_ne.mpr c30
                          have c30b1 : ((Int.tmod t271 x12_3) != 0) = true := bne_iff_ne.mpr c30
                          have H' := Aside0.mk H
                          clear H
                          go_wp2
                          go_roundg k3
                          case measure => have := HK1.out; have := HJ22.out; have := HK3.out; omega
                          case rel => exact ⟨(wrap64 (x12_3 + 1)), (by first | rfl | (simp; done) | (simp [*]; done)), H', ⟨by have := HK1.out; have := HJ22.out; have := HK3.out; omega⟩, ⟨by repeat (first | (with_reducible first | exact HB.out | apply below_alloc | apply pw_below_drewN | apply below_drew1) | exact HB.out)⟩⟩
                    · rw [if_neg c28] at H
                      have c28b0 : decide (x12_3 ≤ t271) = false := decide_eq_false c28
                      clear c28
                      replace H := Option.bind_eq_some_iff.mp H
                      obtain ⟨t274, A320, H⟩ := H
                      replace H : (some t274) = some r := H
                      have A32 := Aside0.mk A320
                      clear A320
                      obtain rfl := Option.some.inj H
                      go_wp2_with (first | ((with_reducible refine gate_callee (f := 17) rfl ?_); refine goesL_ (some 87) rfl rfl Try.func17 (by kernel_rfl) rfl #[] rfl (by (try simp only [List.map_toArray, List.map_cons, List.map_nil]); first | done | rfl | (simp only [List.length_drop, List.length_take]; rfl)) ?_; (with_reducible refine (railplanlaw33_awake.calls k3  t274 _ A32.out ⟨by first | rfl | assumption | exact hT.out⟩).mono ?_); rintro e w33 ⟨rfl, hb⟩; refine ⟨_, rfl, ?_⟩; have n0_ := Aside0.mk (below_step (by repeat (first | (with_reducible first | exact HB.out | apply below_alloc | apply pw_below_drewN | apply below_drew1) | exact HB.out)) hb); clear HB; have HB := n0_; clear n0_; (try clear hb); (try clear hb2); (try clear hk); (try clear hi)))
                      go_ret
                      exact ⟨by first | rfl | (simp [errW_none, errW_some] <;> rfl) | (simp [*, errW_none, errW_some] <;> rfl), by repeat (first | (with_reducible first | exact HB.out | apply below_alloc | apply pw_below_drewN | apply below_drew1) | exact HB.out)⟩

/-- THE ONE PURE STATEMENT of railplanlaw33_MaxplusCycles: yours. -/
def railplanlaw33_MaxplusCycles.Pure : Prop := ∀ (a0 : Int) (l1 : List Int), (Lit.int .i64 a0).wf = true → l1.length ≤ maxLen → l1.length * 8 ≤ 140737488351232 → (∀ x ∈ l1, (Lit.int .i64 x).wf = true) → ∃ k, railplanlaw33_MaxplusCycles.f k a0 l1 = some true
theorem railplanlaw33_MaxplusCycles.walk (P : railplanlaw33_MaxplusCycles.Pure) (a0 : Int) (a1 : Option Addr) (len1 cap1 : Nat) (z1 : List Int) (w : World) (w0 : (Lit.int .i64 a0).wf = true) (w1 : (a1 = none ∧ len1 = 0 ∧ cap1 = 0 ∧ z1 = []) ∨ ∃ x, a1 = some x ∧ len1 ≤ cap1 ∧ cap1 ≤ maxLen ∧ z1.length = cap1 ∧ (∀ i, i < z1.length → w.cell? (x.add i) = some (.int .i64 (z1.getD i 0))) ∧ ∀ n ∈ z1, (Lit.int .i64 n).wf = true) (y1 : len1 * 8 ≤ 140737488351232) :
    Calls Try.prog 4 #[.int .i64 a0, .slice a1 len1 cap1] w fun e w' => e = .returned (.bool true) ∧ Below w.heap.size w w' := by
  obtain ⟨l1, rfl, hr1, hm1, hw1, hc1⟩ := ReadsInt.ofRowC w1
  obtain ⟨k, h⟩ := P a0 l1 w0 hm1 y1 hw1
  refine (railplanlaw33_MaxplusCycles.calls k a0 _ _ l1 true w (Kd.C_of_reads (d := (0 : Int)) (h1 := fun _ => rfl) hr1) hc1 h ⟨rfl⟩).mono ?_
  rintro e w' ⟨rfl, hd⟩
  exact ⟨rfl, hd⟩

end Go.Proofs.Ytnmhdeibjglhcaa.XMaxplusCycles
