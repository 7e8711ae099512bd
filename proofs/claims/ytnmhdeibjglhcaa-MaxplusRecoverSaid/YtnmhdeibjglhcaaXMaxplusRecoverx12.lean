-- This session's own text, written by wip/tools/xprint.py after the form of the kit's print.
import Derived.Test.YtnmhdeibjglhcaaXMaxplusRecoverx0
import Derived.Test.YtnmhdeibjglhcaaXMaxplusRecoverx1
import Derived.Test.YtnmhdeibjglhcaaXMaxplusRecoverx7
import Derived.Test.YtnmhdeibjglhcaaXMaxplusRecoverx8
import Derived.Test.YtnmhdeibjglhcaaXMaxplusRecoverx10
import Derived.Test.YtnmhdeibjglhcaaXMaxplusRecoverx11
namespace Go.Proofs.Ytnmhdeibjglhcaa.XMaxplusRecover
open Go.RowKit Go.Proofs.YtnmhdeibjglhcaaW.PrintWords Go.Proofs.YtnmhdeibjglhcaaW.PrintLast Go.Proofs.YtnmhdeibjglhcaaW.PrintMore
attribute [local go_sem] max2_int min2_int max_two min_two max_three min_three max_four min_four   -- for this text's walks alone
set_option linter.unusedVariables false
set_option linter.unusedSimpArgs false

/-! ### railplanlaw33_MaxplusRecover: function 5 -/
mutual
def railplanlaw33_MaxplusRecover.l0 : Nat → List Int → Int → Int → List (List Int) → List Int → Int → Int → Option (Bool)
 | 0, _, _, _, _, _, _, _ => none
 | k + 1, x2, x3, x4, x11, x12, x34, x35 => if x35 < x34 then (if x35 < (x2.length : Int) then (if 0 ≤ x35 then ((railplankeep_Pick.f (rd x2 x35) 200).bind fun t302 => (if x35 < (x12.length : Int) then (railplanlaw33_MaxplusRecover.l0 k x2 x3 x4 x11 (x12.set (x35 : Int).toNat t302) x34 (wrap64 (x35 + 1))) else (none))) else (none)) else (railplanlaw33_MaxplusRecover.l0 k x2 x3 x4 x11 x12 x34 (wrap64 (x35 + 1)))) else ((railplankeep_Pick.f x3 40).bind fun t304 => ((railplankeep_Pick.f x4 3).bind fun t305 => (railplanlaw33_MaxplusRecover.l1 k x11 x12 (wrap64 (1 + t304)) (decide (t305 > 0)) (x11.length : Int) 0)))
def railplanlaw33_MaxplusRecover.l1 : Nat → List (List Int) → List Int → Int → Bool → Int → Int → Option (Bool)
 | 0, _, _, _, _, _, _ => none
 | k + 1, x11, x12, x14, x15, x58, x59 => if x59 < x58 then (if 0 ≤ x59 then (if x59 < (x11.length : Int) then (railplanlaw33_MaxplusRecover.l2 k x11 x12 x14 x15 x59 x58 x59 ((rd_L1 x11 x59).length : Int) 0) else (none)) else (none)) else ((maxplus_Recover.f k x11 x12 x14 3600).bind fun bt313 => ((railplanref30_Recover.f k x11 x12 x14 3600).bind fun bt315 => ((railplanref30_Mean.f k x11).bind fun bt317 => (if x15 = true then (if bt317.2.2 = true then (if bt317.1 < (wrap64 (x14 * bt317.2.1)) then (if bt313.2 = true then ((railplanlaw33_awake.f k).bind fun t320 => (if t320 = true then (if bt313.1 = bt315.1 then (some (bt313.2 == bt315.2)) else (some false)) else (some false))) else (some false)) else ((railplanlaw33_awake.f k).bind fun t321 => (if t321 = true then (if bt313.1 = bt315.1 then (some (bt313.2 == bt315.2)) else (some false)) else (some false)))) else (if bt313.2 = true then ((railplanlaw33_awake.f k).bind fun t322 => (if t322 = true then (if bt313.1 = bt315.1 then (some (bt313.2 == bt315.2)) else (some false)) else (some false))) else (some false))) else ((railplanlaw33_awake.f k).bind fun t323 => (if t323 = true then (if bt313.1 = bt315.1 then (some (bt313.2 == bt315.2)) else (some false)) else (some false)))))))
def railplanlaw33_MaxplusRecover.l2 : Nat → List (List Int) → List Int → Int → Bool → Int → Int → Int → Int → Int → Option (Bool)
 | 0, _, _, _, _, _, _, _, _, _ => none
 | k + 1, x11, x12, x14, x15, x16, x58, x59, x66, x67 => if x67 < x66 then (if x15 = true then (if 0 ≤ x16 then (if x16 < (x11.length : Int) then (if 0 ≤ x67 then (if x67 < ((rd_L1 x11 x16).length : Int) then (railplanlaw33_MaxplusRecover.l2 k (x11.set (x16 : Int).toNat ((rd_L1 x11 x16).set (x67 : Int).toNat (mn (rd (rd_L1 x11 x16) x67) x14))) x12 x14 x15 x16 x58 x59 x66 (wrap64 (x67 + 1))) else (none)) else (none)) else (none)) else (none)) else (railplanlaw33_MaxplusRecover.l2 k x11 x12 x14 x15 x16 x58 x59 x66 (wrap64 (x67 + 1)))) else (railplanlaw33_MaxplusRecover.l1 k x11 x12 x14 x15 x58 (wrap64 (x59 + 1)))
end
def railplanlaw33_MaxplusRecover.f (k : Nat) (a0 : Int) (l1 : List Int) (l2 : List Int) (a3 : Int) (a4 : Int) : Option (Bool) := (railplankeep_Pick.f a0 4).bind fun t294 => ((railplankeep2_Matrix.f k (wrap64 (1 + t294)) l1).bind fun t295 => (if 0 ≤ (t295.length : Int) then (if ((t295.length : Int) : Int).toNat ≤ 35184372088832 then ((some (List.replicate ((t295.length : Int) : Int).toNat 0 : List Int)).bind fun y298 => (railplanlaw33_MaxplusRecover.l0 k l2 a3 a4 t295 y298 (y298.length : Int) 0)) else (none)) else (none)))
theorem railplanlaw33_MaxplusRecover.mono_l : ∀ k, (∀ y0 y1 y2 y3 y4 y5 y6, LeO (railplanlaw33_MaxplusRecover.l0 k y0 y1 y2 y3 y4 y5 y6) (railplanlaw33_MaxplusRecover.l0 (k + 1) y0 y1 y2 y3 y4 y5 y6)) ∧ (∀ y0 y1 y2 y3 y4 y5, LeO (railplanlaw33_MaxplusRecover.l1 k y0 y1 y2 y3 y4 y5) (railplanlaw33_MaxplusRecover.l1 (k + 1) y0 y1 y2 y3 y4 y5)) ∧ (∀ y0 y1 y2 y3 y4 y5 y6 y7 y8, LeO (railplanlaw33_MaxplusRecover.l2 k y0 y1 y2 y3 y4 y5 y6 y7 y8) (railplanlaw33_MaxplusRecover.l2 (k + 1) y0 y1 y2 y3 y4 y5 y6 y7 y8))
 | 0 => ⟨fun _ _ _ _ _ _ _ r h => by simp [railplanlaw33_MaxplusRecover.l0] at h, fun _ _ _ _ _ _ r h => by simp [railplanlaw33_MaxplusRecover.l1] at h, fun _ _ _ _ _ _ _ _ _ r h => by simp [railplanlaw33_MaxplusRecover.l2] at h⟩
 | k + 1 => by
  obtain ⟨ih0, ih1, ih2⟩ := railplanlaw33_MaxplusRecover.mono_l k
  refine ⟨?_, ?_, ?_⟩
  ·intro y0 y1 y2 y3 y4 y5 y6
   unfold railplanlaw33_MaxplusRecover.l0
   repeat' first
   | (with_reducible exact ih0 _ _ _ _ _ _ _)
   | (with_reducible exact ih1 _ _ _ _ _ _)
   | (with_reducible exact ih2 _ _ _ _ _ _ _ _ _)
   | (with_reducible exact maxplus_Recover.mono _ _ _ _ _)
   | (with_reducible exact railplankeep2_Matrix.mono _ _ _)
   | (with_reducible exact railplanlaw33_awake.mono _)
   | (with_reducible exact railplanref30_Mean.mono _ _)
   | (with_reducible exact railplanref30_Recover.mono _ _ _ _ _)
   | (with_reducible exact LeO.refl _)
   | (with_reducible exact LeO.none _)
   | (with_reducible refine LeO.ite ?_ ?_)
   | (with_reducible refine LeO.bind ?_ (fun _ => ?_))
   | exact ih0 _ _ _ _ _ _ _
   | exact ih1 _ _ _ _ _ _
   | exact ih2 _ _ _ _ _ _ _ _ _
   | exact maxplus_Recover.mono _ _ _ _ _
   | exact railplankeep2_Matrix.mono _ _ _
   | exact railplanlaw33_awake.mono _
   | exact railplanref30_Mean.mono _ _
   | exact railplanref30_Recover.mono _ _ _ _ _
   | exact LeO.none _
   | refine LeO.ite ?_ ?_
   | refine LeO.bind ?_ (fun _ => ?_)
  ·intro y0 y1 y2 y3 y4 y5
   unfold railplanlaw33_MaxplusRecover.l1
   repeat' first
   | (with_reducible exact ih0 _ _ _ _ _ _ _)
   | (with_reducible exact ih1 _ _ _ _ _ _)
   | (with_reducible exact ih2 _ _ _ _ _ _ _ _ _)
   | (with_reducible exact maxplus_Recover.mono _ _ _ _ _)
   | (with_reducible exact railplankeep2_Matrix.mono _ _ _)
   | (with_reducible exact railplanlaw33_awake.mono _)
   | (with_reducible exact railplanref30_Mean.mono _ _)
   | (with_reducible exact railplanref30_Recover.mono _ _ _ _ _)
   | (with_reducible exact LeO.refl _)
   | (with_reducible exact LeO.none _)
   | (with_reducible refine LeO.ite ?_ ?_)
   | (with_reducible refine LeO.bind ?_ (fun _ => ?_))
   | exact ih0 _ _ _ _ _ _ _
   | exact ih1 _ _ _ _ _ _
   | exact ih2 _ _ _ _ _ _ _ _ _
   | exact maxplus_Recover.mono _ _ _ _ _
   | exact railplankeep2_Matrix.mono _ _ _
   | exact railplanlaw33_awake.mono _
   | exact railplanref30_Mean.mono _ _
   | exact railplanref30_Recover.mono _ _ _ _ _
   | exact LeO.none _
   | refine LeO.ite ?_ ?_
   | refine LeO.bind ?_ (fun _ => ?_)
  ·intro y0 y1 y2 y3 y4 y5 y6 y7 y8
   unfold railplanlaw33_MaxplusRecover.l2
   repeat' first
   | (with_reducible exact ih0 _ _ _ _ _ _ _)
   | (with_reducible exact ih1 _ _ _ _ _ _)
   | (with_reducible exact ih2 _ _ _ _ _ _ _ _ _)
   | (with_reducible exact maxplus_Recover.mono _ _ _ _ _)
   | (with_reducible exact railplankeep2_Matrix.mono _ _ _)
   | (with_reducible exact railplanlaw33_awake.mono _)
   | (with_reducible exact railplanref30_Mean.mono _ _)
   | (with_reducible exact railplanref30_Recover.mono _ _ _ _ _)
   | (with_reducible exact LeO.refl _)
   | (with_reducible exact LeO.none _)
   | (with_reducible refine LeO.ite ?_ ?_)
   | (with_reducible refine LeO.bind ?_ (fun _ => ?_))
   | exact ih0 _ _ _ _ _ _ _
   | exact ih1 _ _ _ _ _ _
   | exact ih2 _ _ _ _ _ _ _ _ _
   | exact maxplus_Recover.mono _ _ _ _ _
   | exact railplankeep2_Matrix.mono _ _ _
   | exact railplanlaw33_awake.mono _
   | exact railplanref30_Mean.mono _ _
   | exact railplanref30_Recover.mono _ _ _ _ _
   | exact LeO.none _
   | refine LeO.ite ?_ ?_
   | refine LeO.bind ?_ (fun _ => ?_)
theorem railplanlaw33_MaxplusRecover.mono : ∀ a0 a1 a2 a3 a4 k, LeO (railplanlaw33_MaxplusRecover.f k a0 a1 a2 a3 a4) (railplanlaw33_MaxplusRecover.f (k + 1) a0 a1 a2 a3 a4) := by
 intro a0 a1 a2 a3 a4 k
 obtain ⟨ih0, ih1, ih2⟩ := railplanlaw33_MaxplusRecover.mono_l k
 unfold railplanlaw33_MaxplusRecover.f
 repeat' first
   | (with_reducible exact ih0 _ _ _ _ _ _ _)
   | (with_reducible exact ih1 _ _ _ _ _ _)
   | (with_reducible exact ih2 _ _ _ _ _ _ _ _ _)
   | (with_reducible exact maxplus_Recover.mono _ _ _ _ _)
   | (with_reducible exact railplankeep2_Matrix.mono _ _ _)
   | (with_reducible exact railplanlaw33_awake.mono _)
   | (with_reducible exact railplanref30_Mean.mono _ _)
   | (with_reducible exact railplanref30_Recover.mono _ _ _ _ _)
   | (with_reducible exact LeO.refl _)
   | (with_reducible exact LeO.none _)
   | (with_reducible refine LeO.ite ?_ ?_)
   | (with_reducible refine LeO.bind ?_ (fun _ => ?_))
   | exact ih0 _ _ _ _ _ _ _
   | exact ih1 _ _ _ _ _ _
   | exact ih2 _ _ _ _ _ _ _ _ _
   | exact maxplus_Recover.mono _ _ _ _ _
   | exact railplankeep2_Matrix.mono _ _ _
   | exact railplanlaw33_awake.mono _
   | exact railplanref30_Mean.mono _ _
   | exact railplanref30_Recover.mono _ _ _ _ _
   | exact LeO.none _
   | refine LeO.ite ?_ ?_
   | refine LeO.bind ?_ (fun _ => ?_)
def railplanlaw33_MaxplusRecover.T18 : Bool × List (List Nat × List Nat) := (true, [([], []), ([], []), ([0, 1], [0, 1]), ([2], [2]), ([], []), ([], []), ([], []), ([5, 6], [5, 6]), ([7], [7]), ([], []), ([8, 9], [8, 9]), ([10], [10]), ([], []), ([11, 12], [11, 12]), ([3, 4, 0, 1, 2, 3, 4, 5, 6, 7, 8, 9, 10, 11, 12, 13], [3, 4]), ([14, 13, 0, 1, 2, 3, 4, 5, 6, 7, 8, 9, 10, 11, 12, 13], [13, 14])])
def railplanlaw33_MaxplusRecover.B18 : List Nat := [0, 0, 3, 7, 0, 0, 0, 96, 224, 0, 992, 2016, 0, 8160, 16383, 32767]
theorem railplanlaw33_MaxplusRecover.tab18 : rtab .any (opsOf Try.f5 18) = railplanlaw33_MaxplusRecover.T18 := by kernel_rfl
theorem railplanlaw33_MaxplusRecover.bits18 : waitsOk railplanlaw33_MaxplusRecover.T18.2 railplanlaw33_MaxplusRecover.B18 = true := by kernel_rfl
set_option maxHeartbeats 8000000 in
set_option maxRecDepth 100000 in
theorem railplanlaw33_MaxplusRecover.calls (k : Nat) (a0 : Int) (A1 : Option Addr) (c1 : Nat) (l1 : List Int) (A2 : Option Addr) (c2 : Nat) (l2 : List Int) (a3 : Int) (a4 : Int) (r : Bool) (w : World) (hr1 : Kd.C (Kd.int .i64) w A1 l1.length l1) (hc1 : l1.length ≤ c1) (hr2 : Kd.C (Kd.int .i64) w A2 l2.length l2) (hc2 : l2.length ≤ c2) (h : railplanlaw33_MaxplusRecover.f k a0 l1 l2 a3 a4 = some r) (hT : Aside0 (r = true)) :
  Calls Try.prog 5 #[.int .i64 a0, .slice A1 l1.length c1, .slice A2 l2.length c2, .int .i64 a3, .int .i64 a4] w fun e w' => e = .returned (.bool r) ∧ Below w.heap.size w w' := by
 have HR1 := Aside0.mk hr1
 have HC1 := Aside0.mk hc1
 clear hr1 hc1
 have HR2 := Aside0.mk hr2
 have HC2 := Aside0.mk hc2
 clear hr2 hc2
 have HB := Aside0.mk (Below.refl w.heap.size w)
 have H : ((railplankeep_Pick.f a0 4).bind fun t294 => ((railplankeep2_Matrix.f k (wrap64 (1 + t294)) l1).bind fun t295 => (if 0 ≤ (t295.length : Int) then (if ((t295.length : Int) : Int).toNat ≤ 35184372088832 then ((some (List.replicate ((t295.length : Int) : Int).toNat 0 : List Int)).bind fun y298 => (railplanlaw33_MaxplusRecover.l0 k l2 a3 a4 t295 y298 (y298.length : Int) 0)) else (none)) else (none)))) = some r := h
 clear h
 replace H := Option.bind_eq_some_iff.mp H
 obtain ⟨t294, A60, H⟩ := H
 replace H : ((railplankeep2_Matrix.f k (wrap64 (1 + t294)) l1).bind fun t295 => (if 0 ≤ (t295.length : Int) then (if ((t295.length : Int) : Int).toNat ≤ 35184372088832 then ((some (List.replicate ((t295.length : Int) : Int).toNat 0 : List Int)).bind fun y298 => (railplanlaw33_MaxplusRecover.l0 k l2 a3 a4 t295 y298 (y298.length : Int) 0)) else (none)) else (none))) = some r := H
 have A6 := Aside0.mk A60
 clear A60
 replace H := Option.bind_eq_some_iff.mp H
 obtain ⟨t295, A70, H⟩ := H
 replace H : (if 0 ≤ (t295.length : Int) then (if ((t295.length : Int) : Int).toNat ≤ 35184372088832 then ((some (List.replicate ((t295.length : Int) : Int).toNat 0 : List Int)).bind fun y298 => (railplanlaw33_MaxplusRecover.l0 k l2 a3 a4 t295 y298 (y298.length : Int) 0)) else (none)) else (none)) = some r := H
 have A7 := Aside0.mk A70
 clear A70
 by_cases c8 : 0 ≤ (t295.length : Int)
 ·rw [if_pos c8] at H
  have c8b0 := eq_true c8
  have c8b1 : decide (0 ≤ (t295.length : Int)) = true := decide_eq_true c8
  clear c8
  by_cases c9 : ((t295.length : Int) : Int).toNat ≤ 35184372088832
  ·rw [if_pos c9] at H
   have c9b0 := eq_true c9
   have c9b1 : decide (((t295.length : Int) : Int).toNat ≤ 35184372088832) = true := decide_eq_true c9
   clear c9
   obtain ⟨y298, hy298⟩ : ∃ y_ : List Int, y_ = (List.replicate ((t295.length : Int) : Int).toNat 0) := ⟨_, rfl⟩
   replace H : (railplanlaw33_MaxplusRecover.l0 k l2 a3 a4 t295 y298 (y298.length : Int) 0) = some r := by first | (rw [hy298]; with_reducible exact H) | (have H2_ := (Option.bind_some _ _).symm.trans H; rw [hy298]; with_reducible exact H2_) | (have H2_ := (Option.bind_some _ _).symm.trans H; with_reducible exact H2_) | with_reducible exact H | (rw [hy298]; exact H) | exact H
   have Ny298 := Aside0.mk hy298
   clear hy298
   have H' := Aside0.mk H
   clear H
   go_enter Try.func5, Try.ntmps5
   go_wp2_with (first | ((with_reducible refine gate_callee (f := 14) rfl ?_); refine goesL_ (some 26) rfl rfl Try.func14 (by kernel_rfl) rfl #[.int .i64 a0, .int .i64 4] rfl (by (try simp only [List.map_toArray, List.map_cons, List.map_nil]); first | done | rfl | (simp only [List.length_drop, List.length_take]; rfl)) ?_; (with_reducible refine (railplankeep_Pick.calls a0 4 t294 _ A6.out).mono ?_); rintro e w' ⟨rfl, ⟨nd, rfl⟩⟩; refine ⟨_, rfl, ?_⟩) | ((with_reducible refine gate_callee (f := 13) rfl ?_); refine goesL_ (some 29) rfl rfl Try.func13 (by kernel_rfl) rfl #[.int .i64 (wrap64 (1 + t294)), .slice A1 l1.length c1] rfl (by (try simp only [List.map_toArray, List.map_cons, List.map_nil]); first | done | rfl | (simp only [List.length_drop, List.length_take]; rfl)) ?_; (with_reducible refine (railplankeep2_Matrix.calls k (wrap64 (1 + t294)) _ _ l1 t295 _ ?side1 ?side2 A7.out).mono ?_); (case side1 => repeat (first | exact HR1.out | (with_reducible refine Kd.C_alloc ?_ _) | (with_reducible refine Kd.C_drewN ?_ _) | (with_reducible refine Kd.C_drew ?_))); (case side2 => exact HC1.out); rintro e w10 ⟨v296, rfl, ho0, hb⟩; refine ⟨_, rfl, ?_⟩; have n0_ := Aside0.mk (Kd.S_lower ho0 (below_size (by repeat (first | (with_reducible first | exact HB.out | apply below_alloc | apply pw_below_drewN | apply below_drew1) | exact HB.out)))); have n1_ := Aside0.mk (below_step (by repeat (first | (with_reducible first | exact HB.out | apply below_alloc | apply pw_below_drewN | apply below_drew1) | exact HB.out)) hb); clear HB; have HO297 := n0_; have HB := n1_; clear n0_ n1_; (try clear hb); (try clear hb2); (try clear hk); (try clear hi); (try clear ho0); obtain ⟨Ao11, co11, eo11⟩ := Kd.S_slice HO297.out; subst eo11) | ((with_reducible refine gate_dst (N := 32) rfl ?_); refine Kd.R_make (Kd.int .i64) _ 3 rfl (N := 32) rfl 22 _ _ rfl (t295.length : Int) rfl rfl Try.underlying22 (.int .i64 0) 8 info3 rfl (by decide) (by omega) 0 (ok := fun _ => True) (okp := fun _ => True) rfl (fun _ hk => hk) trivial (of_decide_eq_true (by first | (with_reducible assumption) | assumption)) (Nat.le_trans (Nat.mul_le_mul_right _ (of_decide_eq_true (by first | (with_reducible assumption) | assumption) : (t295.length : Int).toNat ≤ 35184372088832)) (by omega)) (Below.refl _ _) (Nat.le_refl _) ?_; intro v299 w12 ho13 hb hg_ hnew_; clear hg_ hnew_; (first | rw [← Ny298.out] at ho13 | (simp only [Int.reduceToNat] at ho13; rw [← Ny298.out] at ho13)); have n0_ := Aside0.mk (Kd.S_elder' (by (with_reducible repeat (first | apply Kd.S_alloc | apply Kd.S_drewN | apply Kd.S_drew)); exact HO297.out) (by first | exact Kd.N_base ho13 | exact Kd.S_base ho13 | exact Kd.R_base ho13 | exact Kd.Q_base ho13) hb); have n1_ := Aside0.mk (Kd.R_lower ho13 (below_size (by repeat (first | (with_reducible first | exact HB.out | apply below_alloc | apply pw_below_drewN | apply below_drew1) | exact HB.out)))); have n2_ := Aside0.mk (below_step (by repeat (first | (with_reducible first | exact HB.out | apply below_alloc | apply pw_below_drewN | apply below_drew1) | exact HB.out)) hb); clear HO297; clear HB; have HO297 := n0_; have HO300 := n1_; have HB := n2_; clear n0_ n1_ n2_; clear hb ho13; obtain ⟨Ao14, co14, eo14⟩ := Kd.R_slice HO300.out; subst eo14))
   go_loopg [35] k (fun kq v35 w' => ∃ (x12_1 : List Int) (x35_1 : Int), v35 = .int .i64 x35_1 ∧ Aside0 (railplanlaw33_MaxplusRecover.l0 kq l2 a3 a4 t295 x12_1 (y298.length : Int) x35_1 = some r) ∧ Aside0 (kq ≤ k) ∧ Aside0 (Kd.S (Kd.slice 3 (Kd.int .i64)) 22 w' w.heap.size (fun k_ => some k_ ≠ ((.slice Ao14 y298.length co14) : Value).ownBlock) (.slice Ao11 t295.length co11) t295) ∧ Aside0 (Kd.R (Kd.int .i64) 3 w' w.heap.size (fun _ => True) (.slice Ao14 y298.length co14) x12_1) ∧ Aside0 (Below w.heap.size w w'))
   case atStart => exact ⟨(y298), (0), (by first | rfl | (simp; done) | (simp [*]; done)), H', ⟨Nat.le_refl _⟩, ⟨by (with_reducible repeat (first | apply Kd.S_alloc | apply Kd.S_drewN | apply Kd.S_drew)); exact Kd.S_mono HO297.out (fun _ hk => hk.2)⟩, ⟨by (with_reducible repeat (first | apply Kd.R_alloc | apply Kd.R_drewN | apply Kd.R_drew)); exact HO300.out⟩, ⟨by repeat (first | (with_reducible first | exact HB.out | apply below_alloc | apply pw_below_drewN | apply below_drew1) | exact HB.out)⟩⟩
   case round =>
    clear H'
    try clear c1
    try clear c2
    try clear p2
    try clear c5
    try clear p6
    try clear c8
    try clear c8b0
    try clear c8b1
    try clear c9
    try clear c9b0
    try clear c9b1
    try clear c13
    try clear c14
    obtain ⟨x12_1, x35_1, rfl, HA, HK1, HO_11, HO_12, HB⟩ := hrel
    have hl12_1 := (Kd.R_reads' HO_12.out).1
    rw [hl12_1] at HO_12
    (try simp only [hl12_1])
    (try simp only [hl12_1] at HO_11)
    cases gk with
    | zero => exact absurd HA.out (by simp [railplanlaw33_MaxplusRecover.l0])
    | succ k1 =>
     have H := HA.out
     clear HA
     simp only [railplanlaw33_MaxplusRecover.l0] at H
     by_cases c15 : x35_1 < (y298.length : Int)
     ·rw [if_pos c15] at H
      have c15b0 : decide (x35_1 < (y298.length : Int)) = true := decide_eq_true c15
      (try (have c15b9_0 := c15b0; simp only [hl12_1] at c15b9_0))
      clear c15
      by_cases c16 : x35_1 < (l2.length : Int)
      ·rw [if_pos c16] at H
       have c16b0 : decide (x35_1 < (l2.length : Int)) = true := decide_eq_true c16
       (try (have c16b9_0 := c16b0; simp only [hl12_1] at c16b9_0))
       clear c16
       by_cases c17 : 0 ≤ x35_1
       ·rw [if_pos c17] at H
        have c17b0 : decide (0 ≤ x35_1) = true := decide_eq_true c17
        clear c17
        replace H := Option.bind_eq_some_iff.mp H
        obtain ⟨t302, A180, H⟩ := H
        replace H : (if x35_1 < (x12_1.length : Int) then (railplanlaw33_MaxplusRecover.l0 k1 l2 a3 a4 t295 (x12_1.set (x35_1 : Int).toNat t302) (y298.length : Int) (wrap64 (x35_1 + 1))) else (none)) = some r := H
        have A18 := Aside0.mk A180
        clear A180
        by_cases c19 : x35_1 < (x12_1.length : Int)
        ·rw [if_pos c19] at H
         have c19b0 : decide (x35_1 < (x12_1.length : Int)) = true := decide_eq_true c19
         (try (have c19b9_0 := c19b0; simp only [hl12_1] at c19b9_0))
         clear c19
         obtain ⟨y303, hy303⟩ : ∃ y_ : List Int, y_ = (x12_1.set (x35_1 : Int).toNat t302) := ⟨_, rfl⟩
         replace H : (railplanlaw33_MaxplusRecover.l0 k1 l2 a3 a4 t295 y303 (y298.length : Int) (wrap64 (x35_1 + 1))) = some r := by first | (rw [hy303]; with_reducible exact H) | (have H2_ := (Option.bind_some _ _).symm.trans H; rw [hy303]; with_reducible exact H2_) | (have H2_ := (Option.bind_some _ _).symm.trans H; with_reducible exact H2_) | with_reducible exact H | (rw [hy303]; exact H) | exact H
         have Ny303 := Aside0.mk hy303
         clear hy303
         have H' := Aside0.mk H
         clear H
         have p301 : 0 ≤ (x35_1 : Int) := of_decide_eq_true (by first | (with_reducible assumption) | assumption)
         have q301 : x35_1 < (l2.length : Int) := of_decide_eq_true (by first | (with_reducible assumption) | assumption)
         obtain ⟨ad301, e301, hx301_0⟩ := Kd.at_int HR2.out x35_1 p301 q301
         cases e301
         replace hx301_0 := (HB.out.cell (World.block_lt_of_cell? w _ hx301_0)).trans hx301_0
         replace p301 := eq_true p301
         replace q301 := eq_true q301
         go_wp2_with (first | ((with_reducible refine gate_callee (f := 14) rfl ?_); refine goesL_ (some 48) rfl rfl Try.func14 (by kernel_rfl) rfl #[.int .i64 (rd l2 x35_1), .int .i64 200] rfl (by (try simp only [List.map_toArray, List.map_cons, List.map_nil]); first | done | rfl | (simp only [List.length_drop, List.length_take]; rfl)) ?_; (with_reducible refine (railplankeep_Pick.calls (rd l2 x35_1) 200 t302 _ A18.out).mono ?_); rintro e w' ⟨rfl, ⟨nd, rfl⟩⟩; refine ⟨_, rfl, ?_⟩; (try (rw [drewN_self wr]; generalize hq_ : World.drewN wr _ = wr; have n0_ : Aside0 (Kd.S (Kd.slice 3 (Kd.int .i64)) 22 wr w.heap.size (fun k_ => some k_ ≠ (.slice Ao14 x12_1.length co14 : Value).ownBlock) (.slice Ao11 t295.length co11) t295) := ⟨by rw [← hq_]; exact (by (with_reducible repeat (first | apply Kd.S_alloc | apply Kd.S_drewN | apply Kd.S_drew)); exact HO_11.out)⟩; have n1_ : Aside0 (Kd.R (Kd.int .i64) 3 wr w.heap.size (fun _ => True) (.slice Ao14 x12_1.length co14) x12_1) := ⟨by rw [← hq_]; exact (by (with_reducible repeat (first | apply Kd.R_alloc | apply Kd.R_drewN | apply Kd.R_drew)); exact HO_12.out)⟩; have n2_ : Aside0 (Below w.heap.size w wr) := ⟨by rw [← hq_]; exact (by repeat (first | (with_reducible first | exact HB.out | apply below_alloc | apply pw_below_drewN | apply below_drew1) | exact HB.out))⟩; clear HO_11 HO_12 HB hq_; have HO_11 := n0_; have HO_12 := n1_; have HB := n2_; clear n0_ n1_ n2_)); have p20 : 0 ≤ (x35_1 : Int) := of_decide_eq_true (by first | (with_reducible assumption) | assumption); have q20 : (x35_1 : Int) < ((x12_1.length : Int) : Int) := of_decide_eq_true (by first | (with_reducible assumption) | assumption); obtain ⟨go20, co20, eo20, gb20, gl20, cl20, HG20⟩ := Kd.R_form HO_12.out (by omega); (first | cases eo20 | (injection eo20 with ea_ en_ ec_; (first | subst ea_ | (injection ea_ with ea_; subst ea_)); subst ec_; clear en_)); have GB20 := Aside0.mk gb20; have GG20 := Aside0.mk HG20; clear gb20 gl20 HG20; obtain ⟨hx20_0, hf20_0⟩ := Kd.R_celln 0 HO_12.out (x35_1 : Int) p20 q20; replace p20 := eq_true p20; replace q20 := eq_true q20; obtain ⟨hy21_, hz21_⟩ := Kd.R_celln 0 HO_12.out (x35_1 : Int) (of_decide_eq_true (by first | (with_reducible assumption) | assumption)) (of_decide_eq_true (by first | (with_reducible assumption) | assumption)); have HP21 := Kd.R_putg HO_12.out (x35_1 : Int) t302) | ((with_reducible refine gate_store (t := 3) (p := 49) rfl ?_); refine store_event (t := 3) (p := 49) (v := ?vo_w22) (w1 := (wr.setCell ⟨go20, (x35_1 : Int).toNat, none⟩ (.int .i64 t302))) ?hg ?ho ?hn ?hr ?_; (case ho => rfl); (case hg => rfl); (case hn => rfl); (case hr => first | (go_simp; done) | (go_simp; rfl)); intro w22 hw; have hg : wr.grownBy w22 (some go20) := (by rw [hw]; exact HP21.2); have hp_ : Kd.R (Kd.int .i64) 3 w22 w.heap.size (fun _ => True) (.slice (some ⟨go20, 0, none⟩) x12_1.length co14) y303 := (by rw [hw, Ny303.out]; exact HP21.1); clear HP21; have n0_ := Aside0.mk (Kd.S_after (v := (.slice (some ⟨go20, 0, none⟩) x12_1.length co14)) (v1 := (.slice (some ⟨go20, 0, none⟩) x12_1.length co14)) (ok := (fun _ => True)) (by (with_reducible repeat (first | apply Kd.S_alloc | apply Kd.S_drewN | apply Kd.S_drew)); exact Kd.S_mono HO_11.out (fun _ hk => ⟨trivial, hk⟩)) hg (.inl rfl)); have n1_ := Aside0.mk (hp_); have n2_ := Aside0.mk ((by rw [hw]; exact below_set (HB.out) GB20.out : Below w.heap.size w w22)); clear HO_11; clear HO_12; clear HB; have HO_11 := n0_; have HO_12 := n1_; have HB := n2_; clear n0_ n1_ n2_; clear hg hw hp_))
         (try simp only [← hl12_1])
         go_roundg k1
         case measure => have := HK1.out; omega
         case rel => exact ⟨(y303), (wrap64 (x35_1 + 1)), (by first | rfl | (simp; done) | (simp [*]; done)), H', ⟨by have := HK1.out; omega⟩, ⟨by (try simp only [hl12_1]); (with_reducible repeat (first | apply Kd.S_alloc | apply Kd.S_drewN | apply Kd.S_drew)); exact Kd.S_mono HO_11.out (fun _ hk => hk.2)⟩, ⟨by (try simp only [hl12_1]); (with_reducible repeat (first | apply Kd.R_alloc | apply Kd.R_drewN | apply Kd.R_drew)); exact HO_12.out⟩, ⟨by repeat (first | (with_reducible first | exact HB.out | apply below_alloc | apply pw_below_drewN | apply below_drew1) | exact HB.out)⟩⟩
        ·rw [if_neg c19] at H
         exact absurd H (by simp)
       ·rw [if_neg c17] at H
        exact absurd H (by simp)
      ·rw [if_neg c16] at H
       have c16b0 : decide (x35_1 < (l2.length : Int)) = false := decide_eq_false c16
       (try (have c16b9_0 := c16b0; simp only [hl12_1] at c16b9_0))
       clear c16
       have H' := Aside0.mk H
       clear H
       go_wp2
       (try simp only [← hl12_1])
       go_roundg k1
       case measure => have := HK1.out; omega
       case rel => exact ⟨(x12_1), (wrap64 (x35_1 + 1)), (by first | rfl | (simp; done) | (simp [*]; done)), H', ⟨by have := HK1.out; omega⟩, ⟨by (try simp only [hl12_1]); (with_reducible repeat (first | apply Kd.S_alloc | apply Kd.S_drewN | apply Kd.S_drew)); exact HO_11.out⟩, ⟨by (try simp only [hl12_1]); (with_reducible repeat (first | apply Kd.R_alloc | apply Kd.R_drewN | apply Kd.R_drew)); exact HO_12.out⟩, ⟨by repeat (first | (with_reducible first | exact HB.out | apply below_alloc | apply pw_below_drewN | apply below_drew1) | exact HB.out)⟩⟩
     ·rw [if_neg c15] at H
      have c15b0 : decide (x35_1 < (y298.length : Int)) = false := decide_eq_false c15
      (try (have c15b9_0 := c15b0; simp only [hl12_1] at c15b9_0))
      clear c15
      replace H := Option.bind_eq_some_iff.mp H
      obtain ⟨t304, A230, H⟩ := H
      replace H : ((railplankeep_Pick.f a4 3).bind fun t305 => (railplanlaw33_MaxplusRecover.l1 k1 t295 x12_1 (wrap64 (1 + t304)) (decide (t305 > 0)) (t295.length : Int) 0)) = some r := H
      have A23 := Aside0.mk A230
      clear A230
      replace H := Option.bind_eq_some_iff.mp H
      obtain ⟨t305, A240, H⟩ := H
      obtain ⟨lo305, hlo305⟩ : ∃ b_ : Bool, b_ = (decide (t305 > 0)) := ⟨_, rfl⟩
      replace H : (railplanlaw33_MaxplusRecover.l1 k1 t295 x12_1 (wrap64 (1 + t304)) lo305 (t295.length : Int) 0) = some r := by rw [hlo305]; exact H
      have A24 := Aside0.mk A240
      clear A240
      have H' := Aside0.mk H
      clear H
      go_wp2_with (first | ((with_reducible refine gate_callee (f := 14) rfl ?_); refine goesL_ (some 52) rfl rfl Try.func14 (by kernel_rfl) rfl #[.int .i64 a3, .int .i64 40] rfl (by (try simp only [List.map_toArray, List.map_cons, List.map_nil]); first | done | rfl | (simp only [List.length_drop, List.length_take]; rfl)) ?_; (with_reducible refine (railplankeep_Pick.calls a3 40 t304 _ A23.out).mono ?_); rintro e w' ⟨rfl, ⟨nd, rfl⟩⟩; refine ⟨_, rfl, ?_⟩) | ((with_reducible refine gate_callee (f := 14) rfl ?_); refine goesL_ (some 55) rfl rfl Try.func14 (by kernel_rfl) rfl #[.int .i64 a4, .int .i64 3] rfl (by (try simp only [List.map_toArray, List.map_cons, List.map_nil]); first | done | rfl | (simp only [List.length_drop, List.length_take]; rfl)) ?_; (with_reducible refine (railplankeep_Pick.calls a4 3 t305 _ A24.out).mono ?_); rintro e w' ⟨rfl, ⟨nd, rfl⟩⟩; refine ⟨_, rfl, ?_⟩))
      have hlo305b : (decide (0 < t305)) = lo305 := hlo305.symm
      simp only [hlo305b]
      clear hlo305b hlo305
      go_loopg [59] k1 (fun kq v59 w' => ∃ (x11_2 : List (List Int)) (x12_2 : List Int) (x59_2 : Int), v59 = .int .i64 x59_2 ∧ Aside0 (railplanlaw33_MaxplusRecover.l1 kq x11_2 x12_2 (wrap64 (1 + t304)) lo305 (t295.length : Int) x59_2 = some r) ∧ Aside0 (kq ≤ k1) ∧ Aside0 (Kd.S (Kd.slice 3 (Kd.int .i64)) 22 w' w.heap.size (fun k_ => some k_ ≠ ((.slice Ao14 x12_1.length co14) : Value).ownBlock) (.slice Ao11 t295.length co11) x11_2) ∧ Aside0 (Kd.R (Kd.int .i64) 3 w' w.heap.size (fun _ => True) (.slice Ao14 x12_1.length co14) x12_2) ∧ Aside0 (Below w.heap.size w w'))
      case atStart => exact ⟨(t295), (x12_1), (0), (by first | rfl | (simp; done) | (simp [*]; done)), H', ⟨Nat.le_refl _⟩, ⟨by (try simp only [hl12_1]); (with_reducible repeat (first | apply Kd.S_alloc | apply Kd.S_drewN | apply Kd.S_drew)); exact HO_11.out⟩, ⟨by (try simp only [hl12_1]); (with_reducible repeat (first | apply Kd.R_alloc | apply Kd.R_drewN | apply Kd.R_drew)); exact HO_12.out⟩, ⟨by repeat (first | (with_reducible first | exact HB.out | apply below_alloc | apply pw_below_drewN | apply below_drew1) | exact HB.out)⟩⟩
      case round =>
       clear H'
       try clear c1
       try clear c2
       try clear p2
       try clear q2
       try clear hx2
       try clear p3
       try clear q3
       try clear hx3
       try clear c5
       try clear p6
       try clear c8
       try clear c8b0
       try clear c8b1
       try clear c9
       try clear c9b0
       try clear c9b1
       try clear c13
       try clear c14
       try clear c15
       try clear c15b0
       try clear c16
       try clear c16b0
       try clear c17
       try clear c17b0
       try clear c19
       try clear c19b0
       try clear p20
       try clear q20
       try clear hx20
       try clear hf20
       try clear hx20_0
       try clear hx301_0
       try clear p2
       try clear p20
       try clear p301
       try clear p6
       try clear q20
       try clear q301
       obtain ⟨x11_2, x12_2, x59_2, rfl, HA, HK2, HO_11, HO_12, HB⟩ := hrel
       have hl11_2 := (Kd.S_reads' HO_11.out).1
       rw [hl11_2] at HO_11
       (try simp only [hl11_2])
       (try simp only [hl11_2] at HO_12)
       have hl12_2 := (Kd.R_reads' HO_12.out).1
       rw [hl12_2] at HO_12
       (try simp only [hl12_2])
       (try simp only [hl12_2] at HO_11)
       cases gk with
       | zero => exact absurd HA.out (by simp [railplanlaw33_MaxplusRecover.l1])
       | succ k2 =>
        have H := HA.out
        clear HA
        simp only [railplanlaw33_MaxplusRecover.l1] at H
        by_cases c25 : x59_2 < (t295.length : Int)
        ·rw [if_pos c25] at H
         have c25b0 : decide (x59_2 < (t295.length : Int)) = true := decide_eq_true c25
         (try (have c25b9_0 := c25b0; simp only [hl12_1] at c25b9_0))
         (try (have c25b9_1 := c25b0; simp only [hl11_2] at c25b9_1))
         (try (have c25b9_2 := c25b0; simp only [hl12_2] at c25b9_2))
         clear c25
         by_cases c26 : 0 ≤ x59_2
         ·rw [if_pos c26] at H
          have c26b0 : decide (0 ≤ x59_2) = true := decide_eq_true c26
          clear c26
          by_cases c27 : x59_2 < (x11_2.length : Int)
          ·rw [if_pos c27] at H
           have c27b0 : decide (x59_2 < (x11_2.length : Int)) = true := decide_eq_true c27
           (try (have c27b9_0 := c27b0; simp only [hl12_1] at c27b9_0))
           (try (have c27b9_1 := c27b0; simp only [hl11_2] at c27b9_1))
           (try (have c27b9_2 := c27b0; simp only [hl12_2] at c27b9_2))
           clear c27
           have H' := Aside0.mk H
           clear H
           have p306 : 0 ≤ (x59_2 : Int) := of_decide_eq_true (by first | (with_reducible assumption) | assumption)
           have q306 : x59_2 < (x11_2.length : Int) := of_decide_eq_true (by first | (with_reducible assumption) | assumption)
           obtain ⟨ad306, A306_0, c306_0, e306, hx306_0, hl306_0, hi306_0⟩ := at_L1 (Kd.S_reads' HO_11.out).2.2 x59_2 p306 q306
           cases e306
           obtain ⟨ce306, hce306, hMe306, hcc306⟩ := Kd.S_get HO_11.out [] x59_2 p306 (by first | exact q306 | exact of_decide_eq_true (by first | (with_reducible assumption) | assumption) | (have e_ := (Kd.S_reads' HO_11.out).1; omega))
           obtain ⟨ve306_0, rfl, ge306_0⟩ := hMe306
           have hv306_0 := hcc306 0 _ rfl
           rw [Nat.add_zero, show ((Kd.slice 3 (Kd.int .i64))).sz = 1 from rfl, Nat.mul_one] at hv306_0
           replace hv306_0 := Option.some.inj (hv306_0.symm.trans hx306_0)
           rw [hv306_0] at ge306_0
           have HL306_0 := Aside0.mk (show Kd.R (Kd.int .i64) 3 _ _ _ _ (rd_L1 x11_2 x59_2) from ge306_0)
           clear hv306_0 ge306_0
           have HX306_0 := Aside0.mk hx306_0
           clear hcc306 hce306
           have HR306_0 := Aside0.mk hi306_0
           have HC306_0 := Aside0.mk hl306_0
           clear hi306_0 hl306_0
           replace p306 := eq_true p306
           replace q306 := eq_true q306
           go_wp2
           go_loopg [67] k2 (fun kq v67 w' => ∃ (x11_3 : List (List Int)) (x12_3 : List Int) (x67_3 : Int), v67 = .int .i64 x67_3 ∧ Aside0 (railplanlaw33_MaxplusRecover.l2 kq x11_3 x12_3 (wrap64 (1 + t304)) lo305 x59_2 (t295.length : Int) x59_2 ((rd_L1 x11_2 x59_2).length : Int) x67_3 = some r) ∧ Aside0 (kq ≤ k2) ∧ Aside0 (Kd.S (Kd.slice 3 (Kd.int .i64)) 22 w' w.heap.size (fun k_ => some k_ ≠ ((.slice Ao14 x12_2.length co14) : Value).ownBlock) (.slice (some ad306) x11_2.length co11) x11_3) ∧ Aside0 (Kd.R (Kd.int .i64) 3 w' w.heap.size (fun _ => True) (.slice Ao14 x12_2.length co14) x12_3) ∧ Aside0 (Below w.heap.size w w'))
           case atStart => exact ⟨(x11_2), (x12_2), (0), (by first | rfl | (simp; done) | (simp [*]; done)), H', ⟨Nat.le_refl _⟩, ⟨by (try simp only [hl12_1]); (try simp only [hl11_2]); (try simp only [hl12_2]); (with_reducible repeat (first | apply Kd.S_alloc | apply Kd.S_drewN | apply Kd.S_drew)); exact HO_11.out⟩, ⟨by (try simp only [hl12_1]); (try simp only [hl11_2]); (try simp only [hl12_2]); (with_reducible repeat (first | apply Kd.R_alloc | apply Kd.R_drewN | apply Kd.R_drew)); exact HO_12.out⟩, ⟨by repeat (first | (with_reducible first | exact HB.out | apply below_alloc | apply pw_below_drewN | apply below_drew1) | exact HB.out)⟩⟩
           case round =>
            clear H'
            try clear c1
            try clear c2
            try clear p2
            try clear q2
            try clear hx2
            try clear c3
            try clear p3
            try clear q3
            try clear hx3
            try clear c5
            try clear p6
            try clear c8
            try clear c8b0
            try clear c8b1
            try clear c9
            try clear c9b0
            try clear c9b1
            try clear c13
            try clear c14
            try clear c15
            try clear c15b0
            try clear c16
            try clear c16b0
            try clear c17
            try clear c17b0
            try clear c19
            try clear c19b0
            try clear p20
            try clear q20
            try clear hx20
            try clear hf20
            try clear c25
            try clear c25b0
            try clear c26
            try clear c26b0
            try clear c27
            try clear c27b0
            try clear hx20_0
            try clear hx301_0
            try clear hx306_0
            try clear p2
            try clear p20
            try clear p3
            try clear p301
            try clear p306
            try clear p6
            try clear q2
            try clear q20
            try clear q3
            try clear q301
            try clear q306
            obtain ⟨x11_3, x12_3, x67_3, rfl, HA, HK3, HO_11, HO_12, HB⟩ := hrel
            have hl11_3 := (Kd.S_reads' HO_11.out).1
            rw [hl11_3] at HO_11
            (try simp only [hl11_3])
            (try simp only [hl11_3] at HO_12)
            have hl12_3 := (Kd.R_reads' HO_12.out).1
            rw [hl12_3] at HO_12
            (try simp only [hl12_3])
            (try simp only [hl12_3] at HO_11)
            cases gk with
            | zero => exact absurd HA.out (by simp [railplanlaw33_MaxplusRecover.l2])
            | succ k3 =>
             have H := HA.out
             clear HA
             simp only [railplanlaw33_MaxplusRecover.l2] at H
             by_cases c28 : x67_3 < ((rd_L1 x11_2 x59_2).length : Int)
             ·rw [if_pos c28] at H
              have c28b0 : decide (x67_3 < ((rd_L1 x11_2 x59_2).length : Int)) = true := decide_eq_true c28
              (try (have c28b9_0 := c28b0; simp only [hl12_1] at c28b9_0))
              (try (have c28b9_1 := c28b0; simp only [hl11_2] at c28b9_1))
              (try (have c28b9_2 := c28b0; simp only [hl12_2] at c28b9_2))
              (try (have c28b9_3 := c28b0; simp only [hl11_3] at c28b9_3))
              (try (have c28b9_4 := c28b0; simp only [hl12_3] at c28b9_4))
              clear c28
              by_cases c29 : lo305 = true
              ·rw [if_pos c29] at H
               subst c29
               by_cases c30 : 0 ≤ x59_2
               ·rw [if_pos c30] at H
                have c30b0 : decide (0 ≤ x59_2) = true := decide_eq_true c30
                clear c30
                by_cases c31 : x59_2 < (x11_3.length : Int)
                ·rw [if_pos c31] at H
                 have c31b0 : decide (x59_2 < (x11_3.length : Int)) = true := decide_eq_true c31
                 (try (have c31b9_0 := c31b0; simp only [hl12_1] at c31b9_0))
                 (try (have c31b9_1 := c31b0; simp only [hl11_2] at c31b9_1))
                 (try (have c31b9_2 := c31b0; simp only [hl12_2] at c31b9_2))
                 (try (have c31b9_3 := c31b0; simp only [hl11_3] at c31b9_3))
                 (try (have c31b9_4 := c31b0; simp only [hl12_3] at c31b9_4))
                 clear c31
                 by_cases c32 : 0 ≤ x67_3
                 ·rw [if_pos c32] at H
                  have c32b0 : decide (0 ≤ x67_3) = true := decide_eq_true c32
                  clear c32
                  by_cases c33 : x67_3 < ((rd_L1 x11_3 x59_2).length : Int)
                  ·rw [if_pos c33] at H
                   have c33b0 : decide (x67_3 < ((rd_L1 x11_3 x59_2).length : Int)) = true := decide_eq_true c33
                   (try (have c33b9_0 := c33b0; simp only [hl12_1] at c33b9_0))
                   (try (have c33b9_1 := c33b0; simp only [hl11_2] at c33b9_1))
                   (try (have c33b9_2 := c33b0; simp only [hl12_2] at c33b9_2))
                   (try (have c33b9_3 := c33b0; simp only [hl11_3] at c33b9_3))
                   (try (have c33b9_4 := c33b0; simp only [hl12_3] at c33b9_4))
                   clear c33
                   obtain ⟨ji34, hji34⟩ : ∃ j_ : Int, (mn (rd (rd_L1 x11_3 x59_2) x67_3) (wrap64 (1 + t304))) = j_ := ⟨_, rfl⟩
                   replace H : (railplanlaw33_MaxplusRecover.l2 k3 (x11_3.set (x59_2 : Int).toNat ((rd_L1 x11_3 x59_2).set (x67_3 : Int).toNat (ji34))) x12_3 (wrap64 (1 + t304)) true x59_2 (t295.length : Int) x59_2 ((rd_L1 x11_2 x59_2).length : Int) (wrap64 (x67_3 + 1))) = some r := by first | (rw [hji34] at H; exact H) | (simp only [hji34] at H ⊢; exact H)
                   have hji34_ : (if (wrap64 (1 + t304)) < (rd (rd_L1 x11_3 x59_2) x67_3) then (wrap64 (1 + t304)) else (rd (rd_L1 x11_3 x59_2) x67_3)) = ji34 := hji34
                   obtain ⟨y310, hy310⟩ : ∃ y_ : List Int, y_ = ((rd_L1 x11_3 x59_2).set (x67_3 : Int).toNat (ji34)) := ⟨_, rfl⟩
                   replace H : (railplanlaw33_MaxplusRecover.l2 k3 (x11_3.set (x59_2 : Int).toNat y310) x12_3 (wrap64 (1 + t304)) true x59_2 (t295.length : Int) x59_2 ((rd_L1 x11_2 x59_2).length : Int) (wrap64 (x67_3 + 1))) = some r := by first | (rw [hy310]; with_reducible exact H) | (have H2_ := (Option.bind_some _ _).symm.trans H; rw [hy310]; with_reducible exact H2_) | (have H2_ := (Option.bind_some _ _).symm.trans H; with_reducible exact H2_) | with_reducible exact H | (rw [hy310]; exact H) | exact H
                   have Ny310 := Aside0.mk hy310
                   clear hy310
                   obtain ⟨y312, hy312⟩ : ∃ y_ : List (List Int), y_ = (x11_3.set (x59_2 : Int).toNat y310) := ⟨_, rfl⟩
                   replace H : (railplanlaw33_MaxplusRecover.l2 k3 y312 x12_3 (wrap64 (1 + t304)) true x59_2 (t295.length : Int) x59_2 ((rd_L1 x11_2 x59_2).length : Int) (wrap64 (x67_3 + 1))) = some r := by first | (rw [hy312]; with_reducible exact H) | (have H2_ := (Option.bind_some _ _).symm.trans H; rw [hy312]; with_reducible exact H2_) | (have H2_ := (Option.bind_some _ _).symm.trans H; with_reducible exact H2_) | with_reducible exact H | (rw [hy312]; exact H) | exact H
                   have Ny312 := Aside0.mk hy312
                   clear hy312
                   have H' := Aside0.mk H
                   clear H
                   try go_wp2
                   have n0_ := Aside0.mk (Kd.S_drew HO_11.out)
                   have n1_ := Aside0.mk (Kd.R_drew HO_12.out)
                   have n2_ := Aside0.mk (below_drew1 HB.out)
                   clear HO_11
                   clear HO_12
                   clear HB
                   have HO_11 := n0_
                   have HO_12 := n1_
                   have HB := n2_
                   clear n0_ n1_ n2_
                   have p307 : 0 ≤ (x59_2 : Int) := of_decide_eq_true (by first | (with_reducible assumption) | assumption)
                   have q307 : x59_2 < (x11_3.length : Int) := of_decide_eq_true (by first | (with_reducible assumption) | assumption)
                   obtain ⟨ad307, A307_0, c307_0, e307, hx307_0, hl307_0, hi307_0⟩ := at_L1 (Kd.S_reads' HO_11.out).2.2 x59_2 p307 q307
                   obtain rfl : ad306 = ad307 := (by injection e307)
                   obtain ⟨ce307, hce307, hMe307, hcc307⟩ := Kd.S_get HO_11.out [] x59_2 p307 (by first | exact q307 | exact of_decide_eq_true (by first | (with_reducible assumption) | assumption) | (have e_ := (Kd.S_reads' HO_11.out).1; omega))
                   obtain ⟨ve307_0, rfl, ge307_0⟩ := hMe307
                   have hv307_0 := hcc307 0 _ rfl
                   rw [Nat.add_zero, show ((Kd.slice 3 (Kd.int .i64))).sz = 1 from rfl, Nat.mul_one] at hv307_0
                   replace hv307_0 := Option.some.inj (hv307_0.symm.trans hx307_0)
                   rw [hv307_0] at ge307_0
                   have HL307_0 := Aside0.mk (show Kd.R (Kd.int .i64) 3 _ _ _ _ (rd_L1 x11_3 x59_2) from ge307_0)
                   clear hv307_0 ge307_0
                   have HX307_0 := Aside0.mk hx307_0
                   clear hcc307 hce307
                   have HR307_0 := Aside0.mk hi307_0
                   have HC307_0 := Aside0.mk hl307_0
                   clear hi307_0 hl307_0
                   replace p307 := eq_true p307
                   replace q307 := eq_true q307
                   have p308 : 0 ≤ (x59_2 : Int) := of_decide_eq_true (by first | (with_reducible assumption) | assumption)
                   have q308 : x59_2 < (x11_3.length : Int) := of_decide_eq_true (by first | (with_reducible assumption) | assumption)
                   obtain ⟨ad308, A308_0, c308_0, e308, hx308_0, hl308_0, hi308_0⟩ := at_L1 (Kd.S_reads' HO_11.out).2.2 x59_2 p308 q308
                   obtain rfl : ad306 = ad308 := (by injection e308)
                   obtain ⟨ce308, hce308, hMe308, hcc308⟩ := Kd.S_get HO_11.out [] x59_2 p308 (by first | exact q308 | exact of_decide_eq_true (by first | (with_reducible assumption) | assumption) | (have e_ := (Kd.S_reads' HO_11.out).1; omega))
                   obtain ⟨ve308_0, rfl, ge308_0⟩ := hMe308
                   have hv308_0 := hcc308 0 _ rfl
                   rw [Nat.add_zero, show ((Kd.slice 3 (Kd.int .i64))).sz = 1 from rfl, Nat.mul_one] at hv308_0
                   replace hv308_0 := Option.some.inj (hv308_0.symm.trans hx308_0)
                   rw [hv308_0] at ge308_0
                   have HL308_0 := Aside0.mk (show Kd.R (Kd.int .i64) 3 _ _ _ _ (rd_L1 x11_3 x59_2) from ge308_0)
                   clear hv308_0 ge308_0
                   have HX308_0 := Aside0.mk hx308_0
                   clear hcc308 hce308
                   have HR308_0 := Aside0.mk hi308_0
                   have HC308_0 := Aside0.mk hl308_0
                   clear hi308_0 hl308_0
                   replace p308 := eq_true p308
                   replace q308 := eq_true q308
                   have ea_ := Option.some.inj (hx307_0.symm.trans hx308_0)
                   injection ea_ with ea_ en_ ec_
                   subst ea_
                   subst ec_
                   clear en_
                   have p309 : 0 ≤ (x67_3 : Int) := of_decide_eq_true (by first | (with_reducible assumption) | assumption)
                   have q309 : x67_3 < ((rd_L1 x11_3 x59_2).length : Int) := of_decide_eq_true (by first | (with_reducible assumption) | assumption)
                   obtain ⟨ad309, e309, hx309_0⟩ := Kd.at_int (by repeat (first | (with_reducible exact HR308_0.out) | (with_reducible refine Kd.C_alloc ?_ _) | (with_reducible refine Kd.C_drewN ?_ _) | (with_reducible refine Kd.C_drew ?_) | exact HR308_0.out)) x67_3 p309 q309
                   cases e309
                   replace p309 := eq_true p309
                   replace q309 := eq_true q309
                   have p35 : 0 ≤ (x67_3 : Int) := of_decide_eq_true (by first | (with_reducible assumption) | assumption)
                   have q35 : (x67_3 : Int) < (((rd_L1 x11_3 x59_2).length : Int) : Int) := of_decide_eq_true (by first | (with_reducible assumption) | assumption)
                   obtain ⟨go35, co35, eo35, gb35, gl35, cl35, HG35⟩ := Kd.R_form HL307_0.out (by omega)
                   (first | cases eo35 | (injection eo35 with ea_ en_ ec_; (first | subst ea_ | (injection ea_ with ea_; subst ea_)); subst ec_; clear en_))
                   have GB35 := Aside0.mk gb35
                   have GG35 := Aside0.mk HG35
                   clear gb35 gl35 HG35
                   (first | simp only [add_plain] at hx309_0 | skip)
                   obtain ⟨hx35_0, hf35_0⟩ := Kd.R_celln 0 HL307_0.out (x67_3 : Int) p35 q35
                   replace p35 := eq_true p35
                   replace q35 := eq_true q35
                   have hq37 : (x59_2 : Int) < (x11_3.length : Int) := (by have h_ : (x59_2 : Int) < ((x11_3.length : Int) : Int) := of_decide_eq_true (by first | (with_reducible assumption) | assumption); first | exact h_ | (have e_ := (Kd.S_reads' HO_11.out).1; omega) | simpa only [List.length_set, List.length_set] using h_)
                   obtain ⟨oki37, ce37, hcl37, hM37, hcc37, hok37, hbk37⟩ := Kd.S_borrow HO_11.out [] (x59_2 : Int) (of_decide_eq_true (by first | (with_reducible assumption) | assumption)) hq37
                   obtain ⟨ve37_0, rfl, ge37_0⟩ := hM37
                   have hv37 := hcc37 0 _ rfl
                   rw [Nat.add_zero, show ((Kd.slice 3 (Kd.int .i64))).sz = 1 from rfl, Nat.mul_one] at hv37
                   replace hv37 := Option.some.inj (hv37.symm.trans HX307_0.out)
                   subst hv37
                   clear hcc37 hcl37
                   replace ge37_0 := (show Kd.R (Kd.int .i64) 3 _ _ _ _ (rd_L1 x11_3 x59_2) from ge37_0)
                   have HP37 := Kd.R_putg ge37_0 (x67_3 : Int) ji34
                   rw [← Ny310.out] at HP37
                   have HS37 := hbk37 HP37.2 (fun k_ e_ => by injection e_ with e_; subst e_; exact ge37_0.1 _ rfl) (x' := y310) (Kd.M_row HP37.1)
                   rw [← Ny312.out] at HS37
                   have HQ37 := Aside0.mk HS37
                   clear HP37 HS37 hbk37 hok37
                   refine start_ (n := 16) (S := fun w' => w'.cell? (ad306.add (x59_2).toNat) = some (.slice (some ⟨go35, 0, none⟩) (rd_L1 x11_3 x59_2).length c307_0) ∧ w'.cell? (ad306.add (x59_2).toNat) = some (.slice (some ⟨go35, 0, none⟩) (rd_L1 x11_3 x59_2).length c307_0) ∧ w'.cell? ⟨go35, (x67_3).toNat, none⟩ = some (.int .i64 (rd (rd_L1 x11_3 x59_2) x67_3))) (ds := [15]) #[false, false, false, false, false, false, false, false, false, false, false, false, false, false, false, false] (by kernel_rfl) rfl rfl ⟨hx307_0, hx308_0, hx309_0⟩ (fun hHeld => ?_); refine with_tabW railplanlaw33_MaxplusRecover.tab18 railplanlaw33_MaxplusRecover.bits18 (fun HT_ HW_ => ?_)
                   generalize wr.drew = w36 at HO_11 HO_12 HB GG35 HL307_0 HL308_0 HQ37 HR307_0 HR308_0 HX307_0 HX308_0 hf35_0 hx307_0 hx308_0 hx309_0 hx35_0 hHeld ⊢
                   refine pure_ (i := 0) (N := some 71) (v := ?_) (a' := ?_) #[true, false, false, false, false, false, false, false, false, false, false, false, false, false, false, false] rfl rfl (any_of HT_.out (by kernel_rfl)) (fun _ _ _ h => h) (Or.inl ⟨by rfl, ?_⟩) ?_ ?_
                   rotate_left
                   ·intro w'
                    go_simp
                    with_reducible rfl
                   rotate_left
                   ·simp only [Act.put, List.setIfInBounds_toArray, List.set_cons_zero, List.set_cons_succ, i64_w, i32_w]
                    rfl
                   refine pure_ (i := 1) (N := some 72) (v := ?_) (a' := ?_) #[true, true, false, false, false, false, false, false, false, false, false, false, false, false, false, false] rfl rfl (any_of HT_.out (by kernel_rfl)) (fun _ _ _ h => h) (Or.inl ⟨by rfl, ?_⟩) ?_ ?_
                   rotate_left
                   ·intro w'
                    go_simp
                    with_reducible rfl
                   rotate_left
                   ·simp only [Act.put, List.setIfInBounds_toArray, List.set_cons_zero, List.set_cons_succ, i64_w, i32_w]
                    rfl
                   refine pure_ (i := 2) (N := some 73) (v := ?_) (a' := ?_) #[true, true, true, false, false, false, false, false, false, false, false, false, false, false, false, false] rfl rfl (any_of HT_.out (by kernel_rfl)) (fun _ _ _ h => h) (Or.inl ⟨by rfl, ?_⟩) ?_ ?_
                   rotate_left
                   ·intro w'
                    go_simp
                    with_reducible rfl
                   rotate_left
                   ·simp only [Act.put, List.setIfInBounds_toArray, List.set_cons_zero, List.set_cons_succ, i64_w, i32_w]
                    rfl
                   refine pure_ (i := 4) (N := some 75) (v := ?_) (a' := ?_) #[true, true, true, false, true, false, false, false, false, false, false, false, false, false, false, false] rfl rfl (any_of HT_.out (by kernel_rfl)) (fun _ _ _ h => h) (Or.inl ⟨by rfl, ?_⟩) ?_ ?_
                   rotate_left
                   ·intro w'
                    go_simp
                    with_reducible rfl
                   rotate_left
                   ·simp only [Act.put, List.setIfInBounds_toArray, List.set_cons_zero, List.set_cons_succ, i64_w, i32_w]
                    rfl
                   refine pure_ (i := 5) (N := some 76) (v := ?_) (a' := ?_) #[true, true, true, false, true, true, false, false, false, false, false, false, false, false, false, false] rfl rfl (any_of HT_.out (by kernel_rfl)) (fun _ _ _ h => h) (Or.inl ⟨by rfl, ?_⟩) ?_ ?_
                   rotate_left
                   ·intro w'
                    go_simp
                    with_reducible rfl
                   rotate_left
                   ·simp only [Act.put, List.setIfInBounds_toArray, List.set_cons_zero, List.set_cons_succ, i64_w, i32_w]
                    rfl
                   refine pure_ (i := 6) (N := some 77) (v := ?_) (a' := ?_) #[true, true, true, false, true, true, true, false, false, false, false, false, false, false, false, false] rfl rfl (any_of HT_.out (by kernel_rfl)) (fun _ _ _ h => h) (Or.inl ⟨by rfl, ?_⟩) ?_ ?_
                   rotate_left
                   ·intro w'
                    go_simp
                    with_reducible rfl
                   rotate_left
                   ·simp only [Act.put, List.setIfInBounds_toArray, List.set_cons_zero, List.set_cons_succ, i64_w, i32_w]
                    rfl
                   refine pure_ (i := 7) (N := some 78) (v := ?_) (a' := ?_) #[true, true, true, false, true, true, true, true, false, false, false, false, false, false, false, false] rfl rfl (any_of HT_.out (by kernel_rfl)) (fun _ _ _ h => h) (Or.inl ⟨by rfl, ?_⟩) ?_ ?_
                   rotate_left
                   ·intro w'
                    go_simp
                    with_reducible rfl
                   rotate_left
                   ·simp only [Act.put, List.setIfInBounds_toArray, List.set_cons_zero, List.set_cons_succ, i64_w, i32_w]
                    rfl
                   refine pure_ (i := 9) (N := some 80) (v := ?_) (a' := ?_) #[true, true, true, false, true, true, true, true, false, true, false, false, false, false, false, false] rfl rfl (any_of HT_.out (by kernel_rfl)) (fun _ _ _ h => h) (Or.inl ⟨by rfl, ?_⟩) ?_ ?_
                   rotate_left
                   ·intro w'
                    go_simp
                    with_reducible rfl
                   rotate_left
                   ·simp only [Act.put, List.setIfInBounds_toArray, List.set_cons_zero, List.set_cons_succ, i64_w, i32_w]
                    rfl
                   refine pure_ (i := 12) (N := some 83) (v := ?_) (a' := ?_) #[true, true, true, false, true, true, true, true, false, true, false, false, true, false, false, false] rfl rfl (any_of HT_.out (by kernel_rfl)) (fun _ _ _ h => h) (Or.inl ⟨by rfl, ?_⟩) ?_ ?_
                   rotate_left
                   ·intro w'
                    go_simp
                    with_reducible rfl
                   rotate_left
                   ·simp only [Act.put, List.setIfInBounds_toArray, List.set_cons_zero, List.set_cons_succ, i64_w, i32_w]
                    rfl
                   refine take_ (i := 3) (N := some 74) (v := ?_) (a' := ?_) #[true, true, true, true, true, true, true, true, false, true, false, false, true, false, false, false] rfl rfl (take_ofW HT_.out HW_.out (by kernel_rfl)) (fun _ _ _ h => h) (Or.inl ⟨by rfl, ?_⟩) hHeld ?_ ?_
                   rotate_left
                   ·rintro w' ⟨s0, s1, s2⟩
                    go_simp
                    with_reducible rfl
                   rotate_left
                   ·simp only [Act.put, List.setIfInBounds_toArray, List.set_cons_zero, List.set_cons_succ, i64_w, i32_w]
                    rfl
                   refine take_ (i := 8) (N := some 79) (v := ?_) (a' := ?_) #[true, true, true, true, true, true, true, true, true, true, false, false, true, false, false, false] rfl rfl (take_ofW HT_.out HW_.out (by kernel_rfl)) (fun _ _ _ h => h) (Or.inl ⟨by rfl, ?_⟩) hHeld ?_ ?_
                   rotate_left
                   ·rintro w' ⟨s0, s1, s2⟩
                    go_simp
                    with_reducible rfl
                   rotate_left
                   ·simp only [Act.put, List.setIfInBounds_toArray, List.set_cons_zero, List.set_cons_succ, i64_w, i32_w]
                    rfl
                   refine pure_ (i := 10) (N := some 81) (v := ?_) (a' := ?_) #[true, true, true, true, true, true, true, true, true, true, true, false, true, false, false, false] rfl rfl (any_of HT_.out (by kernel_rfl)) (fun _ _ _ h => h) (Or.inl ⟨by rfl, ?_⟩) ?_ ?_
                   rotate_left
                   ·intro w'
                    go_simp
                    with_reducible rfl
                   rotate_left
                   ·simp only [Act.put, List.setIfInBounds_toArray, List.set_cons_zero, List.set_cons_succ, i64_w, i32_w]
                    rfl
                   refine take_ (i := 11) (N := some 82) (v := ?_) (a' := ?_) #[true, true, true, true, true, true, true, true, true, true, true, true, true, false, false, false] rfl rfl (take_ofW HT_.out HW_.out (by kernel_rfl)) (fun _ _ _ h => h) (Or.inl ⟨by rfl, ?_⟩) hHeld ?_ ?_
                   rotate_left
                   ·rintro w' ⟨s0, s1, s2⟩
                    go_simp
                    with_reducible rfl
                   rotate_left
                   ·simp only [Act.put, List.setIfInBounds_toArray, List.set_cons_zero, List.set_cons_succ, i64_w, i32_w]
                    rfl
                   refine pure_ (i := 13) (N := some 84) (v := ?_) (a' := ?_) #[true, true, true, true, true, true, true, true, true, true, true, true, true, true, false, false] rfl rfl (any_of HT_.out (by kernel_rfl)) (fun _ _ _ h => h) (Or.inl ⟨by rfl, ?_⟩) ?_ ?_
                   rotate_left
                   ·intro w'
                    go_simp
                    with_reducible rfl
                   rotate_left
                   ·simp only [Act.put, List.setIfInBounds_toArray, List.set_cons_zero, List.set_cons_succ, i64_w, i32_w]
                    rfl
                   refine pure_ (i := 14) (N := some 85) (v := ?_) (a' := ?_) #[true, true, true, true, true, true, true, true, true, true, true, true, true, true, true, false] rfl rfl (any_of HT_.out (by kernel_rfl)) (fun _ _ _ h => h) (Or.inl ⟨by rfl, ?_⟩) ?_ ?_
                   rotate_left
                   ·intro w'
                    go_simp
                    with_reducible rfl
                   rotate_left
                   ·simp only [Act.put, List.setIfInBounds_toArray, List.set_cons_zero, List.set_cons_succ, i64_w, i32_w]
                    rfl
                   refine last_ (i := 15) (N := none) #[true, true, true, true, true, true, true, true, true, true, true, true, true, true, true, true] rfl rfl (one_of HT_.out (by kernel_rfl)) (by decide) (fun K hK => ?_)
                   refine skip_ (w1 := ?_) (by rfl) rfl ?_ ?_
                   rotate_left
                   ·go_simp
                    rfl
                   refine hK.out _ _ ?_
                   clear hK K
                   refine done_ (done_of HT_.out (by kernel_rfl)) ?_
                   try go_wp2
                   (try simp only [← hl11_3, ← hl12_3])
                   go_roundg k3
                   case measure => have := HK1.out; have := HK2.out; have := HK3.out; omega
                   case rel => exact ⟨(y312), (x12_3), (wrap64 (x67_3 + 1)), (by first | rfl | (simp; done) | (simp [*]; done)), H', ⟨by have := HK1.out; have := HK2.out; have := HK3.out; omega⟩, ⟨by (try simp only [hl12_1]); (try simp only [hl11_2]); (try simp only [hl12_2]); (try simp only [hl11_3]); (try simp only [hl12_3]); (with_reducible repeat (first | apply Kd.S_alloc | apply Kd.S_drewN | apply Kd.S_drew)); exact HQ37.out⟩, ⟨by (try simp only [hl12_1]); (try simp only [hl11_2]); (try simp only [hl12_2]); (try simp only [hl11_3]); (try simp only [hl12_3]); (with_reducible repeat (first | apply Kd.R_alloc | apply Kd.R_drewN | apply Kd.R_drew)); exact Kd.R_mono (Kd.R_far (p := ⟨go35, (x67_3 : Int).toNat, none⟩) (Kd.R_far1 HO_12.out rfl ((HL307_0.out.1 _ rfl).1)) (fun _ hk => hk.2) (.int .i64 ji34)) (fun _ hk => trivial)⟩, ⟨by repeat (first | (with_reducible first | exact HB.out | apply below_alloc | apply pw_below_drewN | apply below_drew1 | refine below_set ?_ GB35.out) | exact HB.out)⟩⟩
                  ·rw [if_neg c33] at H
                   exact absurd H (by simp)
                 ·rw [if_neg c32] at H
                  exact absurd H (by simp)
                ·rw [if_neg c31] at H
                 exact absurd H (by simp)
               ·rw [if_neg c30] at H
                exact absurd H (by simp)
              ·rw [if_neg c29] at H
               obtain rfl : lo305 = false := by simpa using c29
               have H' := Aside0.mk H
               clear H
               go_wp2
               (try simp only [← hl11_3, ← hl12_3])
               go_roundg k3
               case measure => have := HK1.out; have := HK2.out; have := HK3.out; omega
               case rel => exact ⟨(x11_3), (x12_3), (wrap64 (x67_3 + 1)), (by first | rfl | (simp; done) | (simp [*]; done)), H', ⟨by have := HK1.out; have := HK2.out; have := HK3.out; omega⟩, ⟨by (try simp only [hl12_1]); (try simp only [hl11_2]); (try simp only [hl12_2]); (try simp only [hl11_3]); (try simp only [hl12_3]); (with_reducible repeat (first | apply Kd.S_alloc | apply Kd.S_drewN | apply Kd.S_drew)); exact HO_11.out⟩, ⟨by (try simp only [hl12_1]); (try simp only [hl11_2]); (try simp only [hl12_2]); (try simp only [hl11_3]); (try simp only [hl12_3]); (with_reducible repeat (first | apply Kd.R_alloc | apply Kd.R_drewN | apply Kd.R_drew)); exact HO_12.out⟩, ⟨by repeat (first | (with_reducible first | exact HB.out | apply below_alloc | apply pw_below_drewN | apply below_drew1) | exact HB.out)⟩⟩
             ·rw [if_neg c28] at H
              have c28b0 : decide (x67_3 < ((rd_L1 x11_2 x59_2).length : Int)) = false := decide_eq_false c28
              (try (have c28b9_0 := c28b0; simp only [hl12_1] at c28b9_0))
              (try (have c28b9_1 := c28b0; simp only [hl11_2] at c28b9_1))
              (try (have c28b9_2 := c28b0; simp only [hl12_2] at c28b9_2))
              (try (have c28b9_3 := c28b0; simp only [hl11_3] at c28b9_3))
              (try (have c28b9_4 := c28b0; simp only [hl12_3] at c28b9_4))
              clear c28
              have H' := Aside0.mk H
              clear H
              go_wp2
              (try simp only [← hl11_2, ← hl12_2, ← hl11_3, ← hl12_3])
              go_roundg k3
              case measure => have := HK1.out; have := HK2.out; have := HK3.out; omega
              case rel => exact ⟨(x11_3), (x12_3), (wrap64 (x59_2 + 1)), (by first | rfl | (simp; done) | (simp [*]; done)), H', ⟨by have := HK1.out; have := HK2.out; have := HK3.out; omega⟩, ⟨by (try simp only [hl12_1]); (try simp only [hl11_2]); (try simp only [hl12_2]); (try simp only [hl11_3]); (try simp only [hl12_3]); (with_reducible repeat (first | apply Kd.S_alloc | apply Kd.S_drewN | apply Kd.S_drew)); exact HO_11.out⟩, ⟨by (try simp only [hl12_1]); (try simp only [hl11_2]); (try simp only [hl12_2]); (try simp only [hl11_3]); (try simp only [hl12_3]); (with_reducible repeat (first | apply Kd.R_alloc | apply Kd.R_drewN | apply Kd.R_drew)); exact HO_12.out⟩, ⟨by repeat (first | (with_reducible first | exact HB.out | apply below_alloc | apply pw_below_drewN | apply below_drew1) | exact HB.out)⟩⟩
          ·rw [if_neg c27] at H
           exact absurd H (by simp)
         ·rw [if_neg c26] at H
          exact absurd H (by simp)
        ·rw [if_neg c25] at H
         have c25b0 : decide (x59_2 < (t295.length : Int)) = false := decide_eq_false c25
         (try (have c25b9_0 := c25b0; simp only [hl12_1] at c25b9_0))
         (try (have c25b9_1 := c25b0; simp only [hl11_2] at c25b9_1))
         (try (have c25b9_2 := c25b0; simp only [hl12_2] at c25b9_2))
         clear c25
         replace H := Option.bind_eq_some_iff.mp H
         obtain ⟨⟨t313, t314⟩, A390, H⟩ := H
         replace H : ((railplanref30_Recover.f k2 x11_2 x12_2 (wrap64 (1 + t304)) 3600).bind fun bt315 => ((railplanref30_Mean.f k2 x11_2).bind fun bt317 => (if lo305 = true then (if bt317.2.2 = true then (if bt317.1 < (wrap64 ((wrap64 (1 + t304)) * bt317.2.1)) then (if t314 = true then ((railplanlaw33_awake.f k2).bind fun t320 => (if t320 = true then (if t313 = bt315.1 then (some (t314 == bt315.2)) else (some false)) else (some false))) else (some false)) else ((railplanlaw33_awake.f k2).bind fun t321 => (if t321 = true then (if t313 = bt315.1 then (some (t314 == bt315.2)) else (some false)) else (some false)))) else (if t314 = true then ((railplanlaw33_awake.f k2).bind fun t322 => (if t322 = true then (if t313 = bt315.1 then (some (t314 == bt315.2)) else (some false)) else (some false))) else (some false))) else ((railplanlaw33_awake.f k2).bind fun t323 => (if t323 = true then (if t313 = bt315.1 then (some (t314 == bt315.2)) else (some false)) else (some false)))))) = some r := H
         have A39 := Aside0.mk A390
         clear A390
         replace H := Option.bind_eq_some_iff.mp H
         obtain ⟨⟨t315, t316⟩, A400, H⟩ := H
         replace H : ((railplanref30_Mean.f k2 x11_2).bind fun bt317 => (if lo305 = true then (if bt317.2.2 = true then (if bt317.1 < (wrap64 ((wrap64 (1 + t304)) * bt317.2.1)) then (if t314 = true then ((railplanlaw33_awake.f k2).bind fun t320 => (if t320 = true then (if t313 = t315 then (some (t314 == t316)) else (some false)) else (some false))) else (some false)) else ((railplanlaw33_awake.f k2).bind fun t321 => (if t321 = true then (if t313 = t315 then (some (t314 == t316)) else (some false)) else (some false)))) else (if t314 = true then ((railplanlaw33_awake.f k2).bind fun t322 => (if t322 = true then (if t313 = t315 then (some (t314 == t316)) else (some false)) else (some false))) else (some false))) else ((railplanlaw33_awake.f k2).bind fun t323 => (if t323 = true then (if t313 = t315 then (some (t314 == t316)) else (some false)) else (some false))))) = some r := H
         have A40 := Aside0.mk A400
         clear A400
         replace H := Option.bind_eq_some_iff.mp H
         obtain ⟨⟨t317, t318, t319⟩, A410, H⟩ := H
         replace H : (if lo305 = true then (if t319 = true then (if t317 < (wrap64 ((wrap64 (1 + t304)) * t318)) then (if t314 = true then ((railplanlaw33_awake.f k2).bind fun t320 => (if t320 = true then (if t313 = t315 then (some (t314 == t316)) else (some false)) else (some false))) else (some false)) else ((railplanlaw33_awake.f k2).bind fun t321 => (if t321 = true then (if t313 = t315 then (some (t314 == t316)) else (some false)) else (some false)))) else (if t314 = true then ((railplanlaw33_awake.f k2).bind fun t322 => (if t322 = true then (if t313 = t315 then (some (t314 == t316)) else (some false)) else (some false))) else (some false))) else ((railplanlaw33_awake.f k2).bind fun t323 => (if t323 = true then (if t313 = t315 then (some (t314 == t316)) else (some false)) else (some false)))) = some r := H
         have A41 := Aside0.mk A410
         clear A410
         by_cases c42 : lo305 = true
         ·rw [if_pos c42] at H
          subst c42
          by_cases c43 : t319 = true
          ·subst c43
           have H1 : (if t317 < (wrap64 ((wrap64 (1 + t304)) * t318)) then (if t314 = true then ((railplanlaw33_awake.f k2).bind fun t320 => (if t320 = true then (if t313 = t315 then (some (t314 == t316)) else (some false)) else (some false))) else (some false)) else ((railplanlaw33_awake.f k2).bind fun t321 => (if t321 = true then (if t313 = t315 then (some (t314 == t316)) else (some false)) else (some false)))) = some r := by rw [if_pos rfl] at H; exact H
           clear H
           have H := H1
           clear H1
           by_cases c44 : t317 < (wrap64 ((wrap64 (1 + t304)) * t318))
           ·rw [if_pos c44] at H
            have c44b0 : decide (t317 < (wrap64 ((wrap64 (1 + t304)) * t318))) = true := decide_eq_true c44
            clear c44
            by_cases c45 : t314 = true
            ·subst c45
             have H1 : ((railplanlaw33_awake.f k2).bind fun t320 => (if t320 = true then (if t313 = t315 then (some (true == t316)) else (some false)) else (some false))) = some r := by rw [if_pos rfl] at H; exact H
             clear H
             have H := H1
             clear H1
             replace H := Option.bind_eq_some_iff.mp H
             obtain ⟨t320, A460, H⟩ := H
             replace H : (if t320 = true then (if t313 = t315 then (some (true == t316)) else (some false)) else (some false)) = some r := H
             have A46 := Aside0.mk A460
             clear A460
             by_cases c47 : t320 = true
             ·subst c47
              have H1 : (if t313 = t315 then (some (true == t316)) else (some false)) = some r := by rw [if_pos rfl] at H; exact H
              clear H
              have H := H1
              clear H1
              by_cases c48 : t313 = t315
              ·rw [if_pos c48] at H
               have c48b0 : (t313 == t315) = true := beq_iff_eq.mpr c48
               have c48b1 : (t313 != t315) = false := bne_eq_false_iff_eq.mpr c48
               clear c48
               obtain rfl := Option.some.inj H
               go_wp2_with (first | ((with_reducible refine gate_callee (f := 21) rfl ?_); refine goesL_ (some 92) rfl rfl Try.func21 (by kernel_rfl) rfl #[.slice Ao11 x11_2.length co11, .slice Ao14 x12_2.length co14, .int .i64 (wrap64 (1 + t304)), .int .i64 3600] rfl (by (try simp only [List.map_toArray, List.map_cons, List.map_nil]); first | done | rfl | (simp only [List.length_drop, List.length_take]; rfl)) ?_; (with_reducible refine (maxplus_Recover.calls k2 _ _ x11_2 (fun k_ => some k_ = (.slice Ao14 x12_2.length co14 : Value).ownBlock) _ _ x12_2 (wrap64 (1 + t304)) 3600 t313 true _ ?side1 ?side2 ?side3 A39.out).mono ?_); (case side1 => repeat (first | exact (Kd.S_reads' HO_11.out).2.2 | (with_reducible refine Kd.C_alloc ?_ _) | (with_reducible refine Kd.C_drewN ?_ _) | (with_reducible refine Kd.C_drew ?_))); (case side2 => exact (Kd.S_reads' HO_11.out).2.1); (case side3 => exact Kd.R_V (Kd.R_tight rfl (Kd.R_apart' (HO_12.out) (Kd.S_typed HO_11.out) (by decide)))); rintro e w49 ⟨rfl, hb⟩; refine ⟨_, rfl, ?_⟩; have n0_ := Aside0.mk (Kd.S_below (by (with_reducible repeat (first | apply Kd.S_alloc | apply Kd.S_drewN | apply Kd.S_drew)); exact HO_11.out) hb); have n1_ := Aside0.mk (Kd.R_below (by (with_reducible repeat (first | apply Kd.R_alloc | apply Kd.R_drewN | apply Kd.R_drew)); exact HO_12.out) hb); have n2_ := Aside0.mk (below_step (by repeat (first | (with_reducible first | exact HB.out | apply below_alloc | apply pw_below_drewN | apply below_drew1) | exact HB.out)) hb); clear HO_11; clear HO_12; clear HB; have HO_11 := n0_; have HO_12 := n1_; have HB := n2_; clear n0_ n1_ n2_; (try clear hb); (try clear hb2); (try clear hk); (try clear hi)) | ((with_reducible refine gate_callee (f := 22) rfl ?_); refine goesL_ (some 99) rfl rfl Try.func22 (by kernel_rfl) rfl #[.slice Ao11 x11_2.length co11, .slice Ao14 x12_2.length co14, .int .i64 (wrap64 (1 + t304)), .int .i64 3600] rfl (by (try simp only [List.map_toArray, List.map_cons, List.map_nil]); first | done | rfl | (simp only [List.length_drop, List.length_take]; rfl)) ?_; (with_reducible refine (railplanref30_Recover.calls k2 _ _ x11_2 _ _ x12_2 (wrap64 (1 + t304)) 3600 t315 t316 _ ?side1 ?side2 ?side3 ?side4 A40.out).mono ?_); (case side1 => repeat (first | exact (Kd.S_reads' HO_11.out).2.2 | (with_reducible refine Kd.C_alloc ?_ _) | (with_reducible refine Kd.C_drewN ?_ _) | (with_reducible refine Kd.C_drew ?_))); (case side2 => exact (Kd.S_reads' HO_11.out).2.1); (case side3 => repeat (first | exact (Kd.R_reads' HO_12.out).2.2 | (with_reducible refine Kd.C_alloc ?_ _) | (with_reducible refine Kd.C_drewN ?_ _) | (with_reducible refine Kd.C_drew ?_))); (case side4 => exact (Kd.R_reads' HO_12.out).2.1); rintro e w50 ⟨rfl, hb⟩; refine ⟨_, rfl, ?_⟩; have n0_ := Aside0.mk (Kd.S_below (by (with_reducible repeat (first | apply Kd.S_alloc | apply Kd.S_drewN | apply Kd.S_drew)); exact HO_11.out) hb); have n1_ := Aside0.mk (Kd.R_below (by (with_reducible repeat (first | apply Kd.R_alloc | apply Kd.R_drewN | apply Kd.R_drew)); exact HO_12.out) hb); have n2_ := Aside0.mk (below_step (by repeat (first | (with_reducible first | exact HB.out | apply below_alloc | apply pw_below_drewN | apply below_drew1) | exact HB.out)) hb); clear HO_11; clear HO_12; clear HB; have HO_11 := n0_; have HO_12 := n1_; have HB := n2_; clear n0_ n1_ n2_; (try clear hb); (try clear hb2); (try clear hk); (try clear hi)) | ((with_reducible refine gate_callee (f := 23) rfl ?_); refine goesL_ (some 104) rfl rfl Try.func23 (by kernel_rfl) rfl #[.slice Ao11 x11_2.length co11] rfl (by (try simp only [List.map_toArray, List.map_cons, List.map_nil]); first | done | rfl | (simp only [List.length_drop, List.length_take]; rfl)) ?_; (with_reducible refine (railplanref30_Mean.calls k2 (fun k_ => some k_ ≠ (.slice Ao14 x12_2.length co14 : Value).ownBlock) _ _ x11_2 t317 t318 true _ ?side1 A41.out).mono ?_); (case side1 => exact Kd.S_V (HO_11.out)); rintro e w51 ⟨rfl, hb⟩; refine ⟨_, rfl, ?_⟩; have n0_ := Aside0.mk (Kd.S_below (by (with_reducible repeat (first | apply Kd.S_alloc | apply Kd.S_drewN | apply Kd.S_drew)); exact HO_11.out) hb); have n1_ := Aside0.mk (Kd.R_below (by (with_reducible repeat (first | apply Kd.R_alloc | apply Kd.R_drewN | apply Kd.R_drew)); exact HO_12.out) hb); have n2_ := Aside0.mk (below_step (by repeat (first | (with_reducible first | exact HB.out | apply below_alloc | apply pw_below_drewN | apply below_drew1) | exact HB.out)) hb); clear HO_11; clear HO_12; clear HB; have HO_11 := n0_; have HO_12 := n1_; have HB := n2_; clear n0_ n1_ n2_; (try clear hb); (try clear hb2); (try clear hk); (try clear hi)) | ((with_reducible refine gate_callee (f := 17) rfl ?_); refine goesL_ (some 124) rfl rfl Try.func17 (by kernel_rfl) rfl #[] rfl (by (try simp only [List.map_toArray, List.map_cons, List.map_nil]); first | done | rfl | (simp only [List.length_drop, List.length_take]; rfl)) ?_; (with_reducible refine (railplanlaw33_awake.calls k2  true _ A46.out ⟨by first | rfl | assumption | exact hT.out⟩).mono ?_); rintro e w52 ⟨rfl, hb⟩; refine ⟨_, rfl, ?_⟩; have n0_ := Aside0.mk (Kd.S_below (by (with_reducible repeat (first | apply Kd.S_alloc | apply Kd.S_drewN | apply Kd.S_drew)); exact HO_11.out) hb); have n1_ := Aside0.mk (Kd.R_below (by (with_reducible repeat (first | apply Kd.R_alloc | apply Kd.R_drewN | apply Kd.R_drew)); exact HO_12.out) hb); have n2_ := Aside0.mk (below_step (by repeat (first | (with_reducible first | exact HB.out | apply below_alloc | apply pw_below_drewN | apply below_drew1) | exact HB.out)) hb); clear HO_11; clear HO_12; clear HB; have HO_11 := n0_; have HO_12 := n1_; have HB := n2_; clear n0_ n1_ n2_; (try clear hb); (try clear hb2); (try clear hk); (try clear hi)))
               go_ret
               exact ⟨by first | rfl | (simp [errW_none, errW_some] <;> rfl) | (simp [*, errW_none, errW_some] <;> rfl), by repeat (first | (with_reducible first | exact HB.out | apply below_alloc | apply pw_below_drewN | apply below_drew1) | exact HB.out)⟩
              ·rw [if_neg c48] at H
               have c48b0 : (t313 == t315) = false := beq_eq_false_iff_ne.mpr c48
               have c48b1 : (t313 != t315) = true := bne_iff_ne.mpr c48
               exact absurd (Option.some.inj H) (by rw [hT.out]; decide)
             ·replace c47 := Bool.eq_false_iff.mpr c47
              subst c47
              have H1 : (some false) = some r := by rw [if_neg (show ¬ (false = true) by decide)] at H; exact H
              clear H
              have H := H1
              clear H1
              exact absurd (Option.some.inj H) (by rw [hT.out]; decide)
            ·replace c45 := Bool.eq_false_iff.mpr c45
             subst c45
             have H1 : (some false) = some r := by rw [if_neg (show ¬ (false = true) by decide)] at H; exact H
             clear H
             have H := H1
             clear H1
             exact absurd (Option.some.inj H) (by rw [hT.out]; decide)
           ·rw [if_neg c44] at H
            have c44b0 : decide (t317 < (wrap64 ((wrap64 (1 + t304)) * t318))) = false := decide_eq_false c44
            clear c44
            replace H := Option.bind_eq_some_iff.mp H
            obtain ⟨t321, A530, H⟩ := H
            replace H : (if t321 = true then (if t313 = t315 then (some (t314 == t316)) else (some false)) else (some false)) = some r := H
            have A53 := Aside0.mk A530
            clear A530
            by_cases c54 : t321 = true
            ·subst c54
             have H1 : (if t313 = t315 then (some (t314 == t316)) else (some false)) = some r := by rw [if_pos rfl] at H; exact H
             clear H
             have H := H1
             clear H1
             by_cases c55 : t313 = t315
             ·rw [if_pos c55] at H
              have c55b0 : (t313 == t315) = true := beq_iff_eq.mpr c55
              have c55b1 : (t313 != t315) = false := bne_eq_false_iff_eq.mpr c55
              clear c55
              obtain rfl := Option.some.inj H
              go_wp2_with (first | ((with_reducible refine gate_callee (f := 21) rfl ?_); refine goesL_ (some 92) rfl rfl Try.func21 (by kernel_rfl) rfl #[.slice Ao11 x11_2.length co11, .slice Ao14 x12_2.length co14, .int .i64 (wrap64 (1 + t304)), .int .i64 3600] rfl (by (try simp only [List.map_toArray, List.map_cons, List.map_nil]); first | done | rfl | (simp only [List.length_drop, List.length_take]; rfl)) ?_; (with_reducible refine (maxplus_Recover.calls k2 _ _ x11_2 (fun k_ => some k_ = (.slice Ao14 x12_2.length co14 : Value).ownBlock) _ _ x12_2 (wrap64 (1 + t304)) 3600 t313 t314 _ ?side1 ?side2 ?side3 A39.out).mono ?_); (case side1 => repeat (first | exact (Kd.S_reads' HO_11.out).2.2 | (with_reducible refine Kd.C_alloc ?_ _) | (with_reducible refine Kd.C_drewN ?_ _) | (with_reducible refine Kd.C_drew ?_))); (case side2 => exact (Kd.S_reads' HO_11.out).2.1); (case side3 => exact Kd.R_V (Kd.R_tight rfl (Kd.R_apart' (HO_12.out) (Kd.S_typed HO_11.out) (by decide)))); rintro e w56 ⟨rfl, hb⟩; refine ⟨_, rfl, ?_⟩; have n0_ := Aside0.mk (Kd.S_below (by (with_reducible repeat (first | apply Kd.S_alloc | apply Kd.S_drewN | apply Kd.S_drew)); exact HO_11.out) hb); have n1_ := Aside0.mk (Kd.R_below (by (with_reducible repeat (first | apply Kd.R_alloc | apply Kd.R_drewN | apply Kd.R_drew)); exact HO_12.out) hb); have n2_ := Aside0.mk (below_step (by repeat (first | (with_reducible first | exact HB.out | apply below_alloc | apply pw_below_drewN | apply below_drew1) | exact HB.out)) hb); clear HO_11; clear HO_12; clear HB; have HO_11 := n0_; have HO_12 := n1_; have HB := n2_; clear n0_ n1_ n2_; (try clear hb); (try clear hb2); (try clear hk); (try clear hi)) | ((with_reducible refine gate_callee (f := 22) rfl ?_); refine goesL_ (some 99) rfl rfl Try.func22 (by kernel_rfl) rfl #[.slice Ao11 x11_2.length co11, .slice Ao14 x12_2.length co14, .int .i64 (wrap64 (1 + t304)), .int .i64 3600] rfl (by (try simp only [List.map_toArray, List.map_cons, List.map_nil]); first | done | rfl | (simp only [List.length_drop, List.length_take]; rfl)) ?_; (with_reducible refine (railplanref30_Recover.calls k2 _ _ x11_2 _ _ x12_2 (wrap64 (1 + t304)) 3600 t315 t316 _ ?side1 ?side2 ?side3 ?side4 A40.out).mono ?_); (case side1 => repeat (first | exact (Kd.S_reads' HO_11.out).2.2 | (with_reducible refine Kd.C_alloc ?_ _) | (with_reducible refine Kd.C_drewN ?_ _) | (with_reducible refine Kd.C_drew ?_))); (case side2 => exact (Kd.S_reads' HO_11.out).2.1); (case side3 => repeat (first | exact (Kd.R_reads' HO_12.out).2.2 | (with_reducible refine Kd.C_alloc ?_ _) | (with_reducible refine Kd.C_drewN ?_ _) | (with_reducible refine Kd.C_drew ?_))); (case side4 => exact (Kd.R_reads' HO_12.out).2.1); rintro e w57 ⟨rfl, hb⟩; refine ⟨_, rfl, ?_⟩; have n0_ := Aside0.mk (Kd.S_below (by (with_reducible repeat (first | apply Kd.S_alloc | apply Kd.S_drewN | apply Kd.S_drew)); exact HO_11.out) hb); have n1_ := Aside0.mk (Kd.R_below (by (with_reducible repeat (first | apply Kd.R_alloc | apply Kd.R_drewN | apply Kd.R_drew)); exact HO_12.out) hb); have n2_ := Aside0.mk (below_step (by repeat (first | (with_reducible first | exact HB.out | apply below_alloc | apply pw_below_drewN | apply below_drew1) | exact HB.out)) hb); clear HO_11; clear HO_12; clear HB; have HO_11 := n0_; have HO_12 := n1_; have HB := n2_; clear n0_ n1_ n2_; (try clear hb); (try clear hb2); (try clear hk); (try clear hi)) | ((with_reducible refine gate_callee (f := 23) rfl ?_); refine goesL_ (some 104) rfl rfl Try.func23 (by kernel_rfl) rfl #[.slice Ao11 x11_2.length co11] rfl (by (try simp only [List.map_toArray, List.map_cons, List.map_nil]); first | done | rfl | (simp only [List.length_drop, List.length_take]; rfl)) ?_; (with_reducible refine (railplanref30_Mean.calls k2 (fun k_ => some k_ ≠ (.slice Ao14 x12_2.length co14 : Value).ownBlock) _ _ x11_2 t317 t318 true _ ?side1 A41.out).mono ?_); (case side1 => exact Kd.S_V (HO_11.out)); rintro e w58 ⟨rfl, hb⟩; refine ⟨_, rfl, ?_⟩; have n0_ := Aside0.mk (Kd.S_below (by (with_reducible repeat (first | apply Kd.S_alloc | apply Kd.S_drewN | apply Kd.S_drew)); exact HO_11.out) hb); have n1_ := Aside0.mk (Kd.R_below (by (with_reducible repeat (first | apply Kd.R_alloc | apply Kd.R_drewN | apply Kd.R_drew)); exact HO_12.out) hb); have n2_ := Aside0.mk (below_step (by repeat (first | (with_reducible first | exact HB.out | apply below_alloc | apply pw_below_drewN | apply below_drew1) | exact HB.out)) hb); clear HO_11; clear HO_12; clear HB; have HO_11 := n0_; have HO_12 := n1_; have HB := n2_; clear n0_ n1_ n2_; (try clear hb); (try clear hb2); (try clear hk); (try clear hi)) | ((with_reducible refine gate_callee (f := 17) rfl ?_); refine goesL_ (some 124) rfl rfl Try.func17 (by kernel_rfl) rfl #[] rfl (by (try simp only [List.map_toArray, List.map_cons, List.map_nil]); first | done | rfl | (simp only [List.length_drop, List.length_take]; rfl)) ?_; (with_reducible refine (railplanlaw33_awake.calls k2  true _ A53.out ⟨by first | rfl | assumption | exact hT.out⟩).mono ?_); rintro e w59 ⟨rfl, hb⟩; refine ⟨_, rfl, ?_⟩; have n0_ := Aside0.mk (Kd.S_below (by (with_reducible repeat (first | apply Kd.S_alloc | apply Kd.S_drewN | apply Kd.S_drew)); exact HO_11.out) hb); have n1_ := Aside0.mk (Kd.R_below (by (with_reducible repeat (first | apply Kd.R_alloc | apply Kd.R_drewN | apply Kd.R_drew)); exact HO_12.out) hb); have n2_ := Aside0.mk (below_step (by repeat (first | (with_reducible first | exact HB.out | apply below_alloc | apply pw_below_drewN | apply below_drew1) | exact HB.out)) hb); clear HO_11; clear HO_12; clear HB; have HO_11 := n0_; have HO_12 := n1_; have HB := n2_; clear n0_ n1_ n2_; (try clear hb); (try clear hb2); (try clear hk); (try clear hi)))
              go_ret
              exact ⟨by first | rfl | (simp [errW_none, errW_some] <;> rfl) | (simp [*, errW_none, errW_some] <;> rfl), by repeat (first | (with_reducible first | exact HB.out | apply below_alloc | apply pw_below_drewN | apply below_drew1) | exact HB.out)⟩
             ·rw [if_neg c55] at H
              have c55b0 : (t313 == t315) = false := beq_eq_false_iff_ne.mpr c55
              have c55b1 : (t313 != t315) = true := bne_iff_ne.mpr c55
              exact absurd (Option.some.inj H) (by rw [hT.out]; decide)
            ·replace c54 := Bool.eq_false_iff.mpr c54
             subst c54
             have H1 : (some false) = some r := by rw [if_neg (show ¬ (false = true) by decide)] at H; exact H
             clear H
             have H := H1
             clear H1
             exact absurd (Option.some.inj H) (by rw [hT.out]; decide)
          ·replace c43 := Bool.eq_false_iff.mpr c43
           subst c43
           have H1 : (if t314 = true then ((railplanlaw33_awake.f k2).bind fun t322 => (if t322 = true then (if t313 = t315 then (some (t314 == t316)) else (some false)) else (some false))) else (some false)) = some r := by rw [if_neg (show ¬ (false = true) by decide)] at H; exact H
           clear H
           have H := H1
           clear H1
           by_cases c60 : t314 = true
           ·subst c60
            have H1 : ((railplanlaw33_awake.f k2).bind fun t322 => (if t322 = true then (if t313 = t315 then (some (true == t316)) else (some false)) else (some false))) = some r := by rw [if_pos rfl] at H; exact H
            clear H
            have H := H1
            clear H1
            replace H := Option.bind_eq_some_iff.mp H
            obtain ⟨t322, A610, H⟩ := H
            replace H : (if t322 = true then (if t313 = t315 then (some (true == t316)) else (some false)) else (some false)) = some r := H
            have A61 := Aside0.mk A610
            clear A610
            by_cases c62 : t322 = true
            ·subst c62
             have H1 : (if t313 = t315 then (some (true == t316)) else (some false)) = some r := by rw [if_pos rfl] at H; exact H
             clear H
             have H := H1
             clear H1
             by_cases c63 : t313 = t315
             ·rw [if_pos c63] at H
              have c63b0 : (t313 == t315) = true := beq_iff_eq.mpr c63
              have c63b1 : (t313 != t315) = false := bne_eq_false_iff_eq.mpr c63
              clear c63
              obtain rfl := Option.some.inj H
              go_wp2_with (first | ((with_reducible refine gate_callee (f := 21) rfl ?_); refine goesL_ (some 92) rfl rfl Try.func21 (by kernel_rfl) rfl #[.slice Ao11 x11_2.length co11, .slice Ao14 x12_2.length co14, .int .i64 (wrap64 (1 + t304)), .int .i64 3600] rfl (by (try simp only [List.map_toArray, List.map_cons, List.map_nil]); first | done | rfl | (simp only [List.length_drop, List.length_take]; rfl)) ?_; (with_reducible refine (maxplus_Recover.calls k2 _ _ x11_2 (fun k_ => some k_ = (.slice Ao14 x12_2.length co14 : Value).ownBlock) _ _ x12_2 (wrap64 (1 + t304)) 3600 t313 true _ ?side1 ?side2 ?side3 A39.out).mono ?_); (case side1 => repeat (first | exact (Kd.S_reads' HO_11.out).2.2 | (with_reducible refine Kd.C_alloc ?_ _) | (with_reducible refine Kd.C_drewN ?_ _) | (with_reducible refine Kd.C_drew ?_))); (case side2 => exact (Kd.S_reads' HO_11.out).2.1); (case side3 => exact Kd.R_V (Kd.R_tight rfl (Kd.R_apart' (HO_12.out) (Kd.S_typed HO_11.out) (by decide)))); rintro e w64 ⟨rfl, hb⟩; refine ⟨_, rfl, ?_⟩; have n0_ := Aside0.mk (Kd.S_below (by (with_reducible repeat (first | apply Kd.S_alloc | apply Kd.S_drewN | apply Kd.S_drew)); exact HO_11.out) hb); have n1_ := Aside0.mk (Kd.R_below (by (with_reducible repeat (first | apply Kd.R_alloc | apply Kd.R_drewN | apply Kd.R_drew)); exact HO_12.out) hb); have n2_ := Aside0.mk (below_step (by repeat (first | (with_reducible first | exact HB.out | apply below_alloc | apply pw_below_drewN | apply below_drew1) | exact HB.out)) hb); clear HO_11; clear HO_12; clear HB; have HO_11 := n0_; have HO_12 := n1_; have HB := n2_; clear n0_ n1_ n2_; (try clear hb); (try clear hb2); (try clear hk); (try clear hi)) | ((with_reducible refine gate_callee (f := 22) rfl ?_); refine goesL_ (some 99) rfl rfl Try.func22 (by kernel_rfl) rfl #[.slice Ao11 x11_2.length co11, .slice Ao14 x12_2.length co14, .int .i64 (wrap64 (1 + t304)), .int .i64 3600] rfl (by (try simp only [List.map_toArray, List.map_cons, List.map_nil]); first | done | rfl | (simp only [List.length_drop, List.length_take]; rfl)) ?_; (with_reducible refine (railplanref30_Recover.calls k2 _ _ x11_2 _ _ x12_2 (wrap64 (1 + t304)) 3600 t315 t316 _ ?side1 ?side2 ?side3 ?side4 A40.out).mono ?_); (case side1 => repeat (first | exact (Kd.S_reads' HO_11.out).2.2 | (with_reducible refine Kd.C_alloc ?_ _) | (with_reducible refine Kd.C_drewN ?_ _) | (with_reducible refine Kd.C_drew ?_))); (case side2 => exact (Kd.S_reads' HO_11.out).2.1); (case side3 => repeat (first | exact (Kd.R_reads' HO_12.out).2.2 | (with_reducible refine Kd.C_alloc ?_ _) | (with_reducible refine Kd.C_drewN ?_ _) | (with_reducible refine Kd.C_drew ?_))); (case side4 => exact (Kd.R_reads' HO_12.out).2.1); rintro e w65 ⟨rfl, hb⟩; refine ⟨_, rfl, ?_⟩; have n0_ := Aside0.mk (Kd.S_below (by (with_reducible repeat (first | apply Kd.S_alloc | apply Kd.S_drewN | apply Kd.S_drew)); exact HO_11.out) hb); have n1_ := Aside0.mk (Kd.R_below (by (with_reducible repeat (first | apply Kd.R_alloc | apply Kd.R_drewN | apply Kd.R_drew)); exact HO_12.out) hb); have n2_ := Aside0.mk (below_step (by repeat (first | (with_reducible first | exact HB.out | apply below_alloc | apply pw_below_drewN | apply below_drew1) | exact HB.out)) hb); clear HO_11; clear HO_12; clear HB; have HO_11 := n0_; have HO_12 := n1_; have HB := n2_; clear n0_ n1_ n2_; (try clear hb); (try clear hb2); (try clear hk); (try clear hi)) | ((with_reducible refine gate_callee (f := 23) rfl ?_); refine goesL_ (some 104) rfl rfl Try.func23 (by kernel_rfl) rfl #[.slice Ao11 x11_2.length co11] rfl (by (try simp only [List.map_toArray, List.map_cons, List.map_nil]); first | done | rfl | (simp only [List.length_drop, List.length_take]; rfl)) ?_; (with_reducible refine (railplanref30_Mean.calls k2 (fun k_ => some k_ ≠ (.slice Ao14 x12_2.length co14 : Value).ownBlock) _ _ x11_2 t317 t318 false _ ?side1 A41.out).mono ?_); (case side1 => exact Kd.S_V (HO_11.out)); rintro e w66 ⟨rfl, hb⟩; refine ⟨_, rfl, ?_⟩; have n0_ := Aside0.mk (Kd.S_below (by (with_reducible repeat (first | apply Kd.S_alloc | apply Kd.S_drewN | apply Kd.S_drew)); exact HO_11.out) hb); have n1_ := Aside0.mk (Kd.R_below (by (with_reducible repeat (first | apply Kd.R_alloc | apply Kd.R_drewN | apply Kd.R_drew)); exact HO_12.out) hb); have n2_ := Aside0.mk (below_step (by repeat (first | (with_reducible first | exact HB.out | apply below_alloc | apply pw_below_drewN | apply below_drew1) | exact HB.out)) hb); clear HO_11; clear HO_12; clear HB; have HO_11 := n0_; have HO_12 := n1_; have HB := n2_; clear n0_ n1_ n2_; (try clear hb); (try clear hb2); (try clear hk); (try clear hi)) | ((with_reducible refine gate_callee (f := 17) rfl ?_); refine goesL_ (some 124) rfl rfl Try.func17 (by kernel_rfl) rfl #[] rfl (by (try simp only [List.map_toArray, List.map_cons, List.map_nil]); first | done | rfl | (simp only [List.length_drop, List.length_take]; rfl)) ?_; (with_reducible refine (railplanlaw33_awake.calls k2  true _ A61.out ⟨by first | rfl | assumption | exact hT.out⟩).mono ?_); rintro e w67 ⟨rfl, hb⟩; refine ⟨_, rfl, ?_⟩; have n0_ := Aside0.mk (Kd.S_below (by (with_reducible repeat (first | apply Kd.S_alloc | apply Kd.S_drewN | apply Kd.S_drew)); exact HO_11.out) hb); have n1_ := Aside0.mk (Kd.R_below (by (with_reducible repeat (first | apply Kd.R_alloc | apply Kd.R_drewN | apply Kd.R_drew)); exact HO_12.out) hb); have n2_ := Aside0.mk (below_step (by repeat (first | (with_reducible first | exact HB.out | apply below_alloc | apply pw_below_drewN | apply below_drew1) | exact HB.out)) hb); clear HO_11; clear HO_12; clear HB; have HO_11 := n0_; have HO_12 := n1_; have HB := n2_; clear n0_ n1_ n2_; (try clear hb); (try clear hb2); (try clear hk); (try clear hi)))
              go_ret
              exact ⟨by first | rfl | (simp [errW_none, errW_some] <;> rfl) | (simp [*, errW_none, errW_some] <;> rfl), by repeat (first | (with_reducible first | exact HB.out | apply below_alloc | apply pw_below_drewN | apply below_drew1) | exact HB.out)⟩
             ·rw [if_neg c63] at H
              have c63b0 : (t313 == t315) = false := beq_eq_false_iff_ne.mpr c63
              have c63b1 : (t313 != t315) = true := bne_iff_ne.mpr c63
              exact absurd (Option.some.inj H) (by rw [hT.out]; decide)
            ·replace c62 := Bool.eq_false_iff.mpr c62
             subst c62
             have H1 : (some false) = some r := by rw [if_neg (show ¬ (false = true) by decide)] at H; exact H
             clear H
             have H := H1
             clear H1
             exact absurd (Option.some.inj H) (by rw [hT.out]; decide)
           ·replace c60 := Bool.eq_false_iff.mpr c60
            subst c60
            have H1 : (some false) = some r := by rw [if_neg (show ¬ (false = true) by decide)] at H; exact H
            clear H
            have H := H1
            clear H1
            exact absurd (Option.some.inj H) (by rw [hT.out]; decide)
         ·rw [if_neg c42] at H
          obtain rfl : lo305 = false := by simpa using c42
          replace H := Option.bind_eq_some_iff.mp H
          obtain ⟨t323, A680, H⟩ := H
          replace H : (if t323 = true then (if t313 = t315 then (some (t314 == t316)) else (some false)) else (some false)) = some r := H
          have A68 := Aside0.mk A680
          clear A680
          by_cases c69 : t323 = true
          ·subst c69
           have H1 : (if t313 = t315 then (some (t314 == t316)) else (some false)) = some r := by rw [if_pos rfl] at H; exact H
           clear H
           have H := H1
           clear H1
           by_cases c70 : t313 = t315
           ·rw [if_pos c70] at H
            have c70b0 : (t313 == t315) = true := beq_iff_eq.mpr c70
            have c70b1 : (t313 != t315) = false := bne_eq_false_iff_eq.mpr c70
            clear c70
            obtain rfl := Option.some.inj H
            go_wp2_with (first | ((with_reducible refine gate_callee (f := 21) rfl ?_); refine goesL_ (some 92) rfl rfl Try.func21 (by kernel_rfl) rfl #[.slice Ao11 x11_2.length co11, .slice Ao14 x12_2.length co14, .int .i64 (wrap64 (1 + t304)), .int .i64 3600] rfl (by (try simp only [List.map_toArray, List.map_cons, List.map_nil]); first | done | rfl | (simp only [List.length_drop, List.length_take]; rfl)) ?_; (with_reducible refine (maxplus_Recover.calls k2 _ _ x11_2 (fun k_ => some k_ = (.slice Ao14 x12_2.length co14 : Value).ownBlock) _ _ x12_2 (wrap64 (1 + t304)) 3600 t313 t314 _ ?side1 ?side2 ?side3 A39.out).mono ?_); (case side1 => repeat (first | exact (Kd.S_reads' HO_11.out).2.2 | (with_reducible refine Kd.C_alloc ?_ _) | (with_reducible refine Kd.C_drewN ?_ _) | (with_reducible refine Kd.C_drew ?_))); (case side2 => exact (Kd.S_reads' HO_11.out).2.1); (case side3 => exact Kd.R_V (Kd.R_tight rfl (Kd.R_apart' (HO_12.out) (Kd.S_typed HO_11.out) (by decide)))); rintro e w71 ⟨rfl, hb⟩; refine ⟨_, rfl, ?_⟩; have n0_ := Aside0.mk (Kd.S_below (by (with_reducible repeat (first | apply Kd.S_alloc | apply Kd.S_drewN | apply Kd.S_drew)); exact HO_11.out) hb); have n1_ := Aside0.mk (Kd.R_below (by (with_reducible repeat (first | apply Kd.R_alloc | apply Kd.R_drewN | apply Kd.R_drew)); exact HO_12.out) hb); have n2_ := Aside0.mk (below_step (by repeat (first | (with_reducible first | exact HB.out | apply below_alloc | apply pw_below_drewN | apply below_drew1) | exact HB.out)) hb); clear HO_11; clear HO_12; clear HB; have HO_11 := n0_; have HO_12 := n1_; have HB := n2_; clear n0_ n1_ n2_; (try clear hb); (try clear hb2); (try clear hk); (try clear hi)) | ((with_reducible refine gate_callee (f := 22) rfl ?_); refine goesL_ (some 99) rfl rfl Try.func22 (by kernel_rfl) rfl #[.slice Ao11 x11_2.length co11, .slice Ao14 x12_2.length co14, .int .i64 (wrap64 (1 + t304)), .int .i64 3600] rfl (by (try simp only [List.map_toArray, List.map_cons, List.map_nil]); first | done | rfl | (simp only [List.length_drop, List.length_take]; rfl)) ?_; (with_reducible refine (railplanref30_Recover.calls k2 _ _ x11_2 _ _ x12_2 (wrap64 (1 + t304)) 3600 t315 t316 _ ?side1 ?side2 ?side3 ?side4 A40.out).mono ?_); (case side1 => repeat (first | exact (Kd.S_reads' HO_11.out).2.2 | (with_reducible refine Kd.C_alloc ?_ _) | (with_reducible refine Kd.C_drewN ?_ _) | (with_reducible refine Kd.C_drew ?_))); (case side2 => exact (Kd.S_reads' HO_11.out).2.1); (case side3 => repeat (first | exact (Kd.R_reads' HO_12.out).2.2 | (with_reducible refine Kd.C_alloc ?_ _) | (with_reducible refine Kd.C_drewN ?_ _) | (with_reducible refine Kd.C_drew ?_))); (case side4 => exact (Kd.R_reads' HO_12.out).2.1); rintro e w72 ⟨rfl, hb⟩; refine ⟨_, rfl, ?_⟩; have n0_ := Aside0.mk (Kd.S_below (by (with_reducible repeat (first | apply Kd.S_alloc | apply Kd.S_drewN | apply Kd.S_drew)); exact HO_11.out) hb); have n1_ := Aside0.mk (Kd.R_below (by (with_reducible repeat (first | apply Kd.R_alloc | apply Kd.R_drewN | apply Kd.R_drew)); exact HO_12.out) hb); have n2_ := Aside0.mk (below_step (by repeat (first | (with_reducible first | exact HB.out | apply below_alloc | apply pw_below_drewN | apply below_drew1) | exact HB.out)) hb); clear HO_11; clear HO_12; clear HB; have HO_11 := n0_; have HO_12 := n1_; have HB := n2_; clear n0_ n1_ n2_; (try clear hb); (try clear hb2); (try clear hk); (try clear hi)) | ((with_reducible refine gate_callee (f := 23) rfl ?_); refine goesL_ (some 104) rfl rfl Try.func23 (by kernel_rfl) rfl #[.slice Ao11 x11_2.length co11] rfl (by (try simp only [List.map_toArray, List.map_cons, List.map_nil]); first | done | rfl | (simp only [List.length_drop, List.length_take]; rfl)) ?_; (with_reducible refine (railplanref30_Mean.calls k2 (fun k_ => some k_ ≠ (.slice Ao14 x12_2.length co14 : Value).ownBlock) _ _ x11_2 t317 t318 t319 _ ?side1 A41.out).mono ?_); (case side1 => exact Kd.S_V (HO_11.out)); rintro e w73 ⟨rfl, hb⟩; refine ⟨_, rfl, ?_⟩; have n0_ := Aside0.mk (Kd.S_below (by (with_reducible repeat (first | apply Kd.S_alloc | apply Kd.S_drewN | apply Kd.S_drew)); exact HO_11.out) hb); have n1_ := Aside0.mk (Kd.R_below (by (with_reducible repeat (first | apply Kd.R_alloc | apply Kd.R_drewN | apply Kd.R_drew)); exact HO_12.out) hb); have n2_ := Aside0.mk (below_step (by repeat (first | (with_reducible first | exact HB.out | apply below_alloc | apply pw_below_drewN | apply below_drew1) | exact HB.out)) hb); clear HO_11; clear HO_12; clear HB; have HO_11 := n0_; have HO_12 := n1_; have HB := n2_; clear n0_ n1_ n2_; (try clear hb); (try clear hb2); (try clear hk); (try clear hi)) | ((with_reducible refine gate_callee (f := 17) rfl ?_); refine goesL_ (some 124) rfl rfl Try.func17 (by kernel_rfl) rfl #[] rfl (by (try simp only [List.map_toArray, List.map_cons, List.map_nil]); first | done | rfl | (simp only [List.length_drop, List.length_take]; rfl)) ?_; (with_reducible refine (railplanlaw33_awake.calls k2  true _ A68.out ⟨by first | rfl | assumption | exact hT.out⟩).mono ?_); rintro e w74 ⟨rfl, hb⟩; refine ⟨_, rfl, ?_⟩; have n0_ := Aside0.mk (Kd.S_below (by (with_reducible repeat (first | apply Kd.S_alloc | apply Kd.S_drewN | apply Kd.S_drew)); exact HO_11.out) hb); have n1_ := Aside0.mk (Kd.R_below (by (with_reducible repeat (first | apply Kd.R_alloc | apply Kd.R_drewN | apply Kd.R_drew)); exact HO_12.out) hb); have n2_ := Aside0.mk (below_step (by repeat (first | (with_reducible first | exact HB.out | apply below_alloc | apply pw_below_drewN | apply below_drew1) | exact HB.out)) hb); clear HO_11; clear HO_12; clear HB; have HO_11 := n0_; have HO_12 := n1_; have HB := n2_; clear n0_ n1_ n2_; (try clear hb); (try clear hb2); (try clear hk); (try clear hi)))
            go_ret
            exact ⟨by first | rfl | (simp [errW_none, errW_some] <;> rfl) | (simp [*, errW_none, errW_some] <;> rfl), by repeat (first | (with_reducible first | exact HB.out | apply below_alloc | apply pw_below_drewN | apply below_drew1) | exact HB.out)⟩
           ·rw [if_neg c70] at H
            have c70b0 : (t313 == t315) = false := beq_eq_false_iff_ne.mpr c70
            have c70b1 : (t313 != t315) = true := bne_iff_ne.mpr c70
            exact absurd (Option.some.inj H) (by rw [hT.out]; decide)
          ·replace c69 := Bool.eq_false_iff.mpr c69
           subst c69
           have H1 : (some false) = some r := by rw [if_neg (show ¬ (false = true) by decide)] at H; exact H
           clear H
           have H := H1
           clear H1
           exact absurd (Option.some.inj H) (by rw [hT.out]; decide)
  ·rw [if_neg c9] at H
   exact absurd H (by simp)
 ·rw [if_neg c8] at H
  exact absurd H (by simp)

/-- THE ONE PURE STATEMENT of railplanlaw33_MaxplusRecover: yours. -/
def railplanlaw33_MaxplusRecover.Pure : Prop := ∀ (a0 : Int) (l1 : List Int) (l2 : List Int) (a3 : Int) (a4 : Int), (Lit.int .i64 a0).wf = true → l1.length ≤ maxLen → l1.length * 8 ≤ 140737488351232 → (∀ x ∈ l1, (Lit.int .i64 x).wf = true) → l2.length ≤ maxLen → l2.length * 8 ≤ 140737488351232 → (∀ x ∈ l2, (Lit.int .i64 x).wf = true) → (Lit.int .i64 a3).wf = true → (Lit.int .i64 a4).wf = true → ∃ k, railplanlaw33_MaxplusRecover.f k a0 l1 l2 a3 a4 = some true
theorem railplanlaw33_MaxplusRecover.walk (P : railplanlaw33_MaxplusRecover.Pure) (a0 : Int) (a1 : Option Addr) (len1 cap1 : Nat) (z1 : List Int) (a2 : Option Addr) (len2 cap2 : Nat) (z2 : List Int) (a3 : Int) (a4 : Int) (w : World) (w0 : (Lit.int .i64 a0).wf = true) (w1 : (a1 = none ∧ len1 = 0 ∧ cap1 = 0 ∧ z1 = []) ∨ ∃ x, a1 = some x ∧ len1 ≤ cap1 ∧ cap1 ≤ maxLen ∧ z1.length = cap1 ∧ (∀ i, i < z1.length → w.cell? (x.add i) = some (.int .i64 (z1.getD i 0))) ∧ ∀ n ∈ z1, (Lit.int .i64 n).wf = true) (y1 : len1 * 8 ≤ 140737488351232) (w2 : (a2 = none ∧ len2 = 0 ∧ cap2 = 0 ∧ z2 = []) ∨ ∃ x, a2 = some x ∧ len2 ≤ cap2 ∧ cap2 ≤ maxLen ∧ z2.length = cap2 ∧ (∀ i, i < z2.length → w.cell? (x.add i) = some (.int .i64 (z2.getD i 0))) ∧ ∀ n ∈ z2, (Lit.int .i64 n).wf = true) (y2 : len2 * 8 ≤ 140737488351232) (w3 : (Lit.int .i64 a3).wf = true) (w4 : (Lit.int .i64 a4).wf = true) :
  Calls Try.prog 5 #[.int .i64 a0, .slice a1 len1 cap1, .slice a2 len2 cap2, .int .i64 a3, .int .i64 a4] w fun e w' => e = .returned (.bool true) ∧ Below w.heap.size w w' := by
 obtain ⟨l1, rfl, hr1, hm1, hw1, hc1⟩ := ReadsInt.ofRowC w1
 obtain ⟨l2, rfl, hr2, hm2, hw2, hc2⟩ := ReadsInt.ofRowC w2
 obtain ⟨k, h⟩ := P a0 l1 l2 a3 a4 w0 hm1 y1 hw1 hm2 y2 hw2 w3 w4
 refine (railplanlaw33_MaxplusRecover.calls k a0 _ _ l1 _ _ l2 a3 a4 true w (Kd.C_of_reads (d := (0 : Int)) (h1 := fun _ => rfl) hr1) hc1 (Kd.C_of_reads (d := (0 : Int)) (h1 := fun _ => rfl) hr2) hc2 h ⟨rfl⟩).mono ?_
 rintro e w' ⟨rfl, hd⟩
 exact ⟨rfl, hd⟩

end Go.Proofs.Ytnmhdeibjglhcaa.XMaxplusRecover
