-- This session's own text, written by wip/tools/xall.py after the form of the kit's print.
import Derived.Test.YtnmhdeibjglhcaaXAllx0
import Derived.Test.YtnmhdeibjglhcaaXAllx1
import Derived.Test.YtnmhdeibjglhcaaXAllx4
import Derived.Test.YtnmhdeibjglhcaaXAllx9
import Derived.Test.YtnmhdeibjglhcaaXAllx11
import Derived.Test.YtnmhdeibjglhcaaXAllx14
namespace Go.Proofs.Ytnmhdeibjglhcaa.XAll
open Go.RowKit Go.Proofs.YtnmhdeibjglhcaaW.PrintWords Go.Proofs.YtnmhdeibjglhcaaW.PrintLast Go.Proofs.YtnmhdeibjglhcaaW.PrintMore
attribute [local go_sem] max2_int min2_int max_two min_two max_three min_three max_four min_four   -- for this text's walks alone
set_option linter.unusedVariables false
set_option linter.unusedSimpArgs false

/-! ### railplanlaw33_MaxplusStar: function 9 -/
mutual
def railplanlaw33_MaxplusStar.j0 : Nat → List (List Int) → List (List Int) → Int → Bool → Option (Bool)
 | 0, _, _, _, _ => none
 | k + 1, x5, x6, x7, x36 => if x36 = true then ((railplanlaw33_awake.f k).bind fun t364 => (if t364 = true then (some (x7 == 14)) else (some false))) else (if x7 = 0 then (railplanlaw33_MaxplusStar.j1 k x5 x6 ((x6.length : Int) != (x5.length : Int))) else (railplanlaw33_MaxplusStar.j1 k x5 x6 true))
def railplanlaw33_MaxplusStar.j1 : Nat → List (List Int) → List (List Int) → Bool → Option (Bool)
 | 0, _, _, _ => none
 | k + 1, x5, x6, x50 => if x50 = true then (some false) else ((maxplus_Mul.f k x6 x5).bind fun bt365 => (if bt365.2 = 0 then (railplanlaw33_MaxplusStar.j2 k x5 x6 bt365.1 ((bt365.1.length : Int) != (x5.length : Int))) else (railplanlaw33_MaxplusStar.j2 k x5 x6 bt365.1 true)))
def railplanlaw33_MaxplusStar.j2 : Nat → List (List Int) → List (List Int) → List (List Int) → Bool → Option (Bool)
 | 0, _, _, _, _ => none
 | k + 1, x5, x6, x11, x65 => if x65 = true then (some false) else (railplanlaw33_MaxplusStar.l0 k x5 x6 x11 (x5.length : Int) 0)
def railplanlaw33_MaxplusStar.l0 : Nat → List (List Int) → List (List Int) → List (List Int) → Int → Int → Option (Bool)
 | 0, _, _, _, _, _ => none
 | k + 1, x5, x6, x11, x67, x68 => if x68 < x67 then (if 0 ≤ x68 then (if x68 < (x6.length : Int) then (if ((rd_L1 x6 x68).length : Int) = (x5.length : Int) then (if x68 < (x11.length : Int) then (railplanlaw33_MaxplusStar.j4 k x5 x6 x11 x68 x67 x68 (((rd_L1 x11 x68).length : Int) != (x5.length : Int))) else (none)) else (railplanlaw33_MaxplusStar.j4 k x5 x6 x11 x68 x67 x68 true)) else (none)) else (none)) else ((railplanlaw33_awake.f k).bind fun t369 => (some t369))
def railplanlaw33_MaxplusStar.j4 : Nat → List (List Int) → List (List Int) → List (List Int) → Int → Int → Int → Bool → Option (Bool)
 | 0, _, _, _, _, _, _, _ => none
 | k + 1, x5, x6, x11, x13, x67, x68, x88 => if x88 = true then (some false) else (railplanlaw33_MaxplusStar.l1 k x5 x6 x11 x13 x67 x68 (x5.length : Int) 0)
def railplanlaw33_MaxplusStar.l1 : Nat → List (List Int) → List (List Int) → List (List Int) → Int → Int → Int → Int → Int → Option (Bool)
 | 0, _, _, _, _, _, _, _, _ => none
 | k + 1, x5, x6, x11, x13, x67, x68, x90, x91 => if x91 < x90 then (if 0 ≤ x13 then (if x13 < (x11.length : Int) then (if 0 ≤ x91 then (if x91 < ((rd_L1 x11 x13).length : Int) then (if x13 = x91 then (if x13 < (x6.length : Int) then (if x91 < ((rd_L1 x6 x13).length : Int) then (if (rd (rd_L1 x6 x13) x91) = (mx (rd (rd_L1 x11 x13) x91) 0) then (railplanlaw33_MaxplusStar.l1 k x5 x6 x11 x13 x67 x68 x90 (wrap64 (x91 + 1))) else (some false)) else (none)) else (none)) else (if x13 < (x6.length : Int) then (if x91 < ((rd_L1 x6 x13).length : Int) then (if (rd (rd_L1 x6 x13) x91) = (rd (rd_L1 x11 x13) x91) then (railplanlaw33_MaxplusStar.l1 k x5 x6 x11 x13 x67 x68 x90 (wrap64 (x91 + 1))) else (some false)) else (none)) else (none))) else (none)) else (none)) else (none)) else (none)) else (railplanlaw33_MaxplusStar.l0 k x5 x6 x11 x67 (wrap64 (x68 + 1)))
end
def railplanlaw33_MaxplusStar.f (k : Nat) (a0 : Int) (l1 : List Int) : Option (Bool) := (railplankeep_Pick.f a0 4).bind fun t353 => ((railplankeep2_Matrix.f k (wrap64 (1 + t353)) l1).bind fun t354 => ((maxplus_Star.f k t354).bind fun bt357 => ((railplanref30_Mean.f k t354).bind fun bt361 => (if bt361.2.2 = true then (railplanlaw33_MaxplusStar.j0 k t354 bt357.1 bt357.2 (decide (bt361.1 > 0))) else (railplanlaw33_MaxplusStar.j0 k t354 bt357.1 bt357.2 false)))))
theorem railplanlaw33_MaxplusStar.mono_l : ∀ k, (∀ y0 y1 y2 y3, LeO (railplanlaw33_MaxplusStar.j0 k y0 y1 y2 y3) (railplanlaw33_MaxplusStar.j0 (k + 1) y0 y1 y2 y3)) ∧ (∀ y0 y1 y2, LeO (railplanlaw33_MaxplusStar.j1 k y0 y1 y2) (railplanlaw33_MaxplusStar.j1 (k + 1) y0 y1 y2)) ∧ (∀ y0 y1 y2 y3, LeO (railplanlaw33_MaxplusStar.j2 k y0 y1 y2 y3) (railplanlaw33_MaxplusStar.j2 (k + 1) y0 y1 y2 y3)) ∧ (∀ y0 y1 y2 y3 y4, LeO (railplanlaw33_MaxplusStar.l0 k y0 y1 y2 y3 y4) (railplanlaw33_MaxplusStar.l0 (k + 1) y0 y1 y2 y3 y4)) ∧ (∀ y0 y1 y2 y3 y4 y5 y6, LeO (railplanlaw33_MaxplusStar.j4 k y0 y1 y2 y3 y4 y5 y6) (railplanlaw33_MaxplusStar.j4 (k + 1) y0 y1 y2 y3 y4 y5 y6)) ∧ (∀ y0 y1 y2 y3 y4 y5 y6 y7, LeO (railplanlaw33_MaxplusStar.l1 k y0 y1 y2 y3 y4 y5 y6 y7) (railplanlaw33_MaxplusStar.l1 (k + 1) y0 y1 y2 y3 y4 y5 y6 y7))
 | 0 => ⟨fun _ _ _ _ r h => by simp [railplanlaw33_MaxplusStar.j0] at h, fun _ _ _ r h => by simp [railplanlaw33_MaxplusStar.j1] at h, fun _ _ _ _ r h => by simp [railplanlaw33_MaxplusStar.j2] at h, fun _ _ _ _ _ r h => by simp [railplanlaw33_MaxplusStar.l0] at h, fun _ _ _ _ _ _ _ r h => by simp [railplanlaw33_MaxplusStar.j4] at h, fun _ _ _ _ _ _ _ _ r h => by simp [railplanlaw33_MaxplusStar.l1] at h⟩
 | k + 1 => by
  obtain ⟨ih0, ih1, ih2, ih3, ih4, ih5⟩ := railplanlaw33_MaxplusStar.mono_l k
  refine ⟨?_, ?_, ?_, ?_, ?_, ?_⟩
  ·intro y0 y1 y2 y3
   unfold railplanlaw33_MaxplusStar.j0
   repeat' first
   | (with_reducible exact ih0 _ _ _ _)
   | (with_reducible exact ih1 _ _ _)
   | (with_reducible exact ih2 _ _ _ _)
   | (with_reducible exact ih3 _ _ _ _ _)
   | (with_reducible exact ih4 _ _ _ _ _ _ _)
   | (with_reducible exact ih5 _ _ _ _ _ _ _ _)
   | (with_reducible exact maxplus_Mul.mono _ _ _)
   | (with_reducible exact maxplus_Star.mono _ _)
   | (with_reducible exact railplankeep2_Matrix.mono _ _ _)
   | (with_reducible exact railplanlaw33_awake.mono _)
   | (with_reducible exact railplanref30_Mean.mono _ _)
   | (with_reducible exact LeO.refl _)
   | (with_reducible exact LeO.none _)
   | (with_reducible refine LeO.ite ?_ ?_)
   | (with_reducible refine LeO.bind ?_ (fun _ => ?_))
   | exact ih0 _ _ _ _
   | exact ih1 _ _ _
   | exact ih2 _ _ _ _
   | exact ih3 _ _ _ _ _
   | exact ih4 _ _ _ _ _ _ _
   | exact ih5 _ _ _ _ _ _ _ _
   | exact maxplus_Mul.mono _ _ _
   | exact maxplus_Star.mono _ _
   | exact railplankeep2_Matrix.mono _ _ _
   | exact railplanlaw33_awake.mono _
   | exact railplanref30_Mean.mono _ _
   | exact LeO.none _
   | refine LeO.ite ?_ ?_
   | refine LeO.bind ?_ (fun _ => ?_)
  ·intro y0 y1 y2
   unfold railplanlaw33_MaxplusStar.j1
   repeat' first
   | (with_reducible exact ih0 _ _ _ _)
   | (with_reducible exact ih1 _ _ _)
   | (with_reducible exact ih2 _ _ _ _)
   | (with_reducible exact ih3 _ _ _ _ _)
   | (with_reducible exact ih4 _ _ _ _ _ _ _)
   | (with_reducible exact ih5 _ _ _ _ _ _ _ _)
   | (with_reducible exact maxplus_Mul.mono _ _ _)
   | (with_reducible exact maxplus_Star.mono _ _)
   | (with_reducible exact railplankeep2_Matrix.mono _ _ _)
   | (with_reducible exact railplanlaw33_awake.mono _)
   | (with_reducible exact railplanref30_Mean.mono _ _)
   | (with_reducible exact LeO.refl _)
   | (with_reducible exact LeO.none _)
   | (with_reducible refine LeO.ite ?_ ?_)
   | (with_reducible refine LeO.bind ?_ (fun _ => ?_))
   | exact ih0 _ _ _ _
   | exact ih1 _ _ _
   | exact ih2 _ _ _ _
   | exact ih3 _ _ _ _ _
   | exact ih4 _ _ _ _ _ _ _
   | exact ih5 _ _ _ _ _ _ _ _
   | exact maxplus_Mul.mono _ _ _
   | exact maxplus_Star.mono _ _
   | exact railplankeep2_Matrix.mono _ _ _
   | exact railplanlaw33_awake.mono _
   | exact railplanref30_Mean.mono _ _
   | exact LeO.none _
   | refine LeO.ite ?_ ?_
   | refine LeO.bind ?_ (fun _ => ?_)
  ·intro y0 y1 y2 y3
   unfold railplanlaw33_MaxplusStar.j2
   repeat' first
   | (with_reducible exact ih0 _ _ _ _)
   | (with_reducible exact ih1 _ _ _)
   | (with_reducible exact ih2 _ _ _ _)
   | (with_reducible exact ih3 _ _ _ _ _)
   | (with_reducible exact ih4 _ _ _ _ _ _ _)
   | (with_reducible exact ih5 _ _ _ _ _ _ _ _)
   | (with_reducible exact maxplus_Mul.mono _ _ _)
   | (with_reducible exact maxplus_Star.mono _ _)
   | (with_reducible exact railplankeep2_Matrix.mono _ _ _)
   | (with_reducible exact railplanlaw33_awake.mono _)
   | (with_reducible exact railplanref30_Mean.mono _ _)
   | (with_reducible exact LeO.refl _)
   | (with_reducible exact LeO.none _)
   | (with_reducible refine LeO.ite ?_ ?_)
   | (with_reducible refine LeO.bind ?_ (fun _ => ?_))
   | exact ih0 _ _ _ _
   | exact ih1 _ _ _
   | exact ih2 _ _ _ _
   | exact ih3 _ _ _ _ _
   | exact ih4 _ _ _ _ _ _ _
   | exact ih5 _ _ _ _ _ _ _ _
   | exact maxplus_Mul.mono _ _ _
   | exact maxplus_Star.mono _ _
   | exact railplankeep2_Matrix.mono _ _ _
   | exact railplanlaw33_awake.mono _
   | exact railplanref30_Mean.mono _ _
   | exact LeO.none _
   | refine LeO.ite ?_ ?_
   | refine LeO.bind ?_ (fun _ => ?_)
  ·intro y0 y1 y2 y3 y4
   unfold railplanlaw33_MaxplusStar.l0
   repeat' first
   | (with_reducible exact ih0 _ _ _ _)
   | (with_reducible exact ih1 _ _ _)
   | (with_reducible exact ih2 _ _ _ _)
   | (with_reducible exact ih3 _ _ _ _ _)
   | (with_reducible exact ih4 _ _ _ _ _ _ _)
   | (with_reducible exact ih5 _ _ _ _ _ _ _ _)
   | (with_reducible exact maxplus_Mul.mono _ _ _)
   | (with_reducible exact maxplus_Star.mono _ _)
   | (with_reducible exact railplankeep2_Matrix.mono _ _ _)
   | (with_reducible exact railplanlaw33_awake.mono _)
   | (with_reducible exact railplanref30_Mean.mono _ _)
   | (with_reducible exact LeO.refl _)
   | (with_reducible exact LeO.none _)
   | (with_reducible refine LeO.ite ?_ ?_)
   | (with_reducible refine LeO.bind ?_ (fun _ => ?_))
   | exact ih0 _ _ _ _
   | exact ih1 _ _ _
   | exact ih2 _ _ _ _
   | exact ih3 _ _ _ _ _
   | exact ih4 _ _ _ _ _ _ _
   | exact ih5 _ _ _ _ _ _ _ _
   | exact maxplus_Mul.mono _ _ _
   | exact maxplus_Star.mono _ _
   | exact railplankeep2_Matrix.mono _ _ _
   | exact railplanlaw33_awake.mono _
   | exact railplanref30_Mean.mono _ _
   | exact LeO.none _
   | refine LeO.ite ?_ ?_
   | refine LeO.bind ?_ (fun _ => ?_)
  ·intro y0 y1 y2 y3 y4 y5 y6
   unfold railplanlaw33_MaxplusStar.j4
   repeat' first
   | (with_reducible exact ih0 _ _ _ _)
   | (with_reducible exact ih1 _ _ _)
   | (with_reducible exact ih2 _ _ _ _)
   | (with_reducible exact ih3 _ _ _ _ _)
   | (with_reducible exact ih4 _ _ _ _ _ _ _)
   | (with_reducible exact ih5 _ _ _ _ _ _ _ _)
   | (with_reducible exact maxplus_Mul.mono _ _ _)
   | (with_reducible exact maxplus_Star.mono _ _)
   | (with_reducible exact railplankeep2_Matrix.mono _ _ _)
   | (with_reducible exact railplanlaw33_awake.mono _)
   | (with_reducible exact railplanref30_Mean.mono _ _)
   | (with_reducible exact LeO.refl _)
   | (with_reducible exact LeO.none _)
   | (with_reducible refine LeO.ite ?_ ?_)
   | (with_reducible refine LeO.bind ?_ (fun _ => ?_))
   | exact ih0 _ _ _ _
   | exact ih1 _ _ _
   | exact ih2 _ _ _ _
   | exact ih3 _ _ _ _ _
   | exact ih4 _ _ _ _ _ _ _
   | exact ih5 _ _ _ _ _ _ _ _
   | exact maxplus_Mul.mono _ _ _
   | exact maxplus_Star.mono _ _
   | exact railplankeep2_Matrix.mono _ _ _
   | exact railplanlaw33_awake.mono _
   | exact railplanref30_Mean.mono _ _
   | exact LeO.none _
   | refine LeO.ite ?_ ?_
   | refine LeO.bind ?_ (fun _ => ?_)
  ·intro y0 y1 y2 y3 y4 y5 y6 y7
   unfold railplanlaw33_MaxplusStar.l1
   repeat' first
   | (with_reducible exact ih0 _ _ _ _)
   | (with_reducible exact ih1 _ _ _)
   | (with_reducible exact ih2 _ _ _ _)
   | (with_reducible exact ih3 _ _ _ _ _)
   | (with_reducible exact ih4 _ _ _ _ _ _ _)
   | (with_reducible exact ih5 _ _ _ _ _ _ _ _)
   | (with_reducible exact maxplus_Mul.mono _ _ _)
   | (with_reducible exact maxplus_Star.mono _ _)
   | (with_reducible exact railplankeep2_Matrix.mono _ _ _)
   | (with_reducible exact railplanlaw33_awake.mono _)
   | (with_reducible exact railplanref30_Mean.mono _ _)
   | (with_reducible exact LeO.refl _)
   | (with_reducible exact LeO.none _)
   | (with_reducible refine LeO.ite ?_ ?_)
   | (with_reducible refine LeO.bind ?_ (fun _ => ?_))
   | exact ih0 _ _ _ _
   | exact ih1 _ _ _
   | exact ih2 _ _ _ _
   | exact ih3 _ _ _ _ _
   | exact ih4 _ _ _ _ _ _ _
   | exact ih5 _ _ _ _ _ _ _ _
   | exact maxplus_Mul.mono _ _ _
   | exact maxplus_Star.mono _ _
   | exact railplankeep2_Matrix.mono _ _ _
   | exact railplanlaw33_awake.mono _
   | exact railplanref30_Mean.mono _ _
   | exact LeO.none _
   | refine LeO.ite ?_ ?_
   | refine LeO.bind ?_ (fun _ => ?_)
theorem railplanlaw33_MaxplusStar.mono : ∀ a0 a1 k, LeO (railplanlaw33_MaxplusStar.f k a0 a1) (railplanlaw33_MaxplusStar.f (k + 1) a0 a1) := by
 intro a0 a1 k
 obtain ⟨ih0, ih1, ih2, ih3, ih4, ih5⟩ := railplanlaw33_MaxplusStar.mono_l k
 unfold railplanlaw33_MaxplusStar.f
 repeat' first
   | (with_reducible exact ih0 _ _ _ _)
   | (with_reducible exact ih1 _ _ _)
   | (with_reducible exact ih2 _ _ _ _)
   | (with_reducible exact ih3 _ _ _ _ _)
   | (with_reducible exact ih4 _ _ _ _ _ _ _)
   | (with_reducible exact ih5 _ _ _ _ _ _ _ _)
   | (with_reducible exact maxplus_Mul.mono _ _ _)
   | (with_reducible exact maxplus_Star.mono _ _)
   | (with_reducible exact railplankeep2_Matrix.mono _ _ _)
   | (with_reducible exact railplanlaw33_awake.mono _)
   | (with_reducible exact railplanref30_Mean.mono _ _)
   | (with_reducible exact LeO.refl _)
   | (with_reducible exact LeO.none _)
   | (with_reducible refine LeO.ite ?_ ?_)
   | (with_reducible refine LeO.bind ?_ (fun _ => ?_))
   | exact ih0 _ _ _ _
   | exact ih1 _ _ _
   | exact ih2 _ _ _ _
   | exact ih3 _ _ _ _ _
   | exact ih4 _ _ _ _ _ _ _
   | exact ih5 _ _ _ _ _ _ _ _
   | exact maxplus_Mul.mono _ _ _
   | exact maxplus_Star.mono _ _
   | exact railplankeep2_Matrix.mono _ _ _
   | exact railplanlaw33_awake.mono _
   | exact railplanref30_Mean.mono _ _
   | exact LeO.none _
   | refine LeO.ite ?_ ?_
   | refine LeO.bind ?_ (fun _ => ?_)
set_option maxHeartbeats 8000000 in
set_option maxRecDepth 100000 in
theorem railplanlaw33_MaxplusStar.calls (k : Nat) (a0 : Int) (A1 : Option Addr) (c1 : Nat) (l1 : List Int) (r : Bool) (w : World) (hr1 : Kd.C (Kd.int .i64) w A1 l1.length l1) (hc1 : l1.length ≤ c1) (h : railplanlaw33_MaxplusStar.f k a0 l1 = some r) (hT : Aside0 (r = true)) :
  Calls Try.prog 9 #[.int .i64 a0, .slice A1 l1.length c1] w fun e w' => e = .returned (.bool r) ∧ Below w.heap.size w w' := by
 have HR1 := Aside0.mk hr1
 have HC1 := Aside0.mk hc1
 clear hr1 hc1
 have HB := Aside0.mk (Below.refl w.heap.size w)
 have H : ((railplankeep_Pick.f a0 4).bind fun t353 => ((railplankeep2_Matrix.f k (wrap64 (1 + t353)) l1).bind fun t354 => ((maxplus_Star.f k t354).bind fun bt357 => ((railplanref30_Mean.f k t354).bind fun bt361 => (if bt361.2.2 = true then (railplanlaw33_MaxplusStar.j0 k t354 bt357.1 bt357.2 (decide (bt361.1 > 0))) else (railplanlaw33_MaxplusStar.j0 k t354 bt357.1 bt357.2 false)))))) = some r := h
 clear h
 replace H := Option.bind_eq_some_iff.mp H
 obtain ⟨t353, A30, H⟩ := H
 replace H : ((railplankeep2_Matrix.f k (wrap64 (1 + t353)) l1).bind fun t354 => ((maxplus_Star.f k t354).bind fun bt357 => ((railplanref30_Mean.f k t354).bind fun bt361 => (if bt361.2.2 = true then (railplanlaw33_MaxplusStar.j0 k t354 bt357.1 bt357.2 (decide (bt361.1 > 0))) else (railplanlaw33_MaxplusStar.j0 k t354 bt357.1 bt357.2 false))))) = some r := H
 have A3 := Aside0.mk A30
 clear A30
 replace H := Option.bind_eq_some_iff.mp H
 obtain ⟨t354, A40, H⟩ := H
 replace H : ((maxplus_Star.f k t354).bind fun bt357 => ((railplanref30_Mean.f k t354).bind fun bt361 => (if bt361.2.2 = true then (railplanlaw33_MaxplusStar.j0 k t354 bt357.1 bt357.2 (decide (bt361.1 > 0))) else (railplanlaw33_MaxplusStar.j0 k t354 bt357.1 bt357.2 false)))) = some r := H
 have A4 := Aside0.mk A40
 clear A40
 replace H := Option.bind_eq_some_iff.mp H
 obtain ⟨⟨t357, t358⟩, A50, H⟩ := H
 replace H : ((railplanref30_Mean.f k t354).bind fun bt361 => (if bt361.2.2 = true then (railplanlaw33_MaxplusStar.j0 k t354 t357 t358 (decide (bt361.1 > 0))) else (railplanlaw33_MaxplusStar.j0 k t354 t357 t358 false))) = some r := H
 have A5 := Aside0.mk A50
 clear A50
 replace H := Option.bind_eq_some_iff.mp H
 obtain ⟨⟨t361, t362, t363⟩, A60, H⟩ := H
 replace H : (if t363 = true then (railplanlaw33_MaxplusStar.j0 k t354 t357 t358 (decide (t361 > 0))) else (railplanlaw33_MaxplusStar.j0 k t354 t357 t358 false)) = some r := H
 have A6 := Aside0.mk A60
 clear A60
 have HC7 := Aside0.mk H
 clear H
 go_enter Try.func9, Try.ntmps9
 go_upto_region 4 with (first | ((with_reducible refine gate_callee (f := 14) rfl ?_); refine goesL_ (some 17) rfl rfl Try.func14 (by kernel_rfl) rfl #[.int .i64 a0, .int .i64 4] rfl (by (try simp only [List.map_toArray, List.map_cons, List.map_nil]); first | done | rfl | (simp only [List.length_drop, List.length_take]; rfl)) ?_; (with_reducible refine (railplankeep_Pick.calls a0 4 t353 _ A3.out).mono ?_); rintro e w' ⟨rfl, ⟨nd, rfl⟩⟩; refine ⟨_, rfl, ?_⟩) | ((with_reducible refine gate_callee (f := 13) rfl ?_); refine goesL_ (some 20) rfl rfl Try.func13 (by kernel_rfl) rfl #[.int .i64 (wrap64 (1 + t353)), .slice A1 l1.length c1] rfl (by (try simp only [List.map_toArray, List.map_cons, List.map_nil]); first | done | rfl | (simp only [List.length_drop, List.length_take]; rfl)) ?_; (with_reducible refine (railplankeep2_Matrix.calls k (wrap64 (1 + t353)) _ _ l1 t354 _ ?side1 ?side2 A4.out).mono ?_); (case side1 => repeat (first | exact HR1.out | (with_reducible refine Kd.C_alloc ?_ _) | (with_reducible refine Kd.C_drewN ?_ _) | (with_reducible refine Kd.C_drew ?_))); (case side2 => exact HC1.out); rintro e w8 ⟨v355, rfl, ho0, hb⟩; refine ⟨_, rfl, ?_⟩; have n0_ := Aside0.mk (Kd.S_lower ho0 (below_size (by repeat (first | (with_reducible first | exact HB.out | apply below_alloc | apply pw_below_drewN | apply below_drew1) | exact HB.out)))); have n1_ := Aside0.mk (below_step (by repeat (first | (with_reducible first | exact HB.out | apply below_alloc | apply pw_below_drewN | apply below_drew1) | exact HB.out)) hb); clear HB; have HO356 := n0_; have HB := n1_; clear n0_ n1_; (try clear hb); (try clear hb2); (try clear hk); (try clear hi); (try clear ho0); obtain ⟨Ao9, co9, eo9⟩ := Kd.S_slice HO356.out; subst eo9) | ((with_reducible refine gate_callee (f := 35) rfl ?_); refine goesL_ (some 23) rfl rfl Try.func35 (by kernel_rfl) rfl #[.slice Ao9 t354.length co9] rfl (by (try simp only [List.map_toArray, List.map_cons, List.map_nil]); first | done | rfl | (simp only [List.length_drop, List.length_take]; rfl)) ?_; (with_reducible refine (maxplus_Star.calls k _ _ t354 t357 t358 _ ?side1 ?side2 A5.out).mono ?_); (case side1 => repeat (first | exact (Kd.S_reads' HO356.out).2.2 | (with_reducible refine Kd.C_alloc ?_ _) | (with_reducible refine Kd.C_drewN ?_ _) | (with_reducible refine Kd.C_drew ?_))); (case side2 => exact (Kd.S_reads' HO356.out).2.1); rintro e w10 ⟨v359, rfl, ho0, hb⟩; refine ⟨_, rfl, ?_⟩; have n0_ := Aside0.mk (Kd.S_elder' (by (with_reducible repeat (first | apply Kd.S_alloc | apply Kd.S_drewN | apply Kd.S_drew)); exact HO356.out) (by first | exact Kd.N_base ho0 | exact Kd.S_base ho0 | exact Kd.R_base ho0 | exact Kd.Q_base ho0) hb); have n1_ := Aside0.mk (Kd.S_lower (Kd.S_new' ho0 (Kd.S_lt (by (with_reducible repeat (first | apply Kd.S_alloc | apply Kd.S_drewN | apply Kd.S_drew)); exact HO356.out))) (below_size (by repeat (first | (with_reducible first | exact HB.out | apply below_alloc | apply pw_below_drewN | apply below_drew1) | exact HB.out)))); have n2_ := Aside0.mk (below_step (by repeat (first | (with_reducible first | exact HB.out | apply below_alloc | apply pw_below_drewN | apply below_drew1) | exact HB.out)) hb); clear HO356; clear HB; have HO356 := n0_; have HO360 := n1_; have HB := n2_; clear n0_ n1_ n2_; (try clear hb); (try clear hb2); (try clear hk); (try clear hi); (try clear ho0)) | ((with_reducible refine gate_callee (f := 23) rfl ?_); refine goesL_ (some 28) rfl rfl Try.func23 (by kernel_rfl) rfl #[.slice Ao9 t354.length co9] rfl (by (try simp only [List.map_toArray, List.map_cons, List.map_nil]); first | done | rfl | (simp only [List.length_drop, List.length_take]; rfl)) ?_; (with_reducible refine (railplanref30_Mean.calls k (fun k_ => (True ∧ some k_ ≠ (v359 : Value).ownBlock)) _ _ t354 t361 t362 t363 _ ?side1 A6.out).mono ?_); (case side1 => exact Kd.S_V (HO356.out)); rintro e w11 ⟨rfl, hb⟩; refine ⟨_, rfl, ?_⟩; have n0_ := Aside0.mk (Kd.S_below (by (with_reducible repeat (first | apply Kd.S_alloc | apply Kd.S_drewN | apply Kd.S_drew)); exact HO356.out) hb); have n1_ := Aside0.mk (Kd.S_below (by (with_reducible repeat (first | apply Kd.S_alloc | apply Kd.S_drewN | apply Kd.S_drew)); exact HO360.out) hb); have n2_ := Aside0.mk (below_step (by repeat (first | (with_reducible first | exact HB.out | apply below_alloc | apply pw_below_drewN | apply below_drew1) | exact HB.out)) hb); clear HO356; clear HO360; clear HB; have HO356 := n0_; have HO360 := n1_; have HB := n2_; clear n0_ n1_ n2_; (try clear hb); (try clear hb2); (try clear hk); (try clear hi)))
 (try simp only [Act.put, List.setIfInBounds_toArray, List.set_cons_zero, List.set_cons_succ])
 go_cut [36] (fun v36 wc => ∃ (kq : Nat) (x36_6 : Bool), v36 = .bool x36_6 ∧ Aside0 (railplanlaw33_MaxplusStar.j0 kq t354 t357 t358 x36_6 = some r) ∧ Aside0 (kq ≤ k) ∧ Aside0 (Kd.S (Kd.slice 3 (Kd.int .i64)) 22 wc w.heap.size (fun k_ => some k_ ≠ (v359 : Value).ownBlock) (.slice Ao9 t354.length co9) t354) ∧ Aside0 (Kd.S (Kd.slice 3 (Kd.int .i64)) 22 wc w.heap.size (fun k_ => some k_ ≠ ((.slice Ao9 t354.length co9) : Value).ownBlock) v359 t357) ∧ Aside0 (Below w.heap.size w wc))
 case first =>
  have H := HC7.out
  clear HC7
  by_cases c12 : t363 = true
  ·subst c12
   have H1 : (railplanlaw33_MaxplusStar.j0 k t354 t357 t358 (decide (t361 > 0))) = some r := by rw [if_pos rfl] at H; exact H
   clear H
   have H := H1
   clear H1
   have H' := Aside0.mk H
   clear H
   go_wp2
   go_meet
   case rel => exact ⟨_, (decide (t361 > 0)), (by first | rfl | (simp; done) | (simp [*]; done)), H', ⟨by first | omega | exact Nat.le_refl _⟩, ⟨by (with_reducible repeat (first | apply Kd.S_alloc | apply Kd.S_drewN | apply Kd.S_drew)); exact Kd.S_mono HO356.out (fun _ hk => hk.2)⟩, ⟨by (with_reducible repeat (first | apply Kd.S_alloc | apply Kd.S_drewN | apply Kd.S_drew)); exact Kd.S_mono HO360.out (fun _ hk => hk.2)⟩, ⟨by repeat (first | (with_reducible first | exact HB.out | apply below_alloc | apply pw_below_drewN | apply below_drew1) | exact HB.out)⟩⟩
  ·replace c12 := Bool.eq_false_iff.mpr c12
   subst c12
   have H1 : (railplanlaw33_MaxplusStar.j0 k t354 t357 t358 false) = some r := by rw [if_neg (show ¬ (false = true) by decide)] at H; exact H
   clear H
   have H := H1
   clear H1
   have H' := Aside0.mk H
   clear H
   go_wp2
   go_meet
   case rel => exact ⟨_, (false), (by first | rfl | (simp; done) | (simp [*]; done)), H', ⟨by first | omega | exact Nat.le_refl _⟩, ⟨by (with_reducible repeat (first | apply Kd.S_alloc | apply Kd.S_drewN | apply Kd.S_drew)); exact Kd.S_mono HO356.out (fun _ hk => hk.2)⟩, ⟨by (with_reducible repeat (first | apply Kd.S_alloc | apply Kd.S_drewN | apply Kd.S_drew)); exact Kd.S_mono HO360.out (fun _ hk => hk.2)⟩, ⟨by repeat (first | (with_reducible first | exact HB.out | apply below_alloc | apply pw_below_drewN | apply below_drew1) | exact HB.out)⟩⟩
 case rest =>
  clear HC7
  try clear c1
  try clear c2
  try clear p2
  try clear c3
  try clear p6
  try clear c9
  try clear c12
  obtain ⟨kq, x36_6, rfl, HA, HJ6, HO_5, HO_6, HB⟩ := hcut
  cases kq with
  | zero => exact absurd HA.out (by simp [railplanlaw33_MaxplusStar.j0])
  | succ kj6 =>
   have H := HA.out
   clear HA
   simp only [railplanlaw33_MaxplusStar.j0] at H
   by_cases c13 : x36_6 = true
   ·subst c13
    have H1 : ((railplanlaw33_awake.f kj6).bind fun t364 => (if t364 = true then (some (t358 == 14)) else (some false))) = some r := by rw [if_pos rfl] at H; exact H
    clear H
    have H := H1
    clear H1
    replace H := Option.bind_eq_some_iff.mp H
    obtain ⟨t364, A140, H⟩ := H
    replace H : (if t364 = true then (some (t358 == 14)) else (some false)) = some r := H
    have A14 := Aside0.mk A140
    clear A140
    by_cases c15 : t364 = true
    ·subst c15
     have H1 : (some (t358 == 14)) = some r := by rw [if_pos rfl] at H; exact H
     clear H
     have H := H1
     clear H1
     obtain rfl := Option.some.inj H
     go_wp2_with (first | ((with_reducible refine gate_callee (f := 17) rfl ?_); refine goesL_ (some 37) rfl rfl Try.func17 (by kernel_rfl) rfl #[] rfl (by (try simp only [List.map_toArray, List.map_cons, List.map_nil]); first | done | rfl | (simp only [List.length_drop, List.length_take]; rfl)) ?_; (with_reducible refine (railplanlaw33_awake.calls kj6  true _ A14.out ⟨by first | rfl | assumption | exact hT.out⟩).mono ?_); rintro e w16 ⟨rfl, hb⟩; refine ⟨_, rfl, ?_⟩; have n0_ := Aside0.mk (Kd.S_below (by (with_reducible repeat (first | apply Kd.S_alloc | apply Kd.S_drewN | apply Kd.S_drew)); exact HO_5.out) hb); have n1_ := Aside0.mk (Kd.S_below (by (with_reducible repeat (first | apply Kd.S_alloc | apply Kd.S_drewN | apply Kd.S_drew)); exact HO_6.out) hb); have n2_ := Aside0.mk (below_step (by repeat (first | (with_reducible first | exact HB.out | apply below_alloc | apply pw_below_drewN | apply below_drew1) | exact HB.out)) hb); clear HO_5; clear HO_6; clear HB; have HO_5 := n0_; have HO_6 := n1_; have HB := n2_; clear n0_ n1_ n2_; (try clear hb); (try clear hb2); (try clear hk); (try clear hi)))
     go_ret
     exact ⟨by first | rfl | (simp [errW_none, errW_some] <;> rfl) | (simp [*, errW_none, errW_some] <;> rfl), by repeat (first | (with_reducible first | exact HB.out | apply below_alloc | apply pw_below_drewN | apply below_drew1) | exact HB.out)⟩
    ·replace c15 := Bool.eq_false_iff.mpr c15
     subst c15
     have H1 : (some false) = some r := by rw [if_neg (show ¬ (false = true) by decide)] at H; exact H
     clear H
     have H := H1
     clear H1
     exact absurd (Option.some.inj H) (by rw [hT.out]; decide)
   ·replace c13 := Bool.eq_false_iff.mpr c13
    subst c13
    have H1 : (if t358 = 0 then (railplanlaw33_MaxplusStar.j1 kj6 t354 t357 ((t357.length : Int) != (t354.length : Int))) else (railplanlaw33_MaxplusStar.j1 kj6 t354 t357 true)) = some r := by rw [if_neg (show ¬ (false = true) by decide)] at H; exact H
    clear H
    have H := H1
    clear H1
    have HC17 := Aside0.mk H
    clear H
    go_upto_region 6 with (fail)
    go_cut [50] (fun v50 wc => ∃ (kq : Nat) (x50_16 : Bool), v50 = .bool x50_16 ∧ Aside0 (railplanlaw33_MaxplusStar.j1 kq t354 t357 x50_16 = some r) ∧ Aside0 (kq ≤ kj6) ∧ Aside0 (Kd.S (Kd.slice 3 (Kd.int .i64)) 22 wc w.heap.size (fun k_ => some k_ ≠ (v359 : Value).ownBlock) (.slice Ao9 t354.length co9) t354) ∧ Aside0 (Kd.S (Kd.slice 3 (Kd.int .i64)) 22 wc w.heap.size (fun k_ => some k_ ≠ ((.slice Ao9 t354.length co9) : Value).ownBlock) v359 t357) ∧ Aside0 (Below w.heap.size w wc))
    case first =>
     have H := HC17.out
     clear HC17
     by_cases c18 : t358 = 0
     ·rw [if_pos c18] at H
      have c18b0 : (t358 == 0) = true := beq_iff_eq.mpr c18
      have c18b1 : (t358 != 0) = false := bne_eq_false_iff_eq.mpr c18
      clear c18
      (first | rw [c18b0] | (simp only [i64_w, i32_w]; rw [c18b0]) | skip)
      have H' := Aside0.mk H
      clear H
      obtain ⟨Ao19, co19, eo19⟩ := Kd.S_slice HO_6.out
      subst eo19
      go_wp2
      go_meet
      case rel => exact ⟨_, (((t357.length : Int) != (t354.length : Int))), (by first | rfl | (simp; done) | (simp [*]; done)), H', ⟨by have := HJ6.out; first | omega | exact Nat.le_refl _⟩, ⟨by (with_reducible repeat (first | apply Kd.S_alloc | apply Kd.S_drewN | apply Kd.S_drew)); exact HO_5.out⟩, ⟨by (with_reducible repeat (first | apply Kd.S_alloc | apply Kd.S_drewN | apply Kd.S_drew)); exact HO_6.out⟩, ⟨by repeat (first | (with_reducible first | exact HB.out | apply below_alloc | apply pw_below_drewN | apply below_drew1) | exact HB.out)⟩⟩
     ·rw [if_neg c18] at H
      have c18b0 : (t358 == 0) = false := beq_eq_false_iff_ne.mpr c18
      have c18b1 : (t358 != 0) = true := bne_iff_ne.mpr c18
      (first | rw [c18b0] | (simp only [i64_w, i32_w]; rw [c18b0]) | skip)
      have H' := Aside0.mk H
      clear H
      go_wp2
      go_meet
      case rel => exact ⟨_, (true), (by first | rfl | (simp; done) | (simp [*]; done)), H', ⟨by have := HJ6.out; first | omega | exact Nat.le_refl _⟩, ⟨by (with_reducible repeat (first | apply Kd.S_alloc | apply Kd.S_drewN | apply Kd.S_drew)); exact HO_5.out⟩, ⟨by (with_reducible repeat (first | apply Kd.S_alloc | apply Kd.S_drewN | apply Kd.S_drew)); exact HO_6.out⟩, ⟨by repeat (first | (with_reducible first | exact HB.out | apply below_alloc | apply pw_below_drewN | apply below_drew1) | exact HB.out)⟩⟩
    case rest =>
     clear HC17
     try clear c1
     try clear c2
     try clear p2
     try clear c3
     try clear p6
     try clear c9
     try clear c12
     try clear c13
     try clear c14
     try clear c15
     try clear c17
     try clear c18
     try clear c18b0
     try clear c18b1
     try clear p2
     try clear p6
     obtain ⟨kq, x50_16, rfl, HA, HJ16, HO_5, HO_6, HB⟩ := hcut
     cases kq with
     | zero => exact absurd HA.out (by simp [railplanlaw33_MaxplusStar.j1])
     | succ kj16 =>
      have H := HA.out
      clear HA
      simp only [railplanlaw33_MaxplusStar.j1] at H
      by_cases c20 : x50_16 = true
      ·subst c20
       have H1 : (some false) = some r := by rw [if_pos rfl] at H; exact H
       clear H
       have H := H1
       clear H1
       exact absurd (Option.some.inj H) (by rw [hT.out]; decide)
      ·replace c20 := Bool.eq_false_iff.mpr c20
       subst c20
       have H1 : ((maxplus_Mul.f kj16 t357 t354).bind fun bt365 => (if bt365.2 = 0 then (railplanlaw33_MaxplusStar.j2 kj16 t354 t357 bt365.1 ((bt365.1.length : Int) != (t354.length : Int))) else (railplanlaw33_MaxplusStar.j2 kj16 t354 t357 bt365.1 true))) = some r := by rw [if_neg (show ¬ (false = true) by decide)] at H; exact H
       clear H
       have H := H1
       clear H1
       replace H := Option.bind_eq_some_iff.mp H
       obtain ⟨⟨t365, t366⟩, A210, H⟩ := H
       replace H : (if t366 = 0 then (railplanlaw33_MaxplusStar.j2 kj16 t354 t357 t365 ((t365.length : Int) != (t354.length : Int))) else (railplanlaw33_MaxplusStar.j2 kj16 t354 t357 t365 true)) = some r := H
       have A21 := Aside0.mk A210
       clear A210
       have HC22 := Aside0.mk H
       clear H
       obtain ⟨Ao23, co23, eo23⟩ := Kd.S_slice HO_6.out
       subst eo23
       go_upto_region 9 with (first | ((with_reducible refine gate_callee (f := 16) rfl ?_); refine goesL_ (some 54) rfl rfl Try.func16 (by kernel_rfl) rfl #[.slice Ao23 t357.length co23, .slice Ao9 t354.length co9] rfl (by (try simp only [List.map_toArray, List.map_cons, List.map_nil]); first | done | rfl | (simp only [List.length_drop, List.length_take]; rfl)) ?_; (with_reducible refine (maxplus_Mul.calls kj16 _ _ t357 _ _ t354 t365 t366 _ ?side1 ?side2 ?side3 ?side4 A21.out).mono ?_); (case side1 => repeat (first | exact (Kd.S_reads' HO_6.out).2.2 | (with_reducible refine Kd.C_alloc ?_ _) | (with_reducible refine Kd.C_drewN ?_ _) | (with_reducible refine Kd.C_drew ?_))); (case side2 => exact (Kd.S_reads' HO_6.out).2.1); (case side3 => repeat (first | exact (Kd.S_reads' HO_5.out).2.2 | (with_reducible refine Kd.C_alloc ?_ _) | (with_reducible refine Kd.C_drewN ?_ _) | (with_reducible refine Kd.C_drew ?_))); (case side4 => exact (Kd.S_reads' HO_5.out).2.1); rintro e w24 ⟨v367, rfl, ho0, hb⟩; refine ⟨_, rfl, ?_⟩; have n0_ := Aside0.mk (Kd.S_elder' (by (with_reducible repeat (first | apply Kd.S_alloc | apply Kd.S_drewN | apply Kd.S_drew)); exact HO_5.out) (by first | exact Kd.N_base ho0 | exact Kd.S_base ho0 | exact Kd.R_base ho0 | exact Kd.Q_base ho0) hb); have n1_ := Aside0.mk (Kd.S_elder' (by (with_reducible repeat (first | apply Kd.S_alloc | apply Kd.S_drewN | apply Kd.S_drew)); exact HO_6.out) (by first | exact Kd.N_base ho0 | exact Kd.S_base ho0 | exact Kd.R_base ho0 | exact Kd.Q_base ho0) hb); have n2_ := Aside0.mk (Kd.S_lower (Kd.S_new' (Kd.S_new' ho0 (Kd.S_lt (by (with_reducible repeat (first | apply Kd.S_alloc | apply Kd.S_drewN | apply Kd.S_drew)); exact HO_5.out))) (Kd.S_lt (by (with_reducible repeat (first | apply Kd.S_alloc | apply Kd.S_drewN | apply Kd.S_drew)); exact HO_6.out))) (below_size (by repeat (first | (with_reducible first | exact HB.out | apply below_alloc | apply pw_below_drewN | apply below_drew1) | exact HB.out)))); have n3_ := Aside0.mk (below_step (by repeat (first | (with_reducible first | exact HB.out | apply below_alloc | apply pw_below_drewN | apply below_drew1) | exact HB.out)) hb); clear HO_5; clear HO_6; clear HB; have HO_5 := n0_; have HO_6 := n1_; have HO368 := n2_; have HB := n3_; clear n0_ n1_ n2_ n3_; (try clear hb); (try clear hb2); (try clear hk); (try clear hi); (try clear ho0)))
       (try simp only [Act.put, List.setIfInBounds_toArray, List.set_cons_zero, List.set_cons_succ])
       go_cut [65] (fun v65 wc => ∃ (kq : Nat) (x65_21 : Bool), v65 = .bool x65_21 ∧ Aside0 (railplanlaw33_MaxplusStar.j2 kq t354 t357 t365 x65_21 = some r) ∧ Aside0 (kq ≤ kj16) ∧ Aside0 (Kd.S (Kd.slice 3 (Kd.int .i64)) 22 wc w.heap.size (fun k_ => some k_ ≠ ((.slice Ao23 t357.length co23) : Value).ownBlock ∧ some k_ ≠ (v367 : Value).ownBlock) (.slice Ao9 t354.length co9) t354) ∧ Aside0 (Kd.S (Kd.slice 3 (Kd.int .i64)) 22 wc w.heap.size (fun k_ => some k_ ≠ ((.slice Ao9 t354.length co9) : Value).ownBlock ∧ some k_ ≠ (v367 : Value).ownBlock) (.slice Ao23 t357.length co23) t357) ∧ Aside0 (Kd.S (Kd.slice 3 (Kd.int .i64)) 22 wc w.heap.size (fun k_ => some k_ ≠ ((.slice Ao9 t354.length co9) : Value).ownBlock ∧ some k_ ≠ ((.slice Ao23 t357.length co23) : Value).ownBlock) v367 t365) ∧ Aside0 (Below w.heap.size w wc))
       case first =>
        have H := HC22.out
        clear HC22
        by_cases c25 : t366 = 0
        ·rw [if_pos c25] at H
         have c25b0 : (t366 == 0) = true := beq_iff_eq.mpr c25
         have c25b1 : (t366 != 0) = false := bne_eq_false_iff_eq.mpr c25
         clear c25
         (first | rw [c25b0] | (simp only [i64_w, i32_w]; rw [c25b0]) | skip)
         have H' := Aside0.mk H
         clear H
         obtain ⟨Ao26, co26, eo26⟩ := Kd.S_slice HO368.out
         subst eo26
         go_wp2
         go_meet
         case rel => exact ⟨_, (((t365.length : Int) != (t354.length : Int))), (by first | rfl | (simp; done) | (simp [*]; done)), H', ⟨by have := HJ6.out; have := HJ16.out; first | omega | exact Nat.le_refl _⟩, ⟨by (with_reducible repeat (first | apply Kd.S_alloc | apply Kd.S_drewN | apply Kd.S_drew)); exact HO_5.out⟩, ⟨by (with_reducible repeat (first | apply Kd.S_alloc | apply Kd.S_drewN | apply Kd.S_drew)); exact HO_6.out⟩, ⟨by (with_reducible repeat (first | apply Kd.S_alloc | apply Kd.S_drewN | apply Kd.S_drew)); exact Kd.S_mono HO368.out (fun _ hk => ⟨hk.1.2, hk.2⟩)⟩, ⟨by repeat (first | (with_reducible first | exact HB.out | apply below_alloc | apply pw_below_drewN | apply below_drew1) | exact HB.out)⟩⟩
        ·rw [if_neg c25] at H
         have c25b0 : (t366 == 0) = false := beq_eq_false_iff_ne.mpr c25
         have c25b1 : (t366 != 0) = true := bne_iff_ne.mpr c25
         (first | rw [c25b0] | (simp only [i64_w, i32_w]; rw [c25b0]) | skip)
         have H' := Aside0.mk H
         clear H
         go_wp2
         go_meet
         case rel => exact ⟨_, (true), (by first | rfl | (simp; done) | (simp [*]; done)), H', ⟨by have := HJ6.out; have := HJ16.out; first | omega | exact Nat.le_refl _⟩, ⟨by (with_reducible repeat (first | apply Kd.S_alloc | apply Kd.S_drewN | apply Kd.S_drew)); exact HO_5.out⟩, ⟨by (with_reducible repeat (first | apply Kd.S_alloc | apply Kd.S_drewN | apply Kd.S_drew)); exact HO_6.out⟩, ⟨by (with_reducible repeat (first | apply Kd.S_alloc | apply Kd.S_drewN | apply Kd.S_drew)); exact Kd.S_mono HO368.out (fun _ hk => ⟨hk.1.2, hk.2⟩)⟩, ⟨by repeat (first | (with_reducible first | exact HB.out | apply below_alloc | apply pw_below_drewN | apply below_drew1) | exact HB.out)⟩⟩
       case rest =>
        clear HC22
        try clear c1
        try clear c2
        try clear p2
        try clear c3
        try clear p6
        try clear c9
        try clear c12
        try clear c13
        try clear c14
        try clear c15
        try clear c16
        try clear c17
        try clear c18
        try clear c18b0
        try clear c18b1
        try clear c20
        try clear c23
        try clear c25
        try clear c25b0
        try clear c25b1
        try clear p2
        try clear p6
        obtain ⟨kq, x65_21, rfl, HA, HJ21, HO_5, HO_6, HO_11, HB⟩ := hcut
        cases kq with
        | zero => exact absurd HA.out (by simp [railplanlaw33_MaxplusStar.j2])
        | succ kj21 =>
         have H := HA.out
         clear HA
         simp only [railplanlaw33_MaxplusStar.j2] at H
         by_cases c27 : x65_21 = true
         ·subst c27
          have H1 : (some false) = some r := by rw [if_pos rfl] at H; exact H
          clear H
          have H := H1
          clear H1
          exact absurd (Option.some.inj H) (by rw [hT.out]; decide)
         ·replace c27 := Bool.eq_false_iff.mpr c27
          subst c27
          have H1 : (railplanlaw33_MaxplusStar.l0 kj21 t354 t357 t365 (t354.length : Int) 0) = some r := by rw [if_neg (show ¬ (false = true) by decide)] at H; exact H
          clear H
          have H := H1
          clear H1
          have H' := Aside0.mk H
          clear H
          go_wp2
          go_loopg [68] kj21 (fun kq v68 w' => ∃ (x68_4 : Int), v68 = .int .i64 x68_4 ∧ Aside0 (railplanlaw33_MaxplusStar.l0 kq t354 t357 t365 (t354.length : Int) x68_4 = some r) ∧ Aside0 (kq ≤ kj21) ∧ Aside0 (Kd.S (Kd.slice 3 (Kd.int .i64)) 22 w' w.heap.size (fun k_ => some k_ ≠ ((.slice Ao23 t357.length co23) : Value).ownBlock ∧ some k_ ≠ (v367 : Value).ownBlock) (.slice Ao9 t354.length co9) t354) ∧ Aside0 (Kd.S (Kd.slice 3 (Kd.int .i64)) 22 w' w.heap.size (fun k_ => some k_ ≠ ((.slice Ao9 t354.length co9) : Value).ownBlock ∧ some k_ ≠ (v367 : Value).ownBlock) (.slice Ao23 t357.length co23) t357) ∧ Aside0 (Kd.S (Kd.slice 3 (Kd.int .i64)) 22 w' w.heap.size (fun k_ => some k_ ≠ ((.slice Ao9 t354.length co9) : Value).ownBlock ∧ some k_ ≠ ((.slice Ao23 t357.length co23) : Value).ownBlock) v367 t365) ∧ Aside0 (Below w.heap.size w w'))
          case atStart => exact ⟨(0), (by first | rfl | (simp; done) | (simp [*]; done)), H', ⟨Nat.le_refl _⟩, ⟨by (with_reducible repeat (first | apply Kd.S_alloc | apply Kd.S_drewN | apply Kd.S_drew)); exact HO_5.out⟩, ⟨by (with_reducible repeat (first | apply Kd.S_alloc | apply Kd.S_drewN | apply Kd.S_drew)); exact HO_6.out⟩, ⟨by (with_reducible repeat (first | apply Kd.S_alloc | apply Kd.S_drewN | apply Kd.S_drew)); exact HO_11.out⟩, ⟨by repeat (first | (with_reducible first | exact HB.out | apply below_alloc | apply pw_below_drewN | apply below_drew1) | exact HB.out)⟩⟩
          case round =>
           clear H'
           try clear c1
           try clear c2
           try clear p2
           try clear c3
           try clear p6
           try clear c9
           try clear c12
           try clear c13
           try clear c14
           try clear c15
           try clear c16
           try clear c17
           try clear c18
           try clear c18b0
           try clear c18b1
           try clear c20
           try clear c23
           try clear c25
           try clear c25b0
           try clear c25b1
           try clear c27
           try clear p2
           try clear p6
           obtain ⟨x68_4, rfl, HA, HK4, HO_5, HO_6, HO_11, HB⟩ := hrel
           cases gk with
           | zero => exact absurd HA.out (by simp [railplanlaw33_MaxplusStar.l0])
           | succ k4 =>
            have H := HA.out
            clear HA
            simp only [railplanlaw33_MaxplusStar.l0] at H
            by_cases c28 : x68_4 < (t354.length : Int)
            ·rw [if_pos c28] at H
             have c28b0 : decide (x68_4 < (t354.length : Int)) = true := decide_eq_true c28
             clear c28
             have HC29 := Aside0.mk H
             clear H
             go_upto_region 14 with (fail)
             go_cut [88] (fun v88 wc => ∃ (kq : Nat) (x88_28 : Bool), v88 = .bool x88_28 ∧ Aside0 (railplanlaw33_MaxplusStar.j4 kq t354 t357 t365 x68_4 (t354.length : Int) x68_4 x88_28 = some r) ∧ Aside0 (kq ≤ k4) ∧ Aside0 (Kd.S (Kd.slice 3 (Kd.int .i64)) 22 wc w.heap.size (fun k_ => some k_ ≠ ((.slice Ao23 t357.length co23) : Value).ownBlock ∧ some k_ ≠ (v367 : Value).ownBlock) (.slice Ao9 t354.length co9) t354) ∧ Aside0 (Kd.S (Kd.slice 3 (Kd.int .i64)) 22 wc w.heap.size (fun k_ => some k_ ≠ ((.slice Ao9 t354.length co9) : Value).ownBlock ∧ some k_ ≠ (v367 : Value).ownBlock) (.slice Ao23 t357.length co23) t357) ∧ Aside0 (Kd.S (Kd.slice 3 (Kd.int .i64)) 22 wc w.heap.size (fun k_ => some k_ ≠ ((.slice Ao9 t354.length co9) : Value).ownBlock ∧ some k_ ≠ ((.slice Ao23 t357.length co23) : Value).ownBlock) v367 t365) ∧ Aside0 (Below w.heap.size w wc))
             case first =>
              have H := HC29.out
              clear HC29
              by_cases c30 : 0 ≤ x68_4
              ·rw [if_pos c30] at H
               have c30b0 : decide (0 ≤ x68_4) = true := decide_eq_true c30
               clear c30
               (first | rw [c30b0] | (simp only [i64_w, i32_w]; rw [c30b0]) | skip)
               by_cases c31 : x68_4 < (t357.length : Int)
               ·rw [if_pos c31] at H
                have c31b0 : decide (x68_4 < (t357.length : Int)) = true := decide_eq_true c31
                clear c31
                by_cases c32 : ((rd_L1 t357 x68_4).length : Int) = (t354.length : Int)
                ·rw [if_pos c32] at H
                 have c32b0 : (((rd_L1 t357 x68_4).length : Int) == (t354.length : Int)) = true := beq_iff_eq.mpr c32
                 have c32b1 : (((rd_L1 t357 x68_4).length : Int) != (t354.length : Int)) = false := bne_eq_false_iff_eq.mpr c32
                 have c32b2 : ((rd_L1 t357 x68_4).length == t354.length) = true := by first | simpa using c32 | (simp at c32 ⊢; omega)
                 clear c32
                 by_cases c33 : x68_4 < (t365.length : Int)
                 ·rw [if_pos c33] at H
                  have c33b0 : decide (x68_4 < (t365.length : Int)) = true := decide_eq_true c33
                  clear c33
                  have H' := Aside0.mk H
                  clear H
                  have p370 : 0 ≤ (x68_4 : Int) := of_decide_eq_true (by first | (with_reducible assumption) | assumption)
                  have q370 : x68_4 < (t357.length : Int) := of_decide_eq_true (by first | (with_reducible assumption) | assumption)
                  obtain ⟨ad370, A370_0, c370_0, e370, hx370_0, hl370_0, hi370_0⟩ := at_L1 (Kd.S_reads' HO_6.out).2.2 x68_4 p370 q370
                  cases e370
                  obtain ⟨ce370, hce370, hMe370, hcc370⟩ := Kd.S_get HO_6.out [] x68_4 p370 (by first | exact q370 | exact of_decide_eq_true (by first | (with_reducible assumption) | assumption) | (have e_ := (Kd.S_reads' HO_6.out).1; omega))
                  obtain ⟨ve370_0, rfl, ge370_0⟩ := hMe370
                  have hv370_0 := hcc370 0 _ rfl
                  rw [Nat.add_zero, show ((Kd.slice 3 (Kd.int .i64))).sz = 1 from rfl, Nat.mul_one] at hv370_0
                  replace hv370_0 := Option.some.inj (hv370_0.symm.trans hx370_0)
                  rw [hv370_0] at ge370_0
                  have HL370_0 := Aside0.mk (show Kd.R (Kd.int .i64) 3 _ _ _ _ (rd_L1 t357 x68_4) from ge370_0)
                  clear hv370_0 ge370_0
                  clear hcc370 hce370
                  have HR370_0 := Aside0.mk hi370_0
                  have HC370_0 := Aside0.mk hl370_0
                  clear hi370_0 hl370_0
                  replace p370 := eq_true p370
                  replace q370 := eq_true q370
                  obtain ⟨Ao34, co34, eo34⟩ := Kd.S_slice HO_11.out
                  subst eo34
                  have p371 : 0 ≤ (x68_4 : Int) := of_decide_eq_true (by first | (with_reducible assumption) | assumption)
                  have q371 : x68_4 < (t365.length : Int) := of_decide_eq_true (by first | (with_reducible assumption) | assumption)
                  obtain ⟨ad371, A371_0, c371_0, e371, hx371_0, hl371_0, hi371_0⟩ := at_L1 (Kd.S_reads' HO_11.out).2.2 x68_4 p371 q371
                  cases e371
                  obtain ⟨ce371, hce371, hMe371, hcc371⟩ := Kd.S_get HO_11.out [] x68_4 p371 (by first | exact q371 | exact of_decide_eq_true (by first | (with_reducible assumption) | assumption) | (have e_ := (Kd.S_reads' HO_11.out).1; omega))
                  obtain ⟨ve371_0, rfl, ge371_0⟩ := hMe371
                  have hv371_0 := hcc371 0 _ rfl
                  rw [Nat.add_zero, show ((Kd.slice 3 (Kd.int .i64))).sz = 1 from rfl, Nat.mul_one] at hv371_0
                  replace hv371_0 := Option.some.inj (hv371_0.symm.trans hx371_0)
                  rw [hv371_0] at ge371_0
                  have HL371_0 := Aside0.mk (show Kd.R (Kd.int .i64) 3 _ _ _ _ (rd_L1 t365 x68_4) from ge371_0)
                  clear hv371_0 ge371_0
                  clear hcc371 hce371
                  have HR371_0 := Aside0.mk hi371_0
                  have HC371_0 := Aside0.mk hl371_0
                  clear hi371_0 hl371_0
                  replace p371 := eq_true p371
                  replace q371 := eq_true q371
                  go_wp2
                  go_meet
                  case rel => exact ⟨_, ((((rd_L1 t365 x68_4).length : Int) != (t354.length : Int))), (by first | rfl | (simp; done) | (simp [*]; done)), H', ⟨by have := HJ6.out; have := HJ16.out; have := HJ21.out; have := HK4.out; first | omega | exact Nat.le_refl _⟩, ⟨by (with_reducible repeat (first | apply Kd.S_alloc | apply Kd.S_drewN | apply Kd.S_drew)); exact HO_5.out⟩, ⟨by (with_reducible repeat (first | apply Kd.S_alloc | apply Kd.S_drewN | apply Kd.S_drew)); exact HO_6.out⟩, ⟨by (with_reducible repeat (first | apply Kd.S_alloc | apply Kd.S_drewN | apply Kd.S_drew)); exact HO_11.out⟩, ⟨by repeat (first | (with_reducible first | exact HB.out | apply below_alloc | apply pw_below_drewN | apply below_drew1) | exact HB.out)⟩⟩
                 ·rw [if_neg c33] at H
                  exact absurd H (by simp)
                ·rw [if_neg c32] at H
                 have c32b0 : (((rd_L1 t357 x68_4).length : Int) == (t354.length : Int)) = false := beq_eq_false_iff_ne.mpr c32
                 have c32b1 : (((rd_L1 t357 x68_4).length : Int) != (t354.length : Int)) = true := bne_iff_ne.mpr c32
                 have c32b2 : ((rd_L1 t357 x68_4).length == t354.length) = false := by first | simpa using c32 | (simp at c32 ⊢; omega)
                 have H' := Aside0.mk H
                 clear H
                 have p370 : 0 ≤ (x68_4 : Int) := of_decide_eq_true (by first | (with_reducible assumption) | assumption)
                 have q370 : x68_4 < (t357.length : Int) := of_decide_eq_true (by first | (with_reducible assumption) | assumption)
                 obtain ⟨ad370, A370_0, c370_0, e370, hx370_0, hl370_0, hi370_0⟩ := at_L1 (Kd.S_reads' HO_6.out).2.2 x68_4 p370 q370
                 cases e370
                 obtain ⟨ce370, hce370, hMe370, hcc370⟩ := Kd.S_get HO_6.out [] x68_4 p370 (by first | exact q370 | exact of_decide_eq_true (by first | (with_reducible assumption) | assumption) | (have e_ := (Kd.S_reads' HO_6.out).1; omega))
                 obtain ⟨ve370_0, rfl, ge370_0⟩ := hMe370
                 have hv370_0 := hcc370 0 _ rfl
                 rw [Nat.add_zero, show ((Kd.slice 3 (Kd.int .i64))).sz = 1 from rfl, Nat.mul_one] at hv370_0
                 replace hv370_0 := Option.some.inj (hv370_0.symm.trans hx370_0)
                 rw [hv370_0] at ge370_0
                 have HL370_0 := Aside0.mk (show Kd.R (Kd.int .i64) 3 _ _ _ _ (rd_L1 t357 x68_4) from ge370_0)
                 clear hv370_0 ge370_0
                 clear hcc370 hce370
                 have HR370_0 := Aside0.mk hi370_0
                 have HC370_0 := Aside0.mk hl370_0
                 clear hi370_0 hl370_0
                 replace p370 := eq_true p370
                 replace q370 := eq_true q370
                 go_wp2
                 go_meet
                 case rel => exact ⟨_, (true), (by first | rfl | (simp; done) | (simp [*]; done)), H', ⟨by have := HJ6.out; have := HJ16.out; have := HJ21.out; have := HK4.out; first | omega | exact Nat.le_refl _⟩, ⟨by (with_reducible repeat (first | apply Kd.S_alloc | apply Kd.S_drewN | apply Kd.S_drew)); exact HO_5.out⟩, ⟨by (with_reducible repeat (first | apply Kd.S_alloc | apply Kd.S_drewN | apply Kd.S_drew)); exact HO_6.out⟩, ⟨by (with_reducible repeat (first | apply Kd.S_alloc | apply Kd.S_drewN | apply Kd.S_drew)); exact HO_11.out⟩, ⟨by repeat (first | (with_reducible first | exact HB.out | apply below_alloc | apply pw_below_drewN | apply below_drew1) | exact HB.out)⟩⟩
               ·rw [if_neg c31] at H
                exact absurd H (by simp)
              ·rw [if_neg c30] at H
               exact absurd H (by simp)
             case rest =>
              clear HC29
              try clear c1
              try clear c2
              try clear p2
              try clear c3
              try clear p3
              try clear q3
              try clear hx3
              try clear p6
              try clear c9
              try clear c12
              try clear c13
              try clear c14
              try clear c15
              try clear c16
              try clear c17
              try clear c18
              try clear c18b0
              try clear c18b1
              try clear c20
              try clear c23
              try clear c25
              try clear c25b0
              try clear c25b1
              try clear c27
              try clear c28
              try clear c28b0
              try clear c30
              try clear c30b0
              try clear c31
              try clear c31b0
              try clear c32
              try clear c32b0
              try clear c32b1
              try clear c32b2
              try clear c33
              try clear c33b0
              try clear hx370_0
              try clear hx371_0
              try clear p2
              try clear p370
              try clear p371
              try clear p6
              try clear q370
              try clear q371
              obtain ⟨kq, x88_28, rfl, HA, HJ28, HO_5, HO_6, HO_11, HB⟩ := hcut
              cases kq with
              | zero => exact absurd HA.out (by simp [railplanlaw33_MaxplusStar.j4])
              | succ kj28 =>
               have H := HA.out
               clear HA
               simp only [railplanlaw33_MaxplusStar.j4] at H
               by_cases c35 : x88_28 = true
               ·subst c35
                have H1 : (some false) = some r := by rw [if_pos rfl] at H; exact H
                clear H
                have H := H1
                clear H1
                exact absurd (Option.some.inj H) (by rw [hT.out]; decide)
               ·replace c35 := Bool.eq_false_iff.mpr c35
                subst c35
                have H1 : (railplanlaw33_MaxplusStar.l1 kj28 t354 t357 t365 x68_4 (t354.length : Int) x68_4 (t354.length : Int) 0) = some r := by rw [if_neg (show ¬ (false = true) by decide)] at H; exact H
                clear H
                have H := H1
                clear H1
                have H' := Aside0.mk H
                clear H
                go_wp2
                go_loopg [91] kj28 (fun kq v91 w' => ∃ (x91_6 : Int), v91 = .int .i64 x91_6 ∧ Aside0 (railplanlaw33_MaxplusStar.l1 kq t354 t357 t365 x68_4 (t354.length : Int) x68_4 (t354.length : Int) x91_6 = some r) ∧ Aside0 (kq ≤ kj28) ∧ Aside0 (Kd.S (Kd.slice 3 (Kd.int .i64)) 22 w' w.heap.size (fun k_ => some k_ ≠ ((.slice Ao23 t357.length co23) : Value).ownBlock ∧ some k_ ≠ (v367 : Value).ownBlock) (.slice Ao9 t354.length co9) t354) ∧ Aside0 (Kd.S (Kd.slice 3 (Kd.int .i64)) 22 w' w.heap.size (fun k_ => some k_ ≠ ((.slice Ao9 t354.length co9) : Value).ownBlock ∧ some k_ ≠ (v367 : Value).ownBlock) (.slice Ao23 t357.length co23) t357) ∧ Aside0 (Kd.S (Kd.slice 3 (Kd.int .i64)) 22 w' w.heap.size (fun k_ => some k_ ≠ ((.slice Ao9 t354.length co9) : Value).ownBlock ∧ some k_ ≠ ((.slice Ao23 t357.length co23) : Value).ownBlock) v367 t365) ∧ Aside0 (Below w.heap.size w w'))
                case atStart => exact ⟨(0), (by first | rfl | (simp; done) | (simp [*]; done)), H', ⟨Nat.le_refl _⟩, ⟨by (with_reducible repeat (first | apply Kd.S_alloc | apply Kd.S_drewN | apply Kd.S_drew)); exact HO_5.out⟩, ⟨by (with_reducible repeat (first | apply Kd.S_alloc | apply Kd.S_drewN | apply Kd.S_drew)); exact HO_6.out⟩, ⟨by (with_reducible repeat (first | apply Kd.S_alloc | apply Kd.S_drewN | apply Kd.S_drew)); exact HO_11.out⟩, ⟨by repeat (first | (with_reducible first | exact HB.out | apply below_alloc | apply pw_below_drewN | apply below_drew1) | exact HB.out)⟩⟩
                case round =>
                 clear H'
                 try clear c1
                 try clear c2
                 try clear p2
                 try clear c3
                 try clear p3
                 try clear q3
                 try clear hx3
                 try clear p6
                 try clear c9
                 try clear c12
                 try clear c13
                 try clear c14
                 try clear c15
                 try clear c16
                 try clear c17
                 try clear c18
                 try clear c18b0
                 try clear c18b1
                 try clear c20
                 try clear c23
                 try clear c25
                 try clear c25b0
                 try clear c25b1
                 try clear c27
                 try clear c28
                 try clear c28b0
                 try clear c30
                 try clear c30b0
                 try clear c31
                 try clear c31b0
                 try clear c32
                 try clear c32b0
                 try clear c32b1
                 try clear c32b2
                 try clear c33
                 try clear c33b0
                 try clear c35
                 try clear hx370_0
                 try clear hx371_0
                 try clear p2
                 try clear p3
                 try clear p370
                 try clear p371
                 try clear p6
                 try clear q3
                 try clear q370
                 try clear q371
                 obtain ⟨x91_6, rfl, HA, HK6, HO_5, HO_6, HO_11, HB⟩ := hrel
                 cases gk with
                 | zero => exact absurd HA.out (by simp [railplanlaw33_MaxplusStar.l1])
                 | succ k6 =>
                  have H := HA.out
                  clear HA
                  simp only [railplanlaw33_MaxplusStar.l1] at H
                  by_cases c36 : x91_6 < (t354.length : Int)
                  ·rw [if_pos c36] at H
                   have c36b0 : decide (x91_6 < (t354.length : Int)) = true := decide_eq_true c36
                   clear c36
                   by_cases c37 : 0 ≤ x68_4
                   ·rw [if_pos c37] at H
                    have c37b0 : decide (0 ≤ x68_4) = true := decide_eq_true c37
                    clear c37
                    by_cases c38 : x68_4 < (t365.length : Int)
                    ·rw [if_pos c38] at H
                     have c38b0 : decide (x68_4 < (t365.length : Int)) = true := decide_eq_true c38
                     clear c38
                     by_cases c39 : 0 ≤ x91_6
                     ·rw [if_pos c39] at H
                      have c39b0 : decide (0 ≤ x91_6) = true := decide_eq_true c39
                      clear c39
                      by_cases c40 : x91_6 < ((rd_L1 t365 x68_4).length : Int)
                      ·rw [if_pos c40] at H
                       have c40b0 : decide (x91_6 < ((rd_L1 t365 x68_4).length : Int)) = true := decide_eq_true c40
                       clear c40
                       by_cases c41 : x68_4 = x91_6
                       ·rw [if_pos c41] at H
                        have c41b0 : (x68_4 == x91_6) = true := beq_iff_eq.mpr c41
                        have c41b1 : (x68_4 != x91_6) = false := bne_eq_false_iff_eq.mpr c41
                        clear c41
                        obtain ⟨ji42, hji42⟩ : ∃ j_ : Int, (mx (rd (rd_L1 t365 x68_4) x91_6) 0) = j_ := ⟨_, rfl⟩
                        replace H : (if x68_4 < (t357.length : Int) then (if x91_6 < ((rd_L1 t357 x68_4).length : Int) then (if (rd (rd_L1 t357 x68_4) x91_6) = (ji42) then (railplanlaw33_MaxplusStar.l1 k6 t354 t357 t365 x68_4 (t354.length : Int) x68_4 (t354.length : Int) (wrap64 (x91_6 + 1))) else (some false)) else (none)) else (none)) = some r := by first | (rw [hji42] at H; exact H) | (simp only [hji42] at H ⊢; exact H)
                        have hji42_ : (if (rd (rd_L1 t365 x68_4) x91_6) < 0 then 0 else (rd (rd_L1 t365 x68_4) x91_6)) = ji42 := hji42
                        by_cases c43 : x68_4 < (t357.length : Int)
                        ·rw [if_pos c43] at H
                         have c43b0 : decide (x68_4 < (t357.length : Int)) = true := decide_eq_true c43
                         clear c43
                         by_cases c44 : x91_6 < ((rd_L1 t357 x68_4).length : Int)
                         ·rw [if_pos c44] at H
                          have c44b0 : decide (x91_6 < ((rd_L1 t357 x68_4).length : Int)) = true := decide_eq_true c44
                          clear c44
                          by_cases c45 : (rd (rd_L1 t357 x68_4) x91_6) = (ji42)
                          ·rw [if_pos c45] at H
                           have c45b0 : ((rd (rd_L1 t357 x68_4) x91_6) == (ji42)) = true := beq_iff_eq.mpr c45
                           have c45b1 : ((rd (rd_L1 t357 x68_4) x91_6) != (ji42)) = false := bne_eq_false_iff_eq.mpr c45
                           clear c45
                           have H' := Aside0.mk H
                           clear H
                           obtain ⟨Ao46, co46, eo46⟩ := Kd.S_slice HO_11.out
                           subst eo46
                           have p372 : 0 ≤ (x68_4 : Int) := of_decide_eq_true (by first | (with_reducible assumption) | assumption)
                           have q372 : x68_4 < (t365.length : Int) := of_decide_eq_true (by first | (with_reducible assumption) | assumption)
                           obtain ⟨ad372, A372_0, c372_0, e372, hx372_0, hl372_0, hi372_0⟩ := at_L1 (Kd.S_reads' HO_11.out).2.2 x68_4 p372 q372
                           cases e372
                           obtain ⟨ce372, hce372, hMe372, hcc372⟩ := Kd.S_get HO_11.out [] x68_4 p372 (by first | exact q372 | exact of_decide_eq_true (by first | (with_reducible assumption) | assumption) | (have e_ := (Kd.S_reads' HO_11.out).1; omega))
                           obtain ⟨ve372_0, rfl, ge372_0⟩ := hMe372
                           have hv372_0 := hcc372 0 _ rfl
                           rw [Nat.add_zero, show ((Kd.slice 3 (Kd.int .i64))).sz = 1 from rfl, Nat.mul_one] at hv372_0
                           replace hv372_0 := Option.some.inj (hv372_0.symm.trans hx372_0)
                           rw [hv372_0] at ge372_0
                           have HL372_0 := Aside0.mk (show Kd.R (Kd.int .i64) 3 _ _ _ _ (rd_L1 t365 x68_4) from ge372_0)
                           clear hv372_0 ge372_0
                           clear hcc372 hce372
                           have HR372_0 := Aside0.mk hi372_0
                           have HC372_0 := Aside0.mk hl372_0
                           clear hi372_0 hl372_0
                           replace p372 := eq_true p372
                           replace q372 := eq_true q372
                           have p373 : 0 ≤ (x91_6 : Int) := of_decide_eq_true (by first | (with_reducible assumption) | assumption)
                           have q373 : x91_6 < ((rd_L1 t365 x68_4).length : Int) := of_decide_eq_true (by first | (with_reducible assumption) | assumption)
                           obtain ⟨ad373, e373, hx373_0⟩ := Kd.at_int (by repeat (first | (with_reducible exact HR372_0.out) | (with_reducible refine Kd.C_alloc ?_ _) | (with_reducible refine Kd.C_drewN ?_ _) | (with_reducible refine Kd.C_drew ?_) | exact HR372_0.out)) x91_6 p373 q373
                           cases e373
                           replace p373 := eq_true p373
                           replace q373 := eq_true q373
                           have p374 : 0 ≤ (x68_4 : Int) := of_decide_eq_true (by first | (with_reducible assumption) | assumption)
                           have q374 : x68_4 < (t357.length : Int) := of_decide_eq_true (by first | (with_reducible assumption) | assumption)
                           obtain ⟨ad374, A374_0, c374_0, e374, hx374_0, hl374_0, hi374_0⟩ := at_L1 (Kd.S_reads' HO_6.out).2.2 x68_4 p374 q374
                           cases e374
                           obtain ⟨ce374, hce374, hMe374, hcc374⟩ := Kd.S_get HO_6.out [] x68_4 p374 (by first | exact q374 | exact of_decide_eq_true (by first | (with_reducible assumption) | assumption) | (have e_ := (Kd.S_reads' HO_6.out).1; omega))
                           obtain ⟨ve374_0, rfl, ge374_0⟩ := hMe374
                           have hv374_0 := hcc374 0 _ rfl
                           rw [Nat.add_zero, show ((Kd.slice 3 (Kd.int .i64))).sz = 1 from rfl, Nat.mul_one] at hv374_0
                           replace hv374_0 := Option.some.inj (hv374_0.symm.trans hx374_0)
                           rw [hv374_0] at ge374_0
                           have HL374_0 := Aside0.mk (show Kd.R (Kd.int .i64) 3 _ _ _ _ (rd_L1 t357 x68_4) from ge374_0)
                           clear hv374_0 ge374_0
                           clear hcc374 hce374
                           have HR374_0 := Aside0.mk hi374_0
                           have HC374_0 := Aside0.mk hl374_0
                           clear hi374_0 hl374_0
                           replace p374 := eq_true p374
                           replace q374 := eq_true q374
                           have p375 : 0 ≤ (x91_6 : Int) := of_decide_eq_true (by first | (with_reducible assumption) | assumption)
                           have q375 : x91_6 < ((rd_L1 t357 x68_4).length : Int) := of_decide_eq_true (by first | (with_reducible assumption) | assumption)
                           obtain ⟨ad375, e375, hx375_0⟩ := Kd.at_int (by repeat (first | (with_reducible exact HR374_0.out) | (with_reducible refine Kd.C_alloc ?_ _) | (with_reducible refine Kd.C_drewN ?_ _) | (with_reducible refine Kd.C_drew ?_) | exact HR374_0.out)) x91_6 p375 q375
                           cases e375
                           replace p375 := eq_true p375
                           replace q375 := eq_true q375
                           go_wp2
                           go_roundg k6
                           case measure => have := HJ6.out; have := HJ16.out; have := HJ21.out; have := HK4.out; have := HJ28.out; have := HK6.out; omega
                           case rel => exact ⟨(wrap64 (x91_6 + 1)), (by first | rfl | (simp; done) | (simp [*]; done)), H', ⟨by have := HJ6.out; have := HJ16.out; have := HJ21.out; have := HK4.out; have := HJ28.out; have := HK6.out; omega⟩, ⟨by (with_reducible repeat (first | apply Kd.S_alloc | apply Kd.S_drewN | apply Kd.S_drew)); exact HO_5.out⟩, ⟨by (with_reducible repeat (first | apply Kd.S_alloc | apply Kd.S_drewN | apply Kd.S_drew)); exact HO_6.out⟩, ⟨by (with_reducible repeat (first | apply Kd.S_alloc | apply Kd.S_drewN | apply Kd.S_drew)); exact HO_11.out⟩, ⟨by repeat (first | (with_reducible first | exact HB.out | apply below_alloc | apply pw_below_drewN | apply below_drew1) | exact HB.out)⟩⟩
                          ·rw [if_neg c45] at H
                           have c45b0 : ((rd (rd_L1 t357 x68_4) x91_6) == (ji42)) = false := beq_eq_false_iff_ne.mpr c45
                           have c45b1 : ((rd (rd_L1 t357 x68_4) x91_6) != (ji42)) = true := bne_iff_ne.mpr c45
                           exact absurd (Option.some.inj H) (by rw [hT.out]; decide)
                         ·rw [if_neg c44] at H
                          exact absurd H (by simp)
                        ·rw [if_neg c43] at H
                         exact absurd H (by simp)
                       ·rw [if_neg c41] at H
                        have c41b0 : (x68_4 == x91_6) = false := beq_eq_false_iff_ne.mpr c41
                        have c41b1 : (x68_4 != x91_6) = true := bne_iff_ne.mpr c41
                        by_cases c47 : x68_4 < (t357.length : Int)
                        ·rw [if_pos c47] at H
                         have c47b0 : decide (x68_4 < (t357.length : Int)) = true := decide_eq_true c47
                         clear c47
                         by_cases c48 : x91_6 < ((rd_L1 t357 x68_4).length : Int)
                         ·rw [if_pos c48] at H
                          have c48b0 : decide (x91_6 < ((rd_L1 t357 x68_4).length : Int)) = true := decide_eq_true c48
                          clear c48
                          by_cases c49 : (rd (rd_L1 t357 x68_4) x91_6) = (rd (rd_L1 t365 x68_4) x91_6)
                          ·rw [if_pos c49] at H
                           have c49b0 : ((rd (rd_L1 t357 x68_4) x91_6) == (rd (rd_L1 t365 x68_4) x91_6)) = true := beq_iff_eq.mpr c49
                           have c49b1 : ((rd (rd_L1 t357 x68_4) x91_6) != (rd (rd_L1 t365 x68_4) x91_6)) = false := bne_eq_false_iff_eq.mpr c49
                           clear c49
                           have H' := Aside0.mk H
                           clear H
                           obtain ⟨Ao50, co50, eo50⟩ := Kd.S_slice HO_11.out
                           subst eo50
                           have p372 : 0 ≤ (x68_4 : Int) := of_decide_eq_true (by first | (with_reducible assumption) | assumption)
                           have q372 : x68_4 < (t365.length : Int) := of_decide_eq_true (by first | (with_reducible assumption) | assumption)
                           obtain ⟨ad372, A372_0, c372_0, e372, hx372_0, hl372_0, hi372_0⟩ := at_L1 (Kd.S_reads' HO_11.out).2.2 x68_4 p372 q372
                           cases e372
                           obtain ⟨ce372, hce372, hMe372, hcc372⟩ := Kd.S_get HO_11.out [] x68_4 p372 (by first | exact q372 | exact of_decide_eq_true (by first | (with_reducible assumption) | assumption) | (have e_ := (Kd.S_reads' HO_11.out).1; omega))
                           obtain ⟨ve372_0, rfl, ge372_0⟩ := hMe372
                           have hv372_0 := hcc372 0 _ rfl
                           rw [Nat.add_zero, show ((Kd.slice 3 (Kd.int .i64))).sz = 1 from rfl, Nat.mul_one] at hv372_0
                           replace hv372_0 := Option.some.inj (hv372_0.symm.trans hx372_0)
                           rw [hv372_0] at ge372_0
                           have HL372_0 := Aside0.mk (show Kd.R (Kd.int .i64) 3 _ _ _ _ (rd_L1 t365 x68_4) from ge372_0)
                           clear hv372_0 ge372_0
                           clear hcc372 hce372
                           have HR372_0 := Aside0.mk hi372_0
                           have HC372_0 := Aside0.mk hl372_0
                           clear hi372_0 hl372_0
                           replace p372 := eq_true p372
                           replace q372 := eq_true q372
                           have p373 : 0 ≤ (x91_6 : Int) := of_decide_eq_true (by first | (with_reducible assumption) | assumption)
                           have q373 : x91_6 < ((rd_L1 t365 x68_4).length : Int) := of_decide_eq_true (by first | (with_reducible assumption) | assumption)
                           obtain ⟨ad373, e373, hx373_0⟩ := Kd.at_int (by repeat (first | (with_reducible exact HR372_0.out) | (with_reducible refine Kd.C_alloc ?_ _) | (with_reducible refine Kd.C_drewN ?_ _) | (with_reducible refine Kd.C_drew ?_) | exact HR372_0.out)) x91_6 p373 q373
                           cases e373
                           replace p373 := eq_true p373
                           replace q373 := eq_true q373
                           have p376 : 0 ≤ (x68_4 : Int) := of_decide_eq_true (by first | (with_reducible assumption) | assumption)
                           have q376 : x68_4 < (t357.length : Int) := of_decide_eq_true (by first | (with_reducible assumption) | assumption)
                           obtain ⟨ad376, A376_0, c376_0, e376, hx376_0, hl376_0, hi376_0⟩ := at_L1 (Kd.S_reads' HO_6.out).2.2 x68_4 p376 q376
                           cases e376
                           obtain ⟨ce376, hce376, hMe376, hcc376⟩ := Kd.S_get HO_6.out [] x68_4 p376 (by first | exact q376 | exact of_decide_eq_true (by first | (with_reducible assumption) | assumption) | (have e_ := (Kd.S_reads' HO_6.out).1; omega))
                           obtain ⟨ve376_0, rfl, ge376_0⟩ := hMe376
                           have hv376_0 := hcc376 0 _ rfl
                           rw [Nat.add_zero, show ((Kd.slice 3 (Kd.int .i64))).sz = 1 from rfl, Nat.mul_one] at hv376_0
                           replace hv376_0 := Option.some.inj (hv376_0.symm.trans hx376_0)
                           rw [hv376_0] at ge376_0
                           have HL376_0 := Aside0.mk (show Kd.R (Kd.int .i64) 3 _ _ _ _ (rd_L1 t357 x68_4) from ge376_0)
                           clear hv376_0 ge376_0
                           clear hcc376 hce376
                           have HR376_0 := Aside0.mk hi376_0
                           have HC376_0 := Aside0.mk hl376_0
                           clear hi376_0 hl376_0
                           replace p376 := eq_true p376
                           replace q376 := eq_true q376
                           have p377 : 0 ≤ (x91_6 : Int) := of_decide_eq_true (by first | (with_reducible assumption) | assumption)
                           have q377 : x91_6 < ((rd_L1 t357 x68_4).length : Int) := of_decide_eq_true (by first | (with_reducible assumption) | assumption)
                           obtain ⟨ad377, e377, hx377_0⟩ := Kd.at_int (by repeat (first | (with_reducible exact HR376_0.out) | (with_reducible refine Kd.C_alloc ?_ _) | (with_reducible refine Kd.C_drewN ?_ _) | (with_reducible refine Kd.C_drew ?_) | exact HR376_0.out)) x91_6 p377 q377
                           cases e377
                           replace p377 := eq_true p377
                           replace q377 := eq_true q377
                           go_wp2
                           go_roundg k6
                           case measure => have := HJ6.out; have := HJ16.out; have := HJ21.out; have := HK4.out; have := HJ28.out; have := HK6.out; omega
                           case rel => exact ⟨(wrap64 (x91_6 + 1)), (by first | rfl | (simp; done) | (simp [*]; done)), H', ⟨by have := HJ6.out; have := HJ16.out; have := HJ21.out; have := HK4.out; have := HJ28.out; have := HK6.out; omega⟩, ⟨by (with_reducible repeat (first | apply Kd.S_alloc | apply Kd.S_drewN | apply Kd.S_drew)); exact HO_5.out⟩, ⟨by (with_reducible repeat (first | apply Kd.S_alloc | apply Kd.S_drewN | apply Kd.S_drew)); exact HO_6.out⟩, ⟨by (with_reducible repeat (first | apply Kd.S_alloc | apply Kd.S_drewN | apply Kd.S_drew)); exact HO_11.out⟩, ⟨by repeat (first | (with_reducible first | exact HB.out | apply below_alloc | apply pw_below_drewN | apply below_drew1) | exact HB.out)⟩⟩
                          ·rw [if_neg c49] at H
                           have c49b0 : ((rd (rd_L1 t357 x68_4) x91_6) == (rd (rd_L1 t365 x68_4) x91_6)) = false := beq_eq_false_iff_ne.mpr c49
                           have c49b1 : ((rd (rd_L1 t357 x68_4) x91_6) != (rd (rd_L1 t365 x68_4) x91_6)) = true := bne_iff_ne.mpr c49
                           exact absurd (Option.some.inj H) (by rw [hT.out]; decide)
                         ·rw [if_neg c48] at H
                          exact absurd H (by simp)
                        ·rw [if_neg c47] at H
                         exact absurd H (by simp)
                      ·rw [if_neg c40] at H
                       exact absurd H (by simp)
                     ·rw [if_neg c39] at H
                      exact absurd H (by simp)
                    ·rw [if_neg c38] at H
                     exact absurd H (by simp)
                   ·rw [if_neg c37] at H
                    exact absurd H (by simp)
                  ·rw [if_neg c36] at H
                   have c36b0 : decide (x91_6 < (t354.length : Int)) = false := decide_eq_false c36
                   clear c36
                   have H' := Aside0.mk H
                   clear H
                   go_wp2
                   go_roundg k6
                   case measure => have := HJ6.out; have := HJ16.out; have := HJ21.out; have := HK4.out; have := HJ28.out; have := HK6.out; omega
                   case rel => exact ⟨(wrap64 (x68_4 + 1)), (by first | rfl | (simp; done) | (simp [*]; done)), H', ⟨by have := HJ6.out; have := HJ16.out; have := HJ21.out; have := HK4.out; have := HJ28.out; have := HK6.out; omega⟩, ⟨by (with_reducible repeat (first | apply Kd.S_alloc | apply Kd.S_drewN | apply Kd.S_drew)); exact HO_5.out⟩, ⟨by (with_reducible repeat (first | apply Kd.S_alloc | apply Kd.S_drewN | apply Kd.S_drew)); exact HO_6.out⟩, ⟨by (with_reducible repeat (first | apply Kd.S_alloc | apply Kd.S_drewN | apply Kd.S_drew)); exact HO_11.out⟩, ⟨by repeat (first | (with_reducible first | exact HB.out | apply below_alloc | apply pw_below_drewN | apply below_drew1) | exact HB.out)⟩⟩
            ·rw [if_neg c28] at H
             have c28b0 : decide (x68_4 < (t354.length : Int)) = false := decide_eq_false c28
             clear c28
             replace H := Option.bind_eq_some_iff.mp H
             obtain ⟨t369, A510, H⟩ := H
             replace H : (some t369) = some r := H
             have A51 := Aside0.mk A510
             clear A510
             obtain rfl := Option.some.inj H
             go_wp2_with (first | ((with_reducible refine gate_callee (f := 17) rfl ?_); refine goesL_ (some 117) rfl rfl Try.func17 (by kernel_rfl) rfl #[] rfl (by (try simp only [List.map_toArray, List.map_cons, List.map_nil]); first | done | rfl | (simp only [List.length_drop, List.length_take]; rfl)) ?_; (with_reducible refine (railplanlaw33_awake.calls k4  t369 _ A51.out ⟨by first | rfl | assumption | exact hT.out⟩).mono ?_); rintro e w52 ⟨rfl, hb⟩; refine ⟨_, rfl, ?_⟩; have n0_ := Aside0.mk (Kd.S_below (by (with_reducible repeat (first | apply Kd.S_alloc | apply Kd.S_drewN | apply Kd.S_drew)); exact HO_5.out) hb); have n1_ := Aside0.mk (Kd.S_below (by (with_reducible repeat (first | apply Kd.S_alloc | apply Kd.S_drewN | apply Kd.S_drew)); exact HO_6.out) hb); have n2_ := Aside0.mk (Kd.S_below (by (with_reducible repeat (first | apply Kd.S_alloc | apply Kd.S_drewN | apply Kd.S_drew)); exact HO_11.out) hb); have n3_ := Aside0.mk (below_step (by repeat (first | (with_reducible first | exact HB.out | apply below_alloc | apply pw_below_drewN | apply below_drew1) | exact HB.out)) hb); clear HO_5; clear HO_6; clear HO_11; clear HB; have HO_5 := n0_; have HO_6 := n1_; have HO_11 := n2_; have HB := n3_; clear n0_ n1_ n2_ n3_; (try clear hb); (try clear hb2); (try clear hk); (try clear hi)))
             go_ret
             exact ⟨by first | rfl | (simp [errW_none, errW_some] <;> rfl) | (simp [*, errW_none, errW_some] <;> rfl), by repeat (first | (with_reducible first | exact HB.out | apply below_alloc | apply pw_below_drewN | apply below_drew1) | exact HB.out)⟩

/-- THE ONE PURE STATEMENT of railplanlaw33_MaxplusStar: yours. -/
def railplanlaw33_MaxplusStar.Pure : Prop := ∀ (a0 : Int) (l1 : List Int), (Lit.int .i64 a0).wf = true → l1.length ≤ maxLen → l1.length * 8 ≤ 140737488351232 → (∀ x ∈ l1, (Lit.int .i64 x).wf = true) → ∃ k, railplanlaw33_MaxplusStar.f k a0 l1 = some true
theorem railplanlaw33_MaxplusStar.walk (P : railplanlaw33_MaxplusStar.Pure) (a0 : Int) (a1 : Option Addr) (len1 cap1 : Nat) (z1 : List Int) (w : World) (w0 : (Lit.int .i64 a0).wf = true) (w1 : (a1 = none ∧ len1 = 0 ∧ cap1 = 0 ∧ z1 = []) ∨ ∃ x, a1 = some x ∧ len1 ≤ cap1 ∧ cap1 ≤ maxLen ∧ z1.length = cap1 ∧ (∀ i, i < z1.length → w.cell? (x.add i) = some (.int .i64 (z1.getD i 0))) ∧ ∀ n ∈ z1, (Lit.int .i64 n).wf = true) (y1 : len1 * 8 ≤ 140737488351232) :
  Calls Try.prog 9 #[.int .i64 a0, .slice a1 len1 cap1] w fun e w' => e = .returned (.bool true) ∧ Below w.heap.size w w' := by
 obtain ⟨l1, rfl, hr1, hm1, hw1, hc1⟩ := ReadsInt.ofRowC w1
 obtain ⟨k, h⟩ := P a0 l1 w0 hm1 y1 hw1
 refine (railplanlaw33_MaxplusStar.calls k a0 _ _ l1 true w (Kd.C_of_reads (d := (0 : Int)) (h1 := fun _ => rfl) hr1) hc1 h ⟨rfl⟩).mono ?_
 rintro e w' ⟨rfl, hd⟩
 exact ⟨rfl, hd⟩

end Go.Proofs.Ytnmhdeibjglhcaa.XAll
