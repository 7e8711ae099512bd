-- This session's own text, written by wip/tools/xprint.py after the form of the kit's print.
import Derived.Test.YtfnpoalffpnllaaXDynamicsFasterIsNotLaterx0
import Derived.Test.YtfnpoalffpnllaaXDynamicsFasterIsNotLaterx1
import Derived.Test.YtfnpoalffpnllaaXDynamicsFasterIsNotLaterx4
namespace Go.Proofs.Ytfnpoalffpnllaa.XDynamicsFasterIsNotLater
open Go.RowKit Go.Proofs.YtfnpoalffpnllaaW.PrintWords Go.Proofs.YtfnpoalffpnllaaW.PrintLast Go.Proofs.YtfnpoalffpnllaaW.PrintMore
attribute [local go_sem] max2_int min2_int max_two min_two max_three min_three max_four min_four   -- for this text's walks alone
set_option linter.unusedVariables false
set_option linter.unusedSimpArgs false

/-! ### railplanlaw6_DynamicsFasterIsNotLater: function 5 -/
mutual
def railplanlaw6_DynamicsFasterIsNotLater.j0 : Nat → Int → List (S34) → ByteArray → Int → Int → Int → Int → ByteArray → Int → Int → Int → Int → Option (Bool)
  | 0, _, _, _, _, _, _, _, _, _, _, _, _ => none
  | k + 1, x2, x11, x197000, x197001, x197002, x197003, x197004, x200000, x200001, x200002, x200003, x200004 => (dynamics_Times.f k x11 x2 x197000 x197001 x197002 x197003 x197004).bind fun bt204 => ((dynamics_Times.f k x11 x2 x200000 x200001 x200002 x200003 x200004).bind fun bt208 => (if bt204.2 = 0 then (if bt208.2 = 0 then (if (bt204.1.length : Int) = (bt208.1.length : Int) then (railplanlaw6_DynamicsFasterIsNotLater.j1 k bt204.1 bt208.1 (decide ((bt204.1.length : Int) < 3))) else (railplanlaw6_DynamicsFasterIsNotLater.j1 k bt204.1 bt208.1 true)) else (railplanlaw6_DynamicsFasterIsNotLater.j1 k bt204.1 bt208.1 true)) else (railplanlaw6_DynamicsFasterIsNotLater.j1 k bt204.1 bt208.1 true)))
def railplanlaw6_DynamicsFasterIsNotLater.j1 : Nat → List Int → List Int → Bool → Option (Bool)
  | 0, _, _, _ => none
  | k + 1, x14, x16, x92 => if x92 = true then (some false) else (railplanlaw6_DynamicsFasterIsNotLater.l0 k x14 x16 (x14.length : Int) 0)
def railplanlaw6_DynamicsFasterIsNotLater.l0 : Nat → List Int → List Int → Int → Int → Option (Bool)
  | 0, _, _, _, _ => none
  | k + 1, x14, x16, x94, x95 => if x95 < x94 then (if 0 ≤ x95 then (if x95 < (x16.length : Int) then (if x95 < (x14.length : Int) then (if (rd x16 x95) > (rd x14 x95) then (some false) else (railplanlaw6_DynamicsFasterIsNotLater.l0 k x14 x16 x94 (wrap64 (x95 + 1)))) else (none)) else (none)) else (none)) else (if 1 < (x14.length : Int) then (some (decide ((rd x14 1) > 0))) else (none))
end
def railplanlaw6_DynamicsFasterIsNotLater.f (k : Nat) (l0 : List Int) (l1 : List Int) (a2 : Int) (a3 : Int) (a4 : Int) : Option (Bool) := (railplankeep_Cells.f k l0).bind fun t188 => ((railplankeep_Stock.f l1).bind fun bt191 => (if (t188.length : Int) < 2 then ((dynamics_Check.f bt191.1 bt191.2.1 bt191.2.2.1 bt191.2.2.2.1 bt191.2.2.2.2).bind fun t197 => (some t197)) else ((railplankeep_Pick.f a2 (wrap64 ((t188.length : Int) - 1))).bind fun t198 => ((railplankeep_Pick.f a3 3).bind fun t200 => (if t200 = 0 then ((railplankeep_Pick.f a4 30000).bind fun t201 => (railplanlaw6_DynamicsFasterIsNotLater.j0 k t198 t188 bt191.1 bt191.2.1 bt191.2.2.1 bt191.2.2.2.1 bt191.2.2.2.2 bt191.1 bt191.2.1 (mn 100000 (wrap64 (bt191.2.2.1 + t201))) bt191.2.2.2.1 bt191.2.2.2.2)) else (if t200 = 1 then ((railplankeep_Pick.f a4 1000).bind fun t202 => (railplanlaw6_DynamicsFasterIsNotLater.j0 k t198 t188 bt191.1 bt191.2.1 bt191.2.2.1 bt191.2.2.2.1 bt191.2.2.2.2 bt191.1 bt191.2.1 bt191.2.2.1 (mn 2000 (wrap64 (bt191.2.2.2.1 + t202))) bt191.2.2.2.2)) else ((railplankeep_Pick.f a4 1000).bind fun t203 => (railplanlaw6_DynamicsFasterIsNotLater.j0 k t198 t188 bt191.1 bt191.2.1 bt191.2.2.1 bt191.2.2.2.1 bt191.2.2.2.2 bt191.1 bt191.2.1 bt191.2.2.1 bt191.2.2.2.1 (mn 2000 (wrap64 (bt191.2.2.2.2 + t203)))))))))))
theorem railplanlaw6_DynamicsFasterIsNotLater.mono_l : ∀ k, (∀ y0 y1 y2 y3 y4 y5 y6 y7 y8 y9 y10 y11, LeO (railplanlaw6_DynamicsFasterIsNotLater.j0 k y0 y1 y2 y3 y4 y5 y6 y7 y8 y9 y10 y11) (railplanlaw6_DynamicsFasterIsNotLater.j0 (k + 1) y0 y1 y2 y3 y4 y5 y6 y7 y8 y9 y10 y11)) ∧ (∀ y0 y1 y2, LeO (railplanlaw6_DynamicsFasterIsNotLater.j1 k y0 y1 y2) (railplanlaw6_DynamicsFasterIsNotLater.j1 (k + 1) y0 y1 y2)) ∧ (∀ y0 y1 y2 y3, LeO (railplanlaw6_DynamicsFasterIsNotLater.l0 k y0 y1 y2 y3) (railplanlaw6_DynamicsFasterIsNotLater.l0 (k + 1) y0 y1 y2 y3))
  | 0 => ⟨fun _ _ _ _ _ _ _ _ _ _ _ _ r h => by simp [railplanlaw6_DynamicsFasterIsNotLater.j0] at h, fun _ _ _ r h => by simp [railplanlaw6_DynamicsFasterIsNotLater.j1] at h, fun _ _ _ _ r h => by simp [railplanlaw6_DynamicsFasterIsNotLater.l0] at h⟩
  | k + 1 => by
    obtain ⟨ih0, ih1, ih2⟩ := railplanlaw6_DynamicsFasterIsNotLater.mono_l k
    refine ⟨?_, ?_, ?_⟩
    · intro y0 y1 y2 y3 y4 y5 y6 y7 y8 y9 y10 y11
      unfold railplanlaw6_DynamicsFasterIsNotLater.j0
      repeat' first
      | (with_reducible exact ih0 _ _ _ _ _ _ _ _ _ _ _ _)
      | (with_reducible exact ih1 _ _ _)
      | (with_reducible exact ih2 _ _ _ _)
      | (with_reducible exact dynamics_Times.mono _ _ _ _ _ _ _ _)
      | (with_reducible exact railplankeep_Cells.mono _ _)
      | (with_reducible exact LeO.refl _)
      | (with_reducible exact LeO.none _)
      | (with_reducible refine LeO.ite ?_ ?_)
      | (with_reducible refine LeO.bind ?_ (fun _ => ?_))
      | exact ih0 _ _ _ _ _ _ _ _ _ _ _ _
      | exact ih1 _ _ _
      | exact ih2 _ _ _ _
      | exact dynamics_Times.mono _ _ _ _ _ _ _ _
      | exact railplankeep_Cells.mono _ _
      | exact LeO.none _
      | refine LeO.ite ?_ ?_
      | refine LeO.bind ?_ (fun _ => ?_)
    · intro y0 y1 y2
      unfold railplanlaw6_DynamicsFasterIsNotLater.j1
      repeat' first
      | (with_reducible exact ih0 _ _ _ _ _ _ _ _ _ _ _ _)
      | (with_reducible exact ih1 _ _ _)
      | (with_reducible exact ih2 _ _ _ _)
      | (with_reducible exact dynamics_Times.mono _ _ _ _ _ _ _ _)
      | (with_reducible exact railplankeep_Cells.mono _ _)
      | (with_reducible exact LeO.refl _)
      | (with_reducible exact LeO.none _)
      | (with_reducible refine LeO.ite ?_ ?_)
      | (with_reducible refine LeO.bind ?_ (fun _ => ?_))
      | exact ih0 _ _ _ _ _ _ _ _ _ _ _ _
      | exact ih1 _ _ _
      | exact ih2 _ _ _ _
      | exact dynamics_Times.mono _ _ _ _ _ _ _ _
      | exact railplankeep_Cells.mono _ _
      | exact LeO.none _
      | refine LeO.ite ?_ ?_
      | refine LeO.bind ?_ (fun _ => ?_)
    · intro y0 y1 y2 y3
      unfold railplanlaw6_DynamicsFasterIsNotLater.l0
      repeat' first
      | (with_reducible exact ih0 _ _ _ _ _ _ _ _ _ _ _ _)
      | (with_reducible exact ih1 _ _ _)
      | (with_reducible exact ih2 _ _ _ _)
      | (with_reducible exact dynamics_Times.mono _ _ _ _ _ _ _ _)
      | (with_reducible exact railplankeep_Cells.mono _ _)
      | (with_reducible exact LeO.refl _)
      | (with_reducible exact LeO.none _)
      | (with_reducible refine LeO.ite ?_ ?_)
      | (with_reducible refine LeO.bind ?_ (fun _ => ?_))
      | exact ih0 _ _ _ _ _ _ _ _ _ _ _ _
      | exact ih1 _ _ _
      | exact ih2 _ _ _ _
      | exact dynamics_Times.mono _ _ _ _ _ _ _ _
      | exact railplankeep_Cells.mono _ _
      | exact LeO.none _
      | refine LeO.ite ?_ ?_
      | refine LeO.bind ?_ (fun _ => ?_)
theorem railplanlaw6_DynamicsFasterIsNotLater.mono : ∀ a0 a1 a2 a3 a4 k, LeO (railplanlaw6_DynamicsFasterIsNotLater.f k a0 a1 a2 a3 a4) (railplanlaw6_DynamicsFasterIsNotLater.f (k + 1) a0 a1 a2 a3 a4) := by
  intro a0 a1 a2 a3 a4 k
  obtain ⟨ih0, ih1, ih2⟩ := railplanlaw6_DynamicsFasterIsNotLater.mono_l k
  unfold railplanlaw6_DynamicsFasterIsNotLater.f
  repeat' first
      | (with_reducible exact ih0 _ _ _ _ _ _ _ _ _ _ _ _)
      | (with_reducible exact ih1 _ _ _)
      | (with_reducible exact ih2 _ _ _ _)
      | (with_reducible exact dynamics_Times.mono _ _ _ _ _ _ _ _)
      | (with_reducible exact railplankeep_Cells.mono _ _)
      | (with_reducible exact LeO.refl _)
      | (with_reducible exact LeO.none _)
      | (with_reducible refine LeO.ite ?_ ?_)
      | (with_reducible refine LeO.bind ?_ (fun _ => ?_))
      | exact ih0 _ _ _ _ _ _ _ _ _ _ _ _
      | exact ih1 _ _ _
      | exact ih2 _ _ _ _
      | exact dynamics_Times.mono _ _ _ _ _ _ _ _
      | exact railplankeep_Cells.mono _ _
      | exact LeO.none _
      | refine LeO.ite ?_ ?_
      | refine LeO.bind ?_ (fun _ => ?_)
def railplanlaw6_DynamicsFasterIsNotLater.T7 : Bool × List (List Nat × List Nat) := (true, [([], []), ([0], [0]), ([], []), ([2], [2]), ([1, 3], [1, 3]), ([4], [4]), ([0, 1, 2, 3, 4, 5], []), ([6, 5, 3, 0, 1, 2, 3, 4, 5], [5, 6])])
def railplanlaw6_DynamicsFasterIsNotLater.B7 : List Nat := [0, 1, 0, 4, 15, 31, 63, 127]
theorem railplanlaw6_DynamicsFasterIsNotLater.tab7 : rtab .any (opsOf Try.f5 7) = railplanlaw6_DynamicsFasterIsNotLater.T7 := by kernel_rfl
theorem railplanlaw6_DynamicsFasterIsNotLater.bits7 : waitsOk railplanlaw6_DynamicsFasterIsNotLater.T7.2 railplanlaw6_DynamicsFasterIsNotLater.B7 = true := by kernel_rfl
def railplanlaw6_DynamicsFasterIsNotLater.T9 : Bool × List (List Nat × List Nat) := (true, [([], []), ([0], [0]), ([], []), ([2], [2]), ([1, 3], [1, 3]), ([4], [4]), ([0, 1, 2, 3, 4, 5], []), ([6, 5, 3, 0, 1, 2, 3, 4, 5], [5, 6])])
def railplanlaw6_DynamicsFasterIsNotLater.B9 : List Nat := [0, 1, 0, 4, 15, 31, 63, 127]
theorem railplanlaw6_DynamicsFasterIsNotLater.tab9 : rtab .any (opsOf Try.f5 9) = railplanlaw6_DynamicsFasterIsNotLater.T9 := by kernel_rfl
theorem railplanlaw6_DynamicsFasterIsNotLater.bits9 : waitsOk railplanlaw6_DynamicsFasterIsNotLater.T9.2 railplanlaw6_DynamicsFasterIsNotLater.B9 = true := by kernel_rfl
def railplanlaw6_DynamicsFasterIsNotLater.T11 : Bool × List (List Nat × List Nat) := (true, [([], []), ([0], [0]), ([], []), ([2], [2]), ([1, 3], [1, 3]), ([4], [4]), ([0, 1, 2, 3, 4, 5], []), ([6, 5, 3, 0, 1, 2, 3, 4, 5], [5, 6])])
def railplanlaw6_DynamicsFasterIsNotLater.B11 : List Nat := [0, 1, 0, 4, 15, 31, 63, 127]
theorem railplanlaw6_DynamicsFasterIsNotLater.tab11 : rtab .any (opsOf Try.f5 11) = railplanlaw6_DynamicsFasterIsNotLater.T11 := by kernel_rfl
theorem railplanlaw6_DynamicsFasterIsNotLater.bits11 : waitsOk railplanlaw6_DynamicsFasterIsNotLater.T11.2 railplanlaw6_DynamicsFasterIsNotLater.B11 = true := by kernel_rfl
def railplanlaw6_DynamicsFasterIsNotLater.T19 : Bool × List (List Nat × List Nat) := (true, [([], []), ([], []), ([0, 1], [0, 1]), ([2], [2]), ([], []), ([], []), ([4, 5], [4, 5]), ([6], [6]), ([3, 7], [3, 7])])
def railplanlaw6_DynamicsFasterIsNotLater.B19 : List Nat := [0, 0, 3, 7, 0, 0, 48, 112, 255]
theorem railplanlaw6_DynamicsFasterIsNotLater.tab19 : rtab .any (opsOf Try.f5 19) = railplanlaw6_DynamicsFasterIsNotLater.T19 := by kernel_rfl
theorem railplanlaw6_DynamicsFasterIsNotLater.bits19 : waitsOk railplanlaw6_DynamicsFasterIsNotLater.T19.2 railplanlaw6_DynamicsFasterIsNotLater.B19 = true := by kernel_rfl
set_option maxHeartbeats 8000000 in
set_option maxRecDepth 100000 in
theorem railplanlaw6_DynamicsFasterIsNotLater.calls (k : Nat) (A0 : Option Addr) (c0 : Nat) (l0 : List Int) (A1 : Option Addr) (c1 : Nat) (l1 : List Int) (a2 : Int) (a3 : Int) (a4 : Int) (r : Bool) (w : World) (hr0 : Kd.C (Kd.int .i64) w A0 l0.length l0) (hc0 : l0.length ≤ c0) (hr1 : Kd.C (Kd.int .i64) w A1 l1.length l1) (hc1 : l1.length ≤ c1) (h : railplanlaw6_DynamicsFasterIsNotLater.f k l0 l1 a2 a3 a4 = some r) :
    Calls Try.prog 5 #[.slice A0 l0.length c0, .slice A1 l1.length c1, .int .i64 a2, .int .i64 a3, .int .i64 a4] w fun e w' => e = .returned (.bool r) ∧ Below w.heap.size w w' := by
  have hu26 := Try.underlying26
  have HR0 := Aside0.mk hr0
  have HC0 := Aside0.mk hc0
  clear hr0 hc0
  have HR1 := Aside0.mk hr1
  have HC1 := Aside0.mk hc1
  clear hr1 hc1
  have HB := Aside0.mk (Below.refl w.heap.size w)
  have H : ((railplankeep_Cells.f k l0).bind fun t188 => ((railplankeep_Stock.f l1).bind fun bt191 => (if (t188.length : Int) < 2 then ((dynamics_Check.f bt191.1 bt191.2.1 bt191.2.2.1 bt191.2.2.2.1 bt191.2.2.2.2).bind fun t197 => (some t197)) else ((railplankeep_Pick.f a2 (wrap64 ((t188.length : Int) - 1))).bind fun t198 => ((railplankeep_Pick.f a3 3).bind fun t200 => (if t200 = 0 then ((railplankeep_Pick.f a4 30000).bind fun t201 => (railplanlaw6_DynamicsFasterIsNotLater.j0 k t198 t188 bt191.1 bt191.2.1 bt191.2.2.1 bt191.2.2.2.1 bt191.2.2.2.2 bt191.1 bt191.2.1 (mn 100000 (wrap64 (bt191.2.2.1 + t201))) bt191.2.2.2.1 bt191.2.2.2.2)) else (if t200 = 1 then ((railplankeep_Pick.f a4 1000).bind fun t202 => (railplanlaw6_DynamicsFasterIsNotLater.j0 k t198 t188 bt191.1 bt191.2.1 bt191.2.2.1 bt191.2.2.2.1 bt191.2.2.2.2 bt191.1 bt191.2.1 bt191.2.2.1 (mn 2000 (wrap64 (bt191.2.2.2.1 + t202))) bt191.2.2.2.2)) else ((railplankeep_Pick.f a4 1000).bind fun t203 => (railplanlaw6_DynamicsFasterIsNotLater.j0 k t198 t188 bt191.1 bt191.2.1 bt191.2.2.1 bt191.2.2.2.1 bt191.2.2.2.2 bt191.1 bt191.2.1 bt191.2.2.1 bt191.2.2.2.1 (mn 2000 (wrap64 (bt191.2.2.2.2 + t203)))))))))))) = some r := h
  clear h
  replace H := Option.bind_eq_some_iff.mp H
  obtain ⟨t188, A60, H⟩ := H
  replace H : ((railplankeep_Stock.f l1).bind fun bt191 => (if (t188.length : Int) < 2 then ((dynamics_Check.f bt191.1 bt191.2.1 bt191.2.2.1 bt191.2.2.2.1 bt191.2.2.2.2).bind fun t197 => (some t197)) else ((railplankeep_Pick.f a2 (wrap64 ((t188.length : Int) - 1))).bind fun t198 => ((railplankeep_Pick.f a3 3).bind fun t200 => (if t200 = 0 then ((railplankeep_Pick.f a4 30000).bind fun t201 => (railplanlaw6_DynamicsFasterIsNotLater.j0 k t198 t188 bt191.1 bt191.2.1 bt191.2.2.1 bt191.2.2.2.1 bt191.2.2.2.2 bt191.1 bt191.2.1 (mn 100000 (wrap64 (bt191.2.2.1 + t201))) bt191.2.2.2.1 bt191.2.2.2.2)) else (if t200 = 1 then ((railplankeep_Pick.f a4 1000).bind fun t202 => (railplanlaw6_DynamicsFasterIsNotLater.j0 k t198 t188 bt191.1 bt191.2.1 bt191.2.2.1 bt191.2.2.2.1 bt191.2.2.2.2 bt191.1 bt191.2.1 bt191.2.2.1 (mn 2000 (wrap64 (bt191.2.2.2.1 + t202))) bt191.2.2.2.2)) else ((railplankeep_Pick.f a4 1000).bind fun t203 => (railplanlaw6_DynamicsFasterIsNotLater.j0 k t198 t188 bt191.1 bt191.2.1 bt191.2.2.1 bt191.2.2.2.1 bt191.2.2.2.2 bt191.1 bt191.2.1 bt191.2.2.1 bt191.2.2.2.1 (mn 2000 (wrap64 (bt191.2.2.2.2 + t203))))))))))) = some r := H
  have A6 := Aside0.mk A60
  clear A60
  replace H := Option.bind_eq_some_iff.mp H
  obtain ⟨⟨t191, t192, t193, t194, t195⟩, A70, H⟩ := H
  replace H : (if (t188.length : Int) < 2 then ((dynamics_Check.f t191 t192 t193 t194 t195).bind fun t197 => (some t197)) else ((railplankeep_Pick.f a2 (wrap64 ((t188.length : Int) - 1))).bind fun t198 => ((railplankeep_Pick.f a3 3).bind fun t200 => (if t200 = 0 then ((railplankeep_Pick.f a4 30000).bind fun t201 => (railplanlaw6_DynamicsFasterIsNotLater.j0 k t198 t188 t191 t192 t193 t194 t195 t191 t192 (mn 100000 (wrap64 (t193 + t201))) t194 t195)) else (if t200 = 1 then ((railplankeep_Pick.f a4 1000).bind fun t202 => (railplanlaw6_DynamicsFasterIsNotLater.j0 k t198 t188 t191 t192 t193 t194 t195 t191 t192 t193 (mn 2000 (wrap64 (t194 + t202))) t195)) else ((railplankeep_Pick.f a4 1000).bind fun t203 => (railplanlaw6_DynamicsFasterIsNotLater.j0 k t198 t188 t191 t192 t193 t194 t195 t191 t192 t193 t194 (mn 2000 (wrap64 (t195 + t203)))))))))) = some r := H
  have A7 := Aside0.mk A70
  clear A70
  by_cases c8 : (t188.length : Int) < 2
  · rw [if_pos c8] at H
    have c8b0 : decide ((t188.length : Int) < 2) = true := decide_eq_true c8
    have c8b1 : decide (t188.length < 2) = true := decide_eq_true (by omega)
    clear c8
    replace H := Option.bind_eq_some_iff.mp H
    obtain ⟨t197, A90, H⟩ := H
    replace H : (some t197) = some r := H
    have A9 := Aside0.mk A90
    clear A90
    obtain rfl := Option.some.inj H
    go_enter Try.func5, Try.ntmps5
    go_wp2_with (first | ((with_reducible refine gate_callee (f := 13) rfl ?_); refine goesL_ (some 20) rfl rfl Try.func13 (by kernel_rfl) rfl #[.slice A0 l0.length c0] rfl (by (try simp only [List.map_toArray, List.map_cons, List.map_nil]); first | done | rfl | (simp only [List.length_drop, List.length_take]; rfl)) ?_; (with_reducible refine (railplankeep_Cells.calls k _ _ l0 t188 _ ?side1 ?side2 A6.out).mono ?_); (case side1 => repeat (first | exact HR0.out | (with_reducible refine Kd.C_alloc ?_ _) | (with_reducible refine Kd.C_drewN ?_ _) | (with_reducible refine Kd.C_drew ?_))); (case side2 => exact HC0.out); rintro e w10 ⟨v189, rfl, ho0, hb⟩; refine ⟨_, rfl, ?_⟩; have n0_ := Aside0.mk (Kd.R_lower ho0 (below_size (by repeat (first | (with_reducible first | exact HB.out | apply below_alloc | apply pw_below_drewN | apply below_drew1) | exact HB.out)))); have n1_ := Aside0.mk (below_step (by repeat (first | (with_reducible first | exact HB.out | apply below_alloc | apply pw_below_drewN | apply below_drew1) | exact HB.out)) hb); clear HB; have HO190 := n0_; have HB := n1_; clear n0_ n1_; (try clear hb); (try clear hb2); (try clear hk); (try clear hi); (try clear ho0)) | ((with_reducible refine gate_callee (f := 14) rfl ?_); refine goesL_ (some 22) rfl rfl Try.func14 (by kernel_rfl) rfl #[.slice A1 l1.length c1] rfl (by (try simp only [List.map_toArray, List.map_cons, List.map_nil]); first | done | rfl | (simp only [List.length_drop, List.length_take]; rfl)) ?_; (with_reducible refine (railplankeep_Stock.calls _ _ l1 t191 t192 t193 t194 t195 _ ?side1 ?side2 A7.out).mono ?_); (case side1 => repeat (first | exact (Kd.C_below HR1.out HB.out) | (with_reducible refine Kd.C_alloc ?_ _) | (with_reducible refine Kd.C_drewN ?_ _) | (with_reducible refine Kd.C_drew ?_))); (case side2 => exact HC1.out); rintro e w11 ⟨rfl, hb⟩; refine ⟨_, rfl, ?_⟩; have n0_ := Aside0.mk (Kd.R_below (by (with_reducible repeat (first | apply Kd.R_alloc | apply Kd.R_drewN | apply Kd.R_drew)); exact HO190.out) hb); have n1_ := Aside0.mk (below_step (by repeat (first | (with_reducible first | exact HB.out | apply below_alloc | apply pw_below_drewN | apply below_drew1) | exact HB.out)) hb); clear HO190; clear HB; have HO190 := n0_; have HB := n1_; clear n0_ n1_; (try clear hb); (try clear hb2); (try clear hk); (try clear hi)) | ((with_reducible refine gate_dst (N := 12) rfl ?_); (try (refine gate_guard (by rfl) ?_; dsimp only)); refine box_event ?hg (N := 12) ?hd (cs := #[.string (⟨#[]⟩ : ByteArray), .int .i64 0, .int .i64 0, .int .i64 0, .int .i64 0]) (t := 26) ?hr ?_; (case hd => rfl); (case hg => rfl); (case hr => first | (go_simp; done) | (go_simp; rfl)); intro gb196 hg w12 hbox hb; have n0_ := Aside0.mk (Kd.R_below (by (with_reducible repeat (first | apply Kd.R_alloc | apply Kd.R_drewN | apply Kd.R_drew)); exact HO190.out) hb); have n1_ := Aside0.mk (below_step (by repeat (first | (with_reducible first | exact HB.out | apply below_alloc | apply pw_below_drewN | apply below_drew1) | exact HB.out)) hb); have n2_ := Aside0.mk (hbox); have n3_ := Aside0.mk ((by rw [hg]; exact (below_size (by repeat (first | (with_reducible first | exact HB.out | apply below_alloc | apply pw_below_drewN | apply below_drew1) | exact HB.out))) : w.heap.size ≤ gb196)); have n4_ := Aside0.mk ((by rw [hg]; exact (below_size (by repeat (first | (with_reducible first | exact HB.out | apply below_alloc | apply pw_below_drewN | apply below_drew1) | exact HB.out))) : w.heap.size ≤ gb196)); clear HO190; clear HB; have HO190 := n0_; have HB := n1_; have BK196 := n2_; have GW196 := n3_; have GE196 := n4_; clear n0_ n1_ n2_ n3_ n4_; clear hb hbox hg; have hcz13_0 : w12.cell? ⟨gb196, 0, none⟩ = some (.string (⟨#[]⟩ : ByteArray)) := (blk_cell BK196.out 0).trans rfl; have hcz13_1 : w12.cell? ⟨gb196, 1, none⟩ = some (.int .i64 0) := (blk_cell BK196.out 1).trans rfl; have hcz13_2 : w12.cell? ⟨gb196, 2, none⟩ = some (.int .i64 0) := (blk_cell BK196.out 2).trans rfl; have hcz13_3 : w12.cell? ⟨gb196, 3, none⟩ = some (.int .i64 0) := (blk_cell BK196.out 3).trans rfl; have hcz13_4 : w12.cell? ⟨gb196, 4, none⟩ = some (.int .i64 0) := (blk_cell BK196.out 4).trans rfl; have hfz13_0 := blk_frozen BK196.out 0; have hfz13_1 := blk_frozen BK196.out 1; have hfz13_2 := blk_frozen BK196.out 2; have hfz13_3 := blk_frozen BK196.out 3; have hfz13_4 := blk_frozen BK196.out 4; obtain ⟨Ao14, co14, eo14⟩ := Kd.R_slice HO190.out; subst eo14) | ((with_reducible refine gate_callee (f := 15) rfl ?_); refine goesL_ (some 27) rfl rfl Try.func15 (by kernel_rfl) rfl #[.agg #[.string t191, .int .i64 t192, .int .i64 t193, .int .i64 t194, .int .i64 t195]] rfl (by (try simp only [List.map_toArray, List.map_cons, List.map_nil]); first | done | rfl | (simp only [List.length_drop, List.length_take]; rfl)) ?_; (with_reducible refine (dynamics_Check.calls t191 t192 t193 t194 t195 t197 _ A9.out).mono ?_); rintro e w15 ⟨rfl, hb⟩; refine ⟨_, rfl, ?_⟩; have n0_ := Aside0.mk (Kd.R_below (by (with_reducible repeat (first | apply Kd.R_alloc | apply Kd.R_drewN | apply Kd.R_drew)); exact (Kd.R_mono (Kd.R_far (p := ⟨gb196, 4, none⟩) (Kd.R_far (p := ⟨gb196, 3, none⟩) (Kd.R_far (p := ⟨gb196, 2, none⟩) (Kd.R_far (p := ⟨gb196, 1, none⟩) (Kd.R_far (p := ⟨gb196, 0, none⟩) (Kd.R_types HO190.out BK196.out (by decide)) (fun _ hk => hk.2) (.string t191)) (fun _ hk => hk.2) (.int .i64 t192)) (fun _ hk => hk.2) (.int .i64 t193)) (fun _ hk => hk.2) (.int .i64 t194)) (fun _ hk => hk.2) (.int .i64 t195)) (fun _ h_ => h_.1))) hb); have n1_ := Aside0.mk (blk_below (g := gb196) (o := .cells #[.string t191, .int .i64 t192, .int .i64 t193, .int .i64 t194, .int .i64 t195] 26 (0, 0)) (by (with_reducible repeat (first | refine blk_drewN ?_ _ | refine blk_drew ?_ | refine blk_alloc ?_ _)); refine blk_put (cs := #[.string t191, .int .i64 t192, .int .i64 t193, .int .i64 t194, .int .i64 0]) ?_ 4 _ rfl; (with_reducible repeat (first | refine blk_drewN ?_ _ | refine blk_drew ?_ | refine blk_alloc ?_ _)); refine blk_put (cs := #[.string t191, .int .i64 t192, .int .i64 t193, .int .i64 0, .int .i64 0]) ?_ 3 _ rfl; (with_reducible repeat (first | refine blk_drewN ?_ _ | refine blk_drew ?_ | refine blk_alloc ?_ _)); refine blk_put (cs := #[.string t191, .int .i64 t192, .int .i64 0, .int .i64 0, .int .i64 0]) ?_ 2 _ rfl; (with_reducible repeat (first | refine blk_drewN ?_ _ | refine blk_drew ?_ | refine blk_alloc ?_ _)); refine blk_put (cs := #[.string t191, .int .i64 0, .int .i64 0, .int .i64 0, .int .i64 0]) ?_ 1 _ rfl; (with_reducible repeat (first | refine blk_drewN ?_ _ | refine blk_drew ?_ | refine blk_alloc ?_ _)); refine blk_put (cs := #[.string (⟨#[]⟩ : ByteArray), .int .i64 0, .int .i64 0, .int .i64 0, .int .i64 0]) ?_ 0 _ rfl; (with_reducible repeat (first | refine blk_drewN ?_ _ | refine blk_drew ?_ | refine blk_alloc ?_ _)); exact BK196.out) hb); have n2_ := Aside0.mk (below_step (by repeat (first | (with_reducible first | exact HB.out | apply below_alloc | apply pw_below_drewN | apply below_drew1 | refine below_set ?_ GE196.out) | exact HB.out)) hb); clear HO190; clear BK196; clear HB; have HO190 := n0_; have BK196 := n1_; have HB := n2_; clear n0_ n1_ n2_; (try clear hb); (try clear hb2); (try clear hk); (try clear hi)))
    go_ret
    exact ⟨by first | rfl | (simp [errW_none, errW_some] <;> rfl) | (simp [*, errW_none, errW_some] <;> rfl), by repeat (first | (with_reducible first | exact HB.out | apply below_alloc | apply pw_below_drewN | apply below_drew1 | refine below_set ?_ GE196.out) | exact HB.out)⟩
  · rw [if_neg c8] at H
    have c8b0 : decide ((t188.length : Int) < 2) = false := decide_eq_false c8
    have c8b1 : decide (t188.length < 2) = false := decide_eq_false (by omega)
    clear c8
    replace H := Option.bind_eq_some_iff.mp H
    obtain ⟨t198, A160, H⟩ := H
    replace H : ((railplankeep_Pick.f a3 3).bind fun t200 => (if t200 = 0 then ((railplankeep_Pick.f a4 30000).bind fun t201 => (railplanlaw6_DynamicsFasterIsNotLater.j0 k t198 t188 t191 t192 t193 t194 t195 t191 t192 (mn 100000 (wrap64 (t193 + t201))) t194 t195)) else (if t200 = 1 then ((railplankeep_Pick.f a4 1000).bind fun t202 => (railplanlaw6_DynamicsFasterIsNotLater.j0 k t198 t188 t191 t192 t193 t194 t195 t191 t192 t193 (mn 2000 (wrap64 (t194 + t202))) t195)) else ((railplankeep_Pick.f a4 1000).bind fun t203 => (railplanlaw6_DynamicsFasterIsNotLater.j0 k t198 t188 t191 t192 t193 t194 t195 t191 t192 t193 t194 (mn 2000 (wrap64 (t195 + t203)))))))) = some r := H
    have A16 := Aside0.mk A160
    clear A160
    replace H := Option.bind_eq_some_iff.mp H
    obtain ⟨t200, A170, H⟩ := H
    replace H : (if t200 = 0 then ((railplankeep_Pick.f a4 30000).bind fun t201 => (railplanlaw6_DynamicsFasterIsNotLater.j0 k t198 t188 t191 t192 t193 t194 t195 t191 t192 (mn 100000 (wrap64 (t193 + t201))) t194 t195)) else (if t200 = 1 then ((railplankeep_Pick.f a4 1000).bind fun t202 => (railplanlaw6_DynamicsFasterIsNotLater.j0 k t198 t188 t191 t192 t193 t194 t195 t191 t192 t193 (mn 2000 (wrap64 (t194 + t202))) t195)) else ((railplankeep_Pick.f a4 1000).bind fun t203 => (railplanlaw6_DynamicsFasterIsNotLater.j0 k t198 t188 t191 t192 t193 t194 t195 t191 t192 t193 t194 (mn 2000 (wrap64 (t195 + t203))))))) = some r := H
    have A17 := Aside0.mk A170
    clear A170
    have HC18 := Aside0.mk H
    clear H
    go_enter Try.func5, Try.ntmps5
    go_upto_block 0 with (first | ((with_reducible refine gate_callee (f := 13) rfl ?_); refine goesL_ (some 20) rfl rfl Try.func13 (by kernel_rfl) rfl #[.slice A0 l0.length c0] rfl (by (try simp only [List.map_toArray, List.map_cons, List.map_nil]); first | done | rfl | (simp only [List.length_drop, List.length_take]; rfl)) ?_; (with_reducible refine (railplankeep_Cells.calls k _ _ l0 t188 _ ?side1 ?side2 A6.out).mono ?_); (case side1 => repeat (first | exact HR0.out | (with_reducible refine Kd.C_alloc ?_ _) | (with_reducible refine Kd.C_drewN ?_ _) | (with_reducible refine Kd.C_drew ?_))); (case side2 => exact HC0.out); rintro e w19 ⟨v189, rfl, ho0, hb⟩; refine ⟨_, rfl, ?_⟩; have n0_ := Aside0.mk (Kd.R_lower ho0 (below_size (by repeat (first | (with_reducible first | exact HB.out | apply below_alloc | apply pw_below_drewN | apply below_drew1) | exact HB.out)))); have n1_ := Aside0.mk (below_step (by repeat (first | (with_reducible first | exact HB.out | apply below_alloc | apply pw_below_drewN | apply below_drew1) | exact HB.out)) hb); clear HB; have HO190 := n0_; have HB := n1_; clear n0_ n1_; (try clear hb); (try clear hb2); (try clear hk); (try clear hi); (try clear ho0)) | ((with_reducible refine gate_callee (f := 14) rfl ?_); refine goesL_ (some 22) rfl rfl Try.func14 (by kernel_rfl) rfl #[.slice A1 l1.length c1] rfl (by (try simp only [List.map_toArray, List.map_cons, List.map_nil]); first | done | rfl | (simp only [List.length_drop, List.length_take]; rfl)) ?_; (with_reducible refine (railplankeep_Stock.calls _ _ l1 t191 t192 t193 t194 t195 _ ?side1 ?side2 A7.out).mono ?_); (case side1 => repeat (first | exact (Kd.C_below HR1.out HB.out) | (with_reducible refine Kd.C_alloc ?_ _) | (with_reducible refine Kd.C_drewN ?_ _) | (with_reducible refine Kd.C_drew ?_))); (case side2 => exact HC1.out); rintro e w20 ⟨rfl, hb⟩; refine ⟨_, rfl, ?_⟩; have n0_ := Aside0.mk (Kd.R_below (by (with_reducible repeat (first | apply Kd.R_alloc | apply Kd.R_drewN | apply Kd.R_drew)); exact HO190.out) hb); have n1_ := Aside0.mk (below_step (by repeat (first | (with_reducible first | exact HB.out | apply below_alloc | apply pw_below_drewN | apply below_drew1) | exact HB.out)) hb); clear HO190; clear HB; have HO190 := n0_; have HB := n1_; clear n0_ n1_; (try clear hb); (try clear hb2); (try clear hk); (try clear hi)) | ((with_reducible refine gate_dst (N := 12) rfl ?_); (try (refine gate_guard (by rfl) ?_; dsimp only)); refine box_event ?hg (N := 12) ?hd (cs := #[.string (⟨#[]⟩ : ByteArray), .int .i64 0, .int .i64 0, .int .i64 0, .int .i64 0]) (t := 26) ?hr ?_; (case hd => rfl); (case hg => rfl); (case hr => first | (go_simp; done) | (go_simp; rfl)); intro gb196 hg w21 hbox hb; have n0_ := Aside0.mk (Kd.R_below (by (with_reducible repeat (first | apply Kd.R_alloc | apply Kd.R_drewN | apply Kd.R_drew)); exact HO190.out) hb); have n1_ := Aside0.mk (below_step (by repeat (first | (with_reducible first | exact HB.out | apply below_alloc | apply pw_below_drewN | apply below_drew1) | exact HB.out)) hb); have n2_ := Aside0.mk (hbox); have n3_ := Aside0.mk ((by rw [hg]; exact (below_size (by repeat (first | (with_reducible first | exact HB.out | apply below_alloc | apply pw_below_drewN | apply below_drew1) | exact HB.out))) : w.heap.size ≤ gb196)); have n4_ := Aside0.mk ((by rw [hg]; exact (below_size (by repeat (first | (with_reducible first | exact HB.out | apply below_alloc | apply pw_below_drewN | apply below_drew1) | exact HB.out))) : w.heap.size ≤ gb196)); clear HO190; clear HB; have HO190 := n0_; have HB := n1_; have BK196 := n2_; have GW196 := n3_; have GE196 := n4_; clear n0_ n1_ n2_ n3_ n4_; clear hb hbox hg; have hcz22_0 : w21.cell? ⟨gb196, 0, none⟩ = some (.string (⟨#[]⟩ : ByteArray)) := (blk_cell BK196.out 0).trans rfl; have hcz22_1 : w21.cell? ⟨gb196, 1, none⟩ = some (.int .i64 0) := (blk_cell BK196.out 1).trans rfl; have hcz22_2 : w21.cell? ⟨gb196, 2, none⟩ = some (.int .i64 0) := (blk_cell BK196.out 2).trans rfl; have hcz22_3 : w21.cell? ⟨gb196, 3, none⟩ = some (.int .i64 0) := (blk_cell BK196.out 3).trans rfl; have hcz22_4 : w21.cell? ⟨gb196, 4, none⟩ = some (.int .i64 0) := (blk_cell BK196.out 4).trans rfl; have hfz22_0 := blk_frozen BK196.out 0; have hfz22_1 := blk_frozen BK196.out 1; have hfz22_2 := blk_frozen BK196.out 2; have hfz22_3 := blk_frozen BK196.out 3; have hfz22_4 := blk_frozen BK196.out 4; obtain ⟨Ao23, co23, eo23⟩ := Kd.R_slice HO190.out; subst eo23) | ((with_reducible refine gate_callee (f := 16) rfl ?_); refine goesL_ (some 32) rfl rfl Try.func16 (by kernel_rfl) rfl #[.int .i64 a2, .int .i64 (wrap64 ((t188.length : Int) - 1))] rfl (by (try simp only [List.map_toArray, List.map_cons, List.map_nil]); first | done | rfl | (simp only [List.length_drop, List.length_take]; rfl)) ?_; (with_reducible refine (railplankeep_Pick.calls a2 (wrap64 ((t188.length : Int) - 1)) t198 _ A16.out).mono ?_); rintro e w' ⟨rfl, ⟨nd, rfl⟩⟩; refine ⟨_, rfl, ?_⟩) | ((with_reducible refine gate_dst (N := 13) rfl ?_); (try (refine gate_guard (by rfl) ?_; dsimp only)); refine box_event ?hg (N := 13) ?hd (cs := #[.string (⟨#[]⟩ : ByteArray), .int .i64 0, .int .i64 0, .int .i64 0, .int .i64 0]) (t := 26) ?hr ?_; (case hd => rfl); (case hg => rfl); (case hr => first | (go_simp; done) | (go_simp; rfl)); intro gb199 hg w24 hbox hb; have n0_ := Aside0.mk (Kd.R_below (by (with_reducible repeat (first | apply Kd.R_alloc | apply Kd.R_drewN | apply Kd.R_drew)); exact (Kd.R_mono (Kd.R_far (p := ⟨gb196, 4, none⟩) (Kd.R_far (p := ⟨gb196, 3, none⟩) (Kd.R_far (p := ⟨gb196, 2, none⟩) (Kd.R_far (p := ⟨gb196, 1, none⟩) (Kd.R_far (p := ⟨gb196, 0, none⟩) (Kd.R_types HO190.out BK196.out (by decide)) (fun _ hk => hk.2) (.string t191)) (fun _ hk => hk.2) (.int .i64 t192)) (fun _ hk => hk.2) (.int .i64 t193)) (fun _ hk => hk.2) (.int .i64 t194)) (fun _ hk => hk.2) (.int .i64 t195)) (fun _ h_ => h_.1))) hb); have n1_ := Aside0.mk (blk_below (g := gb196) (o := .cells #[.string t191, .int .i64 t192, .int .i64 t193, .int .i64 t194, .int .i64 t195] 26 (0, 0)) (by (with_reducible repeat (first | refine blk_drewN ?_ _ | refine blk_drew ?_ | refine blk_alloc ?_ _)); refine blk_put (cs := #[.string t191, .int .i64 t192, .int .i64 t193, .int .i64 t194, .int .i64 0]) ?_ 4 _ rfl; (with_reducible repeat (first | refine blk_drewN ?_ _ | refine blk_drew ?_ | refine blk_alloc ?_ _)); refine blk_put (cs := #[.string t191, .int .i64 t192, .int .i64 t193, .int .i64 0, .int .i64 0]) ?_ 3 _ rfl; (with_reducible repeat (first | refine blk_drewN ?_ _ | refine blk_drew ?_ | refine blk_alloc ?_ _)); refine blk_put (cs := #[.string t191, .int .i64 t192, .int .i64 0, .int .i64 0, .int .i64 0]) ?_ 2 _ rfl; (with_reducible repeat (first | refine blk_drewN ?_ _ | refine blk_drew ?_ | refine blk_alloc ?_ _)); refine blk_put (cs := #[.string t191, .int .i64 0, .int .i64 0, .int .i64 0, .int .i64 0]) ?_ 1 _ rfl; (with_reducible repeat (first | refine blk_drewN ?_ _ | refine blk_drew ?_ | refine blk_alloc ?_ _)); refine blk_put (cs := #[.string (⟨#[]⟩ : ByteArray), .int .i64 0, .int .i64 0, .int .i64 0, .int .i64 0]) ?_ 0 _ rfl; (with_reducible repeat (first | refine blk_drewN ?_ _ | refine blk_drew ?_ | refine blk_alloc ?_ _)); exact BK196.out) hb); have n2_ := Aside0.mk (below_step (by repeat (first | (with_reducible first | exact HB.out | apply below_alloc | apply pw_below_drewN | apply below_drew1 | refine below_set ?_ GE196.out) | exact HB.out)) hb); have n3_ := Aside0.mk (hbox); have n4_ := Aside0.mk ((by rw [hg]; exact (below_size (by repeat (first | (with_reducible first | exact HB.out | apply below_alloc | apply pw_below_drewN | apply below_drew1 | refine below_set ?_ GE196.out) | exact HB.out))) : w.heap.size ≤ gb199)); have n5_ := Aside0.mk ((by rw [hg]; exact (below_size (by repeat (first | (with_reducible first | exact HB.out | apply below_alloc | apply pw_below_drewN | apply below_drew1 | refine below_set ?_ GE196.out) | exact HB.out))) : w.heap.size ≤ gb199)); have n6_ := Aside0.mk ((by rw [hg]; exact Nat.ne_of_lt (blk_lt (g := gb196) (o := .cells #[.string t191, .int .i64 t192, .int .i64 t193, .int .i64 t194, .int .i64 t195] 26 (0, 0)) (by (with_reducible repeat (first | refine blk_drewN ?_ _ | refine blk_drew ?_ | refine blk_alloc ?_ _)); refine blk_put (cs := #[.string t191, .int .i64 t192, .int .i64 t193, .int .i64 t194, .int .i64 0]) ?_ 4 _ rfl; (with_reducible repeat (first | refine blk_drewN ?_ _ | refine blk_drew ?_ | refine blk_alloc ?_ _)); refine blk_put (cs := #[.string t191, .int .i64 t192, .int .i64 t193, .int .i64 0, .int .i64 0]) ?_ 3 _ rfl; (with_reducible repeat (first | refine blk_drewN ?_ _ | refine blk_drew ?_ | refine blk_alloc ?_ _)); refine blk_put (cs := #[.string t191, .int .i64 t192, .int .i64 0, .int .i64 0, .int .i64 0]) ?_ 2 _ rfl; (with_reducible repeat (first | refine blk_drewN ?_ _ | refine blk_drew ?_ | refine blk_alloc ?_ _)); refine blk_put (cs := #[.string t191, .int .i64 0, .int .i64 0, .int .i64 0, .int .i64 0]) ?_ 1 _ rfl; (with_reducible repeat (first | refine blk_drewN ?_ _ | refine blk_drew ?_ | refine blk_alloc ?_ _)); refine blk_put (cs := #[.string (⟨#[]⟩ : ByteArray), .int .i64 0, .int .i64 0, .int .i64 0, .int .i64 0]) ?_ 0 _ rfl; (with_reducible repeat (first | refine blk_drewN ?_ _ | refine blk_drew ?_ | refine blk_alloc ?_ _)); exact BK196.out)) : gb196 ≠ gb199)); have n7_ := Aside0.mk ((by rw [hg]; exact Nat.ne_of_gt (blk_lt (g := gb196) (o := .cells #[.string t191, .int .i64 t192, .int .i64 t193, .int .i64 t194, .int .i64 t195] 26 (0, 0)) (by (with_reducible repeat (first | refine blk_drewN ?_ _ | refine blk_drew ?_ | refine blk_alloc ?_ _)); refine blk_put (cs := #[.string t191, .int .i64 t192, .int .i64 t193, .int .i64 t194, .int .i64 0]) ?_ 4 _ rfl; (with_reducible repeat (first | refine blk_drewN ?_ _ | refine blk_drew ?_ | refine blk_alloc ?_ _)); refine blk_put (cs := #[.string t191, .int .i64 t192, .int .i64 t193, .int .i64 0, .int .i64 0]) ?_ 3 _ rfl; (with_reducible repeat (first | refine blk_drewN ?_ _ | refine blk_drew ?_ | refine blk_alloc ?_ _)); refine blk_put (cs := #[.string t191, .int .i64 t192, .int .i64 0, .int .i64 0, .int .i64 0]) ?_ 2 _ rfl; (with_reducible repeat (first | refine blk_drewN ?_ _ | refine blk_drew ?_ | refine blk_alloc ?_ _)); refine blk_put (cs := #[.string t191, .int .i64 0, .int .i64 0, .int .i64 0, .int .i64 0]) ?_ 1 _ rfl; (with_reducible repeat (first | refine blk_drewN ?_ _ | refine blk_drew ?_ | refine blk_alloc ?_ _)); refine blk_put (cs := #[.string (⟨#[]⟩ : ByteArray), .int .i64 0, .int .i64 0, .int .i64 0, .int .i64 0]) ?_ 0 _ rfl; (with_reducible repeat (first | refine blk_drewN ?_ _ | refine blk_drew ?_ | refine blk_alloc ?_ _)); exact BK196.out)) : gb199 ≠ gb196)); clear HO190; clear BK196; clear HB; have HO190 := n0_; have BK196 := n1_; have HB := n2_; have BK199 := n3_; have GW199 := n4_; have GE199 := n5_; have NB196_199 := n6_; have NB199_196 := n7_; clear n0_ n1_ n2_ n3_ n4_ n5_ n6_ n7_; clear hb hbox hg; have hnb25 := NB199_196.out; have hnc25 := NB196_199.out; have hcz26_0 : w24.cell? ⟨gb199, 0, none⟩ = some (.string (⟨#[]⟩ : ByteArray)) := (blk_cell BK199.out 0).trans rfl; have hcz26_1 : w24.cell? ⟨gb199, 1, none⟩ = some (.int .i64 0) := (blk_cell BK199.out 1).trans rfl; have hcz26_2 : w24.cell? ⟨gb199, 2, none⟩ = some (.int .i64 0) := (blk_cell BK199.out 2).trans rfl; have hcz26_3 : w24.cell? ⟨gb199, 3, none⟩ = some (.int .i64 0) := (blk_cell BK199.out 3).trans rfl; have hcz26_4 : w24.cell? ⟨gb199, 4, none⟩ = some (.int .i64 0) := (blk_cell BK199.out 4).trans rfl; have hfz26_0 := blk_frozen BK199.out 0; have hfz26_1 := blk_frozen BK199.out 1; have hfz26_2 := blk_frozen BK199.out 2; have hfz26_3 := blk_frozen BK199.out 3; have hfz26_4 := blk_frozen BK199.out 4) | ((with_reducible refine gate_callee (f := 16) rfl ?_); refine goesL_ (some 35) rfl rfl Try.func16 (by kernel_rfl) rfl #[.int .i64 a3, .int .i64 3] rfl (by (try simp only [List.map_toArray, List.map_cons, List.map_nil]); first | done | rfl | (simp only [List.length_drop, List.length_take]; rfl)) ?_; (with_reducible refine (railplankeep_Pick.calls a3 3 t200 _ A17.out).mono ?_); rintro e w' ⟨rfl, ⟨nd, rfl⟩⟩; refine ⟨_, rfl, ?_⟩))
    (try simp only [Act.put, List.setIfInBounds_toArray, List.set_cons_zero, List.set_cons_succ])
    go_cut [] (fun wc => ∃ (kq : Nat) (x200002_17 : Int) (x200003_17 : Int) (x200004_17 : Int), Aside0 (railplanlaw6_DynamicsFasterIsNotLater.j0 kq t198 t188 t191 t192 t193 t194 t195 t191 t192 x200002_17 x200003_17 x200004_17 = some r) ∧ Aside0 (kq ≤ k) ∧ Aside0 (Kd.R k34 34 wc w.heap.size (fun _ => True) (.slice Ao23 t188.length co23) t188) ∧ Aside0 (wc.heap[gb196]? = some (.cells #[.string t191, .int .i64 t192, .int .i64 t193, .int .i64 t194, .int .i64 t195] 26 (0, 0))) ∧ Aside0 (wc.heap[gb199]? = some (.cells #[.string t191, .int .i64 t192, .int .i64 x200002_17, .int .i64 x200003_17, .int .i64 x200004_17] 26 (0, 0))) ∧ Aside0 (Below w.heap.size w wc))
    case first =>
      have H := HC18.out
      clear HC18
      by_cases c27 : t200 = 0
      · rw [if_pos c27] at H
        have c27b0 : (t200 == 0) = true := beq_iff_eq.mpr c27
        have c27b1 : (t200 != 0) = false := bne_eq_false_iff_eq.mpr c27
        clear c27
        (first | rw [c27b0] | (simp only [i64_w, i32_w]; rw [c27b0]) | skip)
        replace H := Option.bind_eq_some_iff.mp H
        obtain ⟨t201, A280, H⟩ := H
        replace H : (railplanlaw6_DynamicsFasterIsNotLater.j0 k t198 t188 t191 t192 t193 t194 t195 t191 t192 (mn 100000 (wrap64 (t193 + t201))) t194 t195) = some r := H
        have A28 := Aside0.mk A280
        clear A280
        obtain ⟨ji29, hji29⟩ : ∃ j_ : Int, (mn 100000 (wrap64 (t193 + t201))) = j_ := ⟨_, rfl⟩
        replace H : (railplanlaw6_DynamicsFasterIsNotLater.j0 k t198 t188 t191 t192 t193 t194 t195 t191 t192 ji29 t194 t195) = some r := by first | (rw [hji29] at H; exact H) | (simp only [hji29] at H ⊢; exact H)
        (try rw [hji29] at A28)
        (try (have hji29h : ji29 ≤ 100000 := by (rw [← hji29]; unfold mn; (repeat' split) <;> omega)))
        (try (have hji29g : ji29 ≤ 64 := by omega))
        have hji29_ : (if (wrap64 (t193 + t201)) < 100000 then (wrap64 (t193 + t201)) else 100000) = ji29 := hji29
        have H' := Aside0.mk H
        clear H
        try go_wp2
        have n0_ : Aside0 (Kd.R k34 34 (((((w24.setCell ⟨gb199, 0, none⟩ (.string t191)).setCell ⟨gb199, 1, none⟩ (.int .i64 t192)).setCell ⟨gb199, 2, none⟩ (.int .i64 t193)).setCell ⟨gb199, 3, none⟩ (.int .i64 t194)).setCell ⟨gb199, 4, none⟩ (.int .i64 t195)) w.heap.size (fun _ => True) (.slice Ao23 t188.length co23) t188) := ⟨by (with_reducible repeat (first | apply Kd.R_alloc | apply Kd.R_drewN | apply Kd.R_drew)); exact Kd.R_mono (Kd.R_far (p := ⟨gb199, 4, none⟩) (Kd.R_far (p := ⟨gb199, 3, none⟩) (Kd.R_far (p := ⟨gb199, 2, none⟩) (Kd.R_far (p := ⟨gb199, 1, none⟩) (Kd.R_far (p := ⟨gb199, 0, none⟩) (Kd.R_types HO190.out BK199.out (by decide)) (fun _ hk => hk.2) (.string t191)) (fun _ hk => hk.2) (.int .i64 t192)) (fun _ hk => hk.2) (.int .i64 t193)) (fun _ hk => hk.2) (.int .i64 t194)) (fun _ hk => hk.2) (.int .i64 t195)) (fun _ hk => trivial)⟩
        have n1_ : Aside0 ((((((w24.setCell ⟨gb199, 0, none⟩ (.string t191)).setCell ⟨gb199, 1, none⟩ (.int .i64 t192)).setCell ⟨gb199, 2, none⟩ (.int .i64 t193)).setCell ⟨gb199, 3, none⟩ (.int .i64 t194)).setCell ⟨gb199, 4, none⟩ (.int .i64 t195)).heap[gb196]? = some (.cells #[.string t191, .int .i64 t192, .int .i64 t193, .int .i64 t194, .int .i64 t195] 26 (0, 0))) := ⟨by (with_reducible repeat (first | refine blk_drewN ?_ _ | refine blk_drew ?_ | refine blk_alloc ?_ _)); refine blk_far ?_ NB196_199.out _; (with_reducible repeat (first | refine blk_drewN ?_ _ | refine blk_drew ?_ | refine blk_alloc ?_ _)); refine blk_far ?_ NB196_199.out _; (with_reducible repeat (first | refine blk_drewN ?_ _ | refine blk_drew ?_ | refine blk_alloc ?_ _)); refine blk_far ?_ NB196_199.out _; (with_reducible repeat (first | refine blk_drewN ?_ _ | refine blk_drew ?_ | refine blk_alloc ?_ _)); refine blk_far ?_ NB196_199.out _; (with_reducible repeat (first | refine blk_drewN ?_ _ | refine blk_drew ?_ | refine blk_alloc ?_ _)); refine blk_far ?_ NB196_199.out _; (with_reducible repeat (first | refine blk_drewN ?_ _ | refine blk_drew ?_ | refine blk_alloc ?_ _)); exact BK196.out⟩
        have n2_ : Aside0 ((((((w24.setCell ⟨gb199, 0, none⟩ (.string t191)).setCell ⟨gb199, 1, none⟩ (.int .i64 t192)).setCell ⟨gb199, 2, none⟩ (.int .i64 t193)).setCell ⟨gb199, 3, none⟩ (.int .i64 t194)).setCell ⟨gb199, 4, none⟩ (.int .i64 t195)).heap[gb199]? = some (.cells #[.string t191, .int .i64 t192, .int .i64 t193, .int .i64 t194, .int .i64 t195] 26 (0, 0))) := ⟨by (with_reducible repeat (first | refine blk_drewN ?_ _ | refine blk_drew ?_ | refine blk_alloc ?_ _)); refine blk_put (cs := #[.string t191, .int .i64 t192, .int .i64 t193, .int .i64 t194, .int .i64 0]) ?_ 4 _ rfl; (with_reducible repeat (first | refine blk_drewN ?_ _ | refine blk_drew ?_ | refine blk_alloc ?_ _)); refine blk_put (cs := #[.string t191, .int .i64 t192, .int .i64 t193, .int .i64 0, .int .i64 0]) ?_ 3 _ rfl; (with_reducible repeat (first | refine blk_drewN ?_ _ | refine blk_drew ?_ | refine blk_alloc ?_ _)); refine blk_put (cs := #[.string t191, .int .i64 t192, .int .i64 0, .int .i64 0, .int .i64 0]) ?_ 2 _ rfl; (with_reducible repeat (first | refine blk_drewN ?_ _ | refine blk_drew ?_ | refine blk_alloc ?_ _)); refine blk_put (cs := #[.string t191, .int .i64 0, .int .i64 0, .int .i64 0, .int .i64 0]) ?_ 1 _ rfl; (with_reducible repeat (first | refine blk_drewN ?_ _ | refine blk_drew ?_ | refine blk_alloc ?_ _)); refine blk_put (cs := #[.string (⟨#[]⟩ : ByteArray), .int .i64 0, .int .i64 0, .int .i64 0, .int .i64 0]) ?_ 0 _ rfl; (with_reducible repeat (first | refine blk_drewN ?_ _ | refine blk_drew ?_ | refine blk_alloc ?_ _)); exact BK199.out⟩
        have n3_ : Aside0 (Below w.heap.size w (((((w24.setCell ⟨gb199, 0, none⟩ (.string t191)).setCell ⟨gb199, 1, none⟩ (.int .i64 t192)).setCell ⟨gb199, 2, none⟩ (.int .i64 t193)).setCell ⟨gb199, 3, none⟩ (.int .i64 t194)).setCell ⟨gb199, 4, none⟩ (.int .i64 t195))) := ⟨by repeat (first | (with_reducible first | exact HB.out | apply below_alloc | apply pw_below_drewN | apply below_drew1 | refine below_set ?_ GE196.out | refine below_set ?_ GE199.out) | exact HB.out)⟩
        (try clear HO190)
        (try clear BK196)
        (try clear BK199)
        (try clear HB)
        generalize (((((w24.setCell ⟨gb199, 0, none⟩ (.string t191)).setCell ⟨gb199, 1, none⟩ (.int .i64 t192)).setCell ⟨gb199, 2, none⟩ (.int .i64 t193)).setCell ⟨gb199, 3, none⟩ (.int .i64 t194)).setCell ⟨gb199, 4, none⟩ (.int .i64 t195)) = w30 at n0_ n1_ n2_ n3_ ⊢
        have HO190 := n0_
        have BK196 := n1_
        have BK199 := n2_
        have HB := n3_
        clear n0_ n1_ n2_ n3_
        have n0_ := Aside0.mk (Kd.R_drewN HO190.out nd)
        have n1_ := Aside0.mk (blk_drewN BK196.out nd)
        have n2_ := Aside0.mk (blk_drewN BK199.out nd)
        have n3_ := Aside0.mk (pw_below_drewN HB.out nd)
        clear HO190 BK196 BK199 HB
        generalize World.drewN w30 nd = w30 at n0_ n1_ n2_ n3_ ⊢
        have HO190 := n0_
        have BK196 := n1_
        have BK199 := n2_
        have HB := n3_
        clear n0_ n1_ n2_ n3_
        have n0_ := Aside0.mk (Kd.R_drew HO190.out)
        have n1_ := Aside0.mk (blk_drew BK196.out)
        have n2_ := Aside0.mk (blk_drew BK199.out)
        have n3_ := Aside0.mk (below_drew1 HB.out)
        clear HO190
        clear BK196
        clear BK199
        clear HB
        have HO190 := n0_
        have BK196 := n1_
        have BK199 := n2_
        have HB := n3_
        clear n0_ n1_ n2_ n3_
        refine start_ (n := 8) (S := fun w' => w'.cell? ⟨gb196, 0, none⟩ = some (.string t191) ∧ w'.cell? ⟨gb196, 1, none⟩ = some (.int .i64 t192) ∧ w'.cell? ⟨gb196, 2, none⟩ = some (.int .i64 t193) ∧ w'.cell? ⟨gb196, 3, none⟩ = some (.int .i64 t194) ∧ w'.cell? ⟨gb196, 4, none⟩ = some (.int .i64 t195)) (ds := []) #[false, false, false, false, false, false, false, false] (by kernel_rfl) rfl rfl ⟨(blk_cell BK196.out 0).trans rfl, (blk_cell BK196.out 1).trans rfl, (blk_cell BK196.out 2).trans rfl, (blk_cell BK196.out 3).trans rfl, (blk_cell BK196.out 4).trans rfl⟩ (fun hHeld => ?_); refine with_tabW railplanlaw6_DynamicsFasterIsNotLater.tab9 railplanlaw6_DynamicsFasterIsNotLater.bits9 (fun HT_ HW_ => ?_)
        generalize w30.drew = w31 at HO190 BK196 BK199 HB hHeld ⊢
        refine pure_ (i := 0) (N := some 45) (v := ?_) (a' := ?_) #[true, false, false, false, false, false, false, false] rfl rfl (any_of HT_.out (by kernel_rfl)) (fun _ _ _ h => h) (Or.inl ⟨by rfl, ?_⟩) ?_ ?_
        rotate_left
        · intro w'
          go_simp
          with_reducible rfl
        rotate_left
        · simp only [Act.put, List.setIfInBounds_toArray, List.set_cons_zero, List.set_cons_succ, i64_w, i32_w]
          rfl
        refine pure_ (i := 2) (N := some 47) (v := ?_) (a' := ?_) #[true, false, true, false, false, false, false, false] rfl rfl (any_of HT_.out (by kernel_rfl)) (fun _ _ _ h => h) (Or.inl ⟨by rfl, ?_⟩) ?_ ?_
        rotate_left
        · intro w'
          go_simp
          with_reducible rfl
        rotate_left
        · simp only [Act.put, List.setIfInBounds_toArray, List.set_cons_zero, List.set_cons_succ, i64_w, i32_w]
          rfl
        refine take_ (i := 1) (N := some 46) (v := ?_) (a' := ?_) #[true, true, true, false, false, false, false, false] rfl rfl (take_ofW HT_.out HW_.out (by kernel_rfl)) (fun _ _ _ h => h) (Or.inl ⟨by rfl, ?_⟩) hHeld ?_ ?_
        rotate_left
        · rintro w' ⟨s0, s1, s2, s3, s4⟩
          go_simp
          with_reducible rfl
        rotate_left
        · simp only [Act.put, List.setIfInBounds_toArray, List.set_cons_zero, List.set_cons_succ, i64_w, i32_w]
          rfl
        refine one_ (i := 3) (N := some 48) #[true, true, true, true, false, false, false, false] rfl rfl (one_of HT_.out (by kernel_rfl)) (by decide) (fun K hK => ?_)
        refine goes_ Try.func16 (by kernel_rfl) rfl #[.int .i64 a4, .int .i64 30000] (by rfl) rfl rfl (by (try simp only [List.map_toArray, List.map_cons, List.map_nil]); first | done | rfl | (simp only [List.length_drop, List.length_take]; rfl)) ?_
        with_reducible refine (railplankeep_Pick.calls a4 30000 t201 _ A28.out).mono ?_
        rintro e w' ⟨rfl, ⟨nd, rfl⟩⟩
        refine ⟨_, rfl, ?_⟩
        refine hK.out _ _ ⟨(blk_cell BK196.out 0).trans rfl, (blk_cell BK196.out 1).trans rfl, (blk_cell BK196.out 2).trans rfl, (blk_cell BK196.out 3).trans rfl, (blk_cell BK196.out 4).trans rfl⟩ (fun hHeld => ?_)
        clear hK K
        refine norm_ (a' := ?_) ?_ ?_
        rotate_left
        · show Act.put _ (some 48) _ = _
          simp only [Act.put, List.setIfInBounds_toArray, List.set_cons_zero, List.set_cons_succ, i64_w, i32_w]
          rfl
        refine pure_ (i := 4) (N := some 49) (v := ?_) (a' := ?_) #[true, true, true, true, true, false, false, false] rfl rfl (any_of HT_.out (by kernel_rfl)) (fun _ _ _ h => h) (Or.inl ⟨by rfl, ?_⟩) ?_ ?_
        rotate_left
        · intro w'
          go_simp
          with_reducible rfl
        rotate_left
        · simp only [Act.put, List.setIfInBounds_toArray, List.set_cons_zero, List.set_cons_succ, i64_w, i32_w]
          rfl
        refine pure_ (i := 5) (N := some 50) (v := ?_) (a' := ?_) #[true, true, true, true, true, true, false, false] rfl rfl (any_of HT_.out (by kernel_rfl)) (fun _ _ _ h => h) (Or.inl ⟨by rfl, ?_⟩) ?_ ?_
        rotate_left
        · intro w'
          go_simp
          with_reducible rfl
        rotate_left
        · simp only [Act.put, List.setIfInBounds_toArray, List.set_cons_zero, List.set_cons_succ, i64_w, i32_w]
          rfl
        refine pure_ (i := 6) (N := some 51) (v := ?_) (a' := ?_) #[true, true, true, true, true, true, true, false] rfl rfl (any_of HT_.out (by kernel_rfl)) (fun _ _ _ h => h) (Or.inl ⟨by rfl, ?_⟩) ?_ ?_
        rotate_left
        · intro w'
          go_simp
          with_reducible rfl
        rotate_left
        · simp only [Act.put, List.setIfInBounds_toArray, List.set_cons_zero, List.set_cons_succ, i64_w, i32_w]
          rfl
        refine one_ (i := 7) (N := none) #[true, true, true, true, true, true, true, true] rfl rfl (one_of HT_.out (by kernel_rfl)) (by decide) (fun K hK => ?_)
        have hs32 : w31.cell? ⟨gb199, 2, none⟩ = some (.int .i64 t193) := (blk_cell BK199.out 2).trans rfl
        have hfs32 := blk_frozen BK199.out 2
        have hns32_0 := NB196_199.out
        have hms32_0 := NB199_196.out
        refine skip_ (w1 := ?_) (by rfl) rfl ?_ ?_
        rotate_left
        · go_simp
          rfl
        refine hK.out _ _ ⟨((cell_far (p := ⟨gb199, _, none⟩) NB196_199.out _).trans (hHeld.1)), ((cell_far (p := ⟨gb199, _, none⟩) NB196_199.out _).trans (hHeld.2.1)), ((cell_far (p := ⟨gb199, _, none⟩) NB196_199.out _).trans (hHeld.2.2.1)), ((cell_far (p := ⟨gb199, _, none⟩) NB196_199.out _).trans (hHeld.2.2.2.1)), ((cell_far (p := ⟨gb199, _, none⟩) NB196_199.out _).trans (hHeld.2.2.2.2))⟩ (fun hHeld => ?_)
        clear hK K
        refine done_ (done_of HT_.out (by kernel_rfl)) ?_
        try go_wp2
        go_meet
        case rel => exact ⟨_, (ji29), (t194), (t195), H', ⟨by first | omega | exact Nat.le_refl _⟩, ⟨by (with_reducible repeat (first | apply Kd.R_alloc | apply Kd.R_drewN | apply Kd.R_drew)); exact Kd.R_mono (Kd.R_far (p := ⟨gb199, 2, none⟩) (Kd.R_types HO190.out BK199.out (by decide)) (fun _ hk => hk.2) (.int .i64 ji29)) (fun _ hk => trivial)⟩, ⟨by (with_reducible repeat (first | refine blk_drewN ?_ _ | refine blk_drew ?_ | refine blk_alloc ?_ _)); refine blk_far ?_ NB196_199.out _; (with_reducible repeat (first | refine blk_drewN ?_ _ | refine blk_drew ?_ | refine blk_alloc ?_ _)); exact BK196.out⟩, ⟨by (with_reducible repeat (first | refine blk_drewN ?_ _ | refine blk_drew ?_ | refine blk_alloc ?_ _)); refine blk_put (cs := #[.string t191, .int .i64 t192, .int .i64 t193, .int .i64 t194, .int .i64 t195]) ?_ 2 _ rfl; (with_reducible repeat (first | refine blk_drewN ?_ _ | refine blk_drew ?_ | refine blk_alloc ?_ _)); exact BK199.out⟩, ⟨by repeat (first | (with_reducible first | exact HB.out | apply below_alloc | apply pw_below_drewN | apply below_drew1 | refine below_set ?_ GE196.out | refine below_set ?_ GE199.out) | exact HB.out)⟩⟩
      · rw [if_neg c27] at H
        have c27b0 : (t200 == 0) = false := beq_eq_false_iff_ne.mpr c27
        have c27b1 : (t200 != 0) = true := bne_iff_ne.mpr c27
        (first | rw [c27b0] | (simp only [i64_w, i32_w]; rw [c27b0]) | skip)
        by_cases c33 : t200 = 1
        · rw [if_pos c33] at H
          have c33b0 : (t200 == 1) = true := beq_iff_eq.mpr c33
          have c33b1 : (t200 != 1) = false := bne_eq_false_iff_eq.mpr c33
          clear c33
          replace H := Option.bind_eq_some_iff.mp H
          obtain ⟨t202, A340, H⟩ := H
          replace H : (railplanlaw6_DynamicsFasterIsNotLater.j0 k t198 t188 t191 t192 t193 t194 t195 t191 t192 t193 (mn 2000 (wrap64 (t194 + t202))) t195) = some r := H
          have A34 := Aside0.mk A340
          clear A340
          obtain ⟨ji35, hji35⟩ : ∃ j_ : Int, (mn 2000 (wrap64 (t194 + t202))) = j_ := ⟨_, rfl⟩
          replace H : (railplanlaw6_DynamicsFasterIsNotLater.j0 k t198 t188 t191 t192 t193 t194 t195 t191 t192 t193 ji35 t195) = some r := by first | (rw [hji35] at H; exact H) | (simp only [hji35] at H ⊢; exact H)
          (try rw [hji35] at A34)
          (try (have hji35h : ji35 ≤ 2000 := by (rw [← hji35]; unfold mn; (repeat' split) <;> omega)))
          (try (have hji35g : ji35 ≤ 64 := by omega))
          have hji35_ : (if (wrap64 (t194 + t202)) < 2000 then (wrap64 (t194 + t202)) else 2000) = ji35 := hji35
          have H' := Aside0.mk H
          clear H
          try go_wp2
          have n0_ : Aside0 (Kd.R k34 34 (((((w24.setCell ⟨gb199, 0, none⟩ (.string t191)).setCell ⟨gb199, 1, none⟩ (.int .i64 t192)).setCell ⟨gb199, 2, none⟩ (.int .i64 t193)).setCell ⟨gb199, 3, none⟩ (.int .i64 t194)).setCell ⟨gb199, 4, none⟩ (.int .i64 t195)) w.heap.size (fun _ => True) (.slice Ao23 t188.length co23) t188) := ⟨by (with_reducible repeat (first | apply Kd.R_alloc | apply Kd.R_drewN | apply Kd.R_drew)); exact Kd.R_mono (Kd.R_far (p := ⟨gb199, 4, none⟩) (Kd.R_far (p := ⟨gb199, 3, none⟩) (Kd.R_far (p := ⟨gb199, 2, none⟩) (Kd.R_far (p := ⟨gb199, 1, none⟩) (Kd.R_far (p := ⟨gb199, 0, none⟩) (Kd.R_types HO190.out BK199.out (by decide)) (fun _ hk => hk.2) (.string t191)) (fun _ hk => hk.2) (.int .i64 t192)) (fun _ hk => hk.2) (.int .i64 t193)) (fun _ hk => hk.2) (.int .i64 t194)) (fun _ hk => hk.2) (.int .i64 t195)) (fun _ hk => trivial)⟩
          have n1_ : Aside0 ((((((w24.setCell ⟨gb199, 0, none⟩ (.string t191)).setCell ⟨gb199, 1, none⟩ (.int .i64 t192)).setCell ⟨gb199, 2, none⟩ (.int .i64 t193)).setCell ⟨gb199, 3, none⟩ (.int .i64 t194)).setCell ⟨gb199, 4, none⟩ (.int .i64 t195)).heap[gb196]? = some (.cells #[.string t191, .int .i64 t192, .int .i64 t193, .int .i64 t194, .int .i64 t195] 26 (0, 0))) := ⟨by (with_reducible repeat (first | refine blk_drewN ?_ _ | refine blk_drew ?_ | refine blk_alloc ?_ _)); refine blk_far ?_ NB196_199.out _; (with_reducible repeat (first | refine blk_drewN ?_ _ | refine blk_drew ?_ | refine blk_alloc ?_ _)); refine blk_far ?_ NB196_199.out _; (with_reducible repeat (first | refine blk_drewN ?_ _ | refine blk_drew ?_ | refine blk_alloc ?_ _)); refine blk_far ?_ NB196_199.out _; (with_reducible repeat (first | refine blk_drewN ?_ _ | refine blk_drew ?_ | refine blk_alloc ?_ _)); refine blk_far ?_ NB196_199.out _; (with_reducible repeat (first | refine blk_drewN ?_ _ | refine blk_drew ?_ | refine blk_alloc ?_ _)); refine blk_far ?_ NB196_199.out _; (with_reducible repeat (first | refine blk_drewN ?_ _ | refine blk_drew ?_ | refine blk_alloc ?_ _)); exact BK196.out⟩
          have n2_ : Aside0 ((((((w24.setCell ⟨gb199, 0, none⟩ (.string t191)).setCell ⟨gb199, 1, none⟩ (.int .i64 t192)).setCell ⟨gb199, 2, none⟩ (.int .i64 t193)).setCell ⟨gb199, 3, none⟩ (.int .i64 t194)).setCell ⟨gb199, 4, none⟩ (.int .i64 t195)).heap[gb199]? = some (.cells #[.string t191, .int .i64 t192, .int .i64 t193, .int .i64 t194, .int .i64 t195] 26 (0, 0))) := ⟨by (with_reducible repeat (first | refine blk_drewN ?_ _ | refine blk_drew ?_ | refine blk_alloc ?_ _)); refine blk_put (cs := #[.string t191, .int .i64 t192, .int .i64 t193, .int .i64 t194, .int .i64 0]) ?_ 4 _ rfl; (with_reducible repeat (first | refine blk_drewN ?_ _ | refine blk_drew ?_ | refine blk_alloc ?_ _)); refine blk_put (cs := #[.string t191, .int .i64 t192, .int .i64 t193, .int .i64 0, .int .i64 0]) ?_ 3 _ rfl; (with_reducible repeat (first | refine blk_drewN ?_ _ | refine blk_drew ?_ | refine blk_alloc ?_ _)); refine blk_put (cs := #[.string t191, .int .i64 t192, .int .i64 0, .int .i64 0, .int .i64 0]) ?_ 2 _ rfl; (with_reducible repeat (first | refine blk_drewN ?_ _ | refine blk_drew ?_ | refine blk_alloc ?_ _)); refine blk_put (cs := #[.string t191, .int .i64 0, .int .i64 0, .int .i64 0, .int .i64 0]) ?_ 1 _ rfl; (with_reducible repeat (first | refine blk_drewN ?_ _ | refine blk_drew ?_ | refine blk_alloc ?_ _)); refine blk_put (cs := #[.string (⟨#[]⟩ : ByteArray), .int .i64 0, .int .i64 0, .int .i64 0, .int .i64 0]) ?_ 0 _ rfl; (with_reducible repeat (first | refine blk_drewN ?_ _ | refine blk_drew ?_ | refine blk_alloc ?_ _)); exact BK199.out⟩
          have n3_ : Aside0 (Below w.heap.size w (((((w24.setCell ⟨gb199, 0, none⟩ (.string t191)).setCell ⟨gb199, 1, none⟩ (.int .i64 t192)).setCell ⟨gb199, 2, none⟩ (.int .i64 t193)).setCell ⟨gb199, 3, none⟩ (.int .i64 t194)).setCell ⟨gb199, 4, none⟩ (.int .i64 t195))) := ⟨by repeat (first | (with_reducible first | exact HB.out | apply below_alloc | apply pw_below_drewN | apply below_drew1 | refine below_set ?_ GE196.out | refine below_set ?_ GE199.out) | exact HB.out)⟩
          (try clear HO190)
          (try clear BK196)
          (try clear BK199)
          (try clear HB)
          generalize (((((w24.setCell ⟨gb199, 0, none⟩ (.string t191)).setCell ⟨gb199, 1, none⟩ (.int .i64 t192)).setCell ⟨gb199, 2, none⟩ (.int .i64 t193)).setCell ⟨gb199, 3, none⟩ (.int .i64 t194)).setCell ⟨gb199, 4, none⟩ (.int .i64 t195)) = w36 at n0_ n1_ n2_ n3_ ⊢
          have HO190 := n0_
          have BK196 := n1_
          have BK199 := n2_
          have HB := n3_
          clear n0_ n1_ n2_ n3_
          have n0_ := Aside0.mk (Kd.R_drewN HO190.out nd)
          have n1_ := Aside0.mk (blk_drewN BK196.out nd)
          have n2_ := Aside0.mk (blk_drewN BK199.out nd)
          have n3_ := Aside0.mk (pw_below_drewN HB.out nd)
          clear HO190 BK196 BK199 HB
          generalize World.drewN w36 nd = w36 at n0_ n1_ n2_ n3_ ⊢
          have HO190 := n0_
          have BK196 := n1_
          have BK199 := n2_
          have HB := n3_
          clear n0_ n1_ n2_ n3_
          have n0_ := Aside0.mk (Kd.R_drew HO190.out)
          have n1_ := Aside0.mk (blk_drew BK196.out)
          have n2_ := Aside0.mk (blk_drew BK199.out)
          have n3_ := Aside0.mk (below_drew1 HB.out)
          clear HO190
          clear BK196
          clear BK199
          clear HB
          have HO190 := n0_
          have BK196 := n1_
          have BK199 := n2_
          have HB := n3_
          clear n0_ n1_ n2_ n3_
          refine start_ (n := 8) (S := fun w' => w'.cell? ⟨gb196, 0, none⟩ = some (.string t191) ∧ w'.cell? ⟨gb196, 1, none⟩ = some (.int .i64 t192) ∧ w'.cell? ⟨gb196, 2, none⟩ = some (.int .i64 t193) ∧ w'.cell? ⟨gb196, 3, none⟩ = some (.int .i64 t194) ∧ w'.cell? ⟨gb196, 4, none⟩ = some (.int .i64 t195)) (ds := []) #[false, false, false, false, false, false, false, false] (by kernel_rfl) rfl rfl ⟨(blk_cell BK196.out 0).trans rfl, (blk_cell BK196.out 1).trans rfl, (blk_cell BK196.out 2).trans rfl, (blk_cell BK196.out 3).trans rfl, (blk_cell BK196.out 4).trans rfl⟩ (fun hHeld => ?_); refine with_tabW railplanlaw6_DynamicsFasterIsNotLater.tab11 railplanlaw6_DynamicsFasterIsNotLater.bits11 (fun HT_ HW_ => ?_)
          generalize w36.drew = w37 at HO190 BK196 BK199 HB hHeld ⊢
          refine pure_ (i := 0) (N := some 54) (v := ?_) (a' := ?_) #[true, false, false, false, false, false, false, false] rfl rfl (any_of HT_.out (by kernel_rfl)) (fun _ _ _ h => h) (Or.inl ⟨by rfl, ?_⟩) ?_ ?_
          rotate_left
          · intro w'
            go_simp
            with_reducible rfl
          rotate_left
          · simp only [Act.put, List.setIfInBounds_toArray, List.set_cons_zero, List.set_cons_succ, i64_w, i32_w]
            rfl
          refine pure_ (i := 2) (N := some 56) (v := ?_) (a' := ?_) #[true, false, true, false, false, false, false, false] rfl rfl (any_of HT_.out (by kernel_rfl)) (fun _ _ _ h => h) (Or.inl ⟨by rfl, ?_⟩) ?_ ?_
          rotate_left
          · intro w'
            go_simp
            with_reducible rfl
          rotate_left
          · simp only [Act.put, List.setIfInBounds_toArray, List.set_cons_zero, List.set_cons_succ, i64_w, i32_w]
            rfl
          refine take_ (i := 1) (N := some 55) (v := ?_) (a' := ?_) #[true, true, true, false, false, false, false, false] rfl rfl (take_ofW HT_.out HW_.out (by kernel_rfl)) (fun _ _ _ h => h) (Or.inl ⟨by rfl, ?_⟩) hHeld ?_ ?_
          rotate_left
          · rintro w' ⟨s0, s1, s2, s3, s4⟩
            go_simp
            with_reducible rfl
          rotate_left
          · simp only [Act.put, List.setIfInBounds_toArray, List.set_cons_zero, List.set_cons_succ, i64_w, i32_w]
            rfl
          refine one_ (i := 3) (N := some 57) #[true, true, true, true, false, false, false, false] rfl rfl (one_of HT_.out (by kernel_rfl)) (by decide) (fun K hK => ?_)
          refine goes_ Try.func16 (by kernel_rfl) rfl #[.int .i64 a4, .int .i64 1000] (by rfl) rfl rfl (by (try simp only [List.map_toArray, List.map_cons, List.map_nil]); first | done | rfl | (simp only [List.length_drop, List.length_take]; rfl)) ?_
          with_reducible refine (railplankeep_Pick.calls a4 1000 t202 _ A34.out).mono ?_
          rintro e w' ⟨rfl, ⟨nd, rfl⟩⟩
          refine ⟨_, rfl, ?_⟩
          refine hK.out _ _ ⟨(blk_cell BK196.out 0).trans rfl, (blk_cell BK196.out 1).trans rfl, (blk_cell BK196.out 2).trans rfl, (blk_cell BK196.out 3).trans rfl, (blk_cell BK196.out 4).trans rfl⟩ (fun hHeld => ?_)
          clear hK K
          refine norm_ (a' := ?_) ?_ ?_
          rotate_left
          · show Act.put _ (some 57) _ = _
            simp only [Act.put, List.setIfInBounds_toArray, List.set_cons_zero, List.set_cons_succ, i64_w, i32_w]
            rfl
          refine pure_ (i := 4) (N := some 58) (v := ?_) (a' := ?_) #[true, true, true, true, true, false, false, false] rfl rfl (any_of HT_.out (by kernel_rfl)) (fun _ _ _ h => h) (Or.inl ⟨by rfl, ?_⟩) ?_ ?_
          rotate_left
          · intro w'
            go_simp
            with_reducible rfl
          rotate_left
          · simp only [Act.put, List.setIfInBounds_toArray, List.set_cons_zero, List.set_cons_succ, i64_w, i32_w]
            rfl
          refine pure_ (i := 5) (N := some 59) (v := ?_) (a' := ?_) #[true, true, true, true, true, true, false, false] rfl rfl (any_of HT_.out (by kernel_rfl)) (fun _ _ _ h => h) (Or.inl ⟨by rfl, ?_⟩) ?_ ?_
          rotate_left
          · intro w'
            go_simp
            with_reducible rfl
          rotate_left
          · simp only [Act.put, List.setIfInBounds_toArray, List.set_cons_zero, List.set_cons_succ, i64_w, i32_w]
            rfl
          refine pure_ (i := 6) (N := some 60) (v := ?_) (a' := ?_) #[true, true, true, true, true, true, true, false] rfl rfl (any_of HT_.out (by kernel_rfl)) (fun _ _ _ h => h) (Or.inl ⟨by rfl, ?_⟩) ?_ ?_
          rotate_left
          · intro w'
            go_simp
            with_reducible rfl
          rotate_left
          · simp only [Act.put, List.setIfInBounds_toArray, List.set_cons_zero, List.set_cons_succ, i64_w, i32_w]
            rfl
          refine one_ (i := 7) (N := none) #[true, true, true, true, true, true, true, true] rfl rfl (one_of HT_.out (by kernel_rfl)) (by decide) (fun K hK => ?_)
          have hs38 : w37.cell? ⟨gb199, 3, none⟩ = some (.int .i64 t194) := (blk_cell BK199.out 3).trans rfl
          have hfs38 := blk_frozen BK199.out 3
          have hns38_0 := NB196_199.out
          have hms38_0 := NB199_196.out
          refine skip_ (w1 := ?_) (by rfl) rfl ?_ ?_
          rotate_left
          · go_simp
            rfl
          refine hK.out _ _ ⟨((cell_far (p := ⟨gb199, _, none⟩) NB196_199.out _).trans (hHeld.1)), ((cell_far (p := ⟨gb199, _, none⟩) NB196_199.out _).trans (hHeld.2.1)), ((cell_far (p := ⟨gb199, _, none⟩) NB196_199.out _).trans (hHeld.2.2.1)), ((cell_far (p := ⟨gb199, _, none⟩) NB196_199.out _).trans (hHeld.2.2.2.1)), ((cell_far (p := ⟨gb199, _, none⟩) NB196_199.out _).trans (hHeld.2.2.2.2))⟩ (fun hHeld => ?_)
          clear hK K
          refine done_ (done_of HT_.out (by kernel_rfl)) ?_
          try go_wp2
          go_meet
          case rel => exact ⟨_, (t193), (ji35), (t195), H', ⟨by first | omega | exact Nat.le_refl _⟩, ⟨by (with_reducible repeat (first | apply Kd.R_alloc | apply Kd.R_drewN | apply Kd.R_drew)); exact Kd.R_mono (Kd.R_far (p := ⟨gb199, 3, none⟩) (Kd.R_types HO190.out BK199.out (by decide)) (fun _ hk => hk.2) (.int .i64 ji35)) (fun _ hk => trivial)⟩, ⟨by (with_reducible repeat (first | refine blk_drewN ?_ _ | refine blk_drew ?_ | refine blk_alloc ?_ _)); refine blk_far ?_ NB196_199.out _; (with_reducible repeat (first | refine blk_drewN ?_ _ | refine blk_drew ?_ | refine blk_alloc ?_ _)); exact BK196.out⟩, ⟨by (with_reducible repeat (first | refine blk_drewN ?_ _ | refine blk_drew ?_ | refine blk_alloc ?_ _)); refine blk_put (cs := #[.string t191, .int .i64 t192, .int .i64 t193, .int .i64 t194, .int .i64 t195]) ?_ 3 _ rfl; (with_reducible repeat (first | refine blk_drewN ?_ _ | refine blk_drew ?_ | refine blk_alloc ?_ _)); exact BK199.out⟩, ⟨by repeat (first | (with_reducible first | exact HB.out | apply below_alloc | apply pw_below_drewN | apply below_drew1 | refine below_set ?_ GE196.out | refine below_set ?_ GE199.out) | exact HB.out)⟩⟩
        · rw [if_neg c33] at H
          have c33b0 : (t200 == 1) = false := beq_eq_false_iff_ne.mpr c33
          have c33b1 : (t200 != 1) = true := bne_iff_ne.mpr c33
          replace H := Option.bind_eq_some_iff.mp H
          obtain ⟨t203, A390, H⟩ := H
          replace H : (railplanlaw6_DynamicsFasterIsNotLater.j0 k t198 t188 t191 t192 t193 t194 t195 t191 t192 t193 t194 (mn 2000 (wrap64 (t195 + t203)))) = some r := H
          have A39 := Aside0.mk A390
          clear A390
          obtain ⟨ji40, hji40⟩ : ∃ j_ : Int, (mn 2000 (wrap64 (t195 + t203))) = j_ := ⟨_, rfl⟩
          replace H : (railplanlaw6_DynamicsFasterIsNotLater.j0 k t198 t188 t191 t192 t193 t194 t195 t191 t192 t193 t194 ji40) = some r := by first | (rw [hji40] at H; exact H) | (simp only [hji40] at H ⊢; exact H)
          (try rw [hji40] at A39)
          (try (have hji40h : ji40 ≤ 2000 := by (rw [← hji40]; unfold mn; (repeat' split) <;> omega)))
          (try (have hji40g : ji40 ≤ 64 := by omega))
          have hji40_ : (if (wrap64 (t195 + t203)) < 2000 then (wrap64 (t195 + t203)) else 2000) = ji40 := hji40
          have H' := Aside0.mk H
          clear H
          try go_wp2
          have n0_ : Aside0 (Kd.R k34 34 (((((w24.setCell ⟨gb199, 0, none⟩ (.string t191)).setCell ⟨gb199, 1, none⟩ (.int .i64 t192)).setCell ⟨gb199, 2, none⟩ (.int .i64 t193)).setCell ⟨gb199, 3, none⟩ (.int .i64 t194)).setCell ⟨gb199, 4, none⟩ (.int .i64 t195)) w.heap.size (fun _ => True) (.slice Ao23 t188.length co23) t188) := ⟨by (with_reducible repeat (first | apply Kd.R_alloc | apply Kd.R_drewN | apply Kd.R_drew)); exact Kd.R_mono (Kd.R_far (p := ⟨gb199, 4, none⟩) (Kd.R_far (p := ⟨gb199, 3, none⟩) (Kd.R_far (p := ⟨gb199, 2, none⟩) (Kd.R_far (p := ⟨gb199, 1, none⟩) (Kd.R_far (p := ⟨gb199, 0, none⟩) (Kd.R_types HO190.out BK199.out (by decide)) (fun _ hk => hk.2) (.string t191)) (fun _ hk => hk.2) (.int .i64 t192)) (fun _ hk => hk.2) (.int .i64 t193)) (fun _ hk => hk.2) (.int .i64 t194)) (fun _ hk => hk.2) (.int .i64 t195)) (fun _ hk => trivial)⟩
          have n1_ : Aside0 ((((((w24.setCell ⟨gb199, 0, none⟩ (.string t191)).setCell ⟨gb199, 1, none⟩ (.int .i64 t192)).setCell ⟨gb199, 2, none⟩ (.int .i64 t193)).setCell ⟨gb199, 3, none⟩ (.int .i64 t194)).setCell ⟨gb199, 4, none⟩ (.int .i64 t195)).heap[gb196]? = some (.cells #[.string t191, .int .i64 t192, .int .i64 t193, .int .i64 t194, .int .i64 t195] 26 (0, 0))) := ⟨by (with_reducible repeat (first | refine blk_drewN ?_ _ | refine blk_drew ?_ | refine blk_alloc ?_ _)); refine blk_far ?_ NB196_199.out _; (with_reducible repeat (first | refine blk_drewN ?_ _ | refine blk_drew ?_ | refine blk_alloc ?_ _)); refine blk_far ?_ NB196_199.out _; (with_reducible repeat (first | refine blk_drewN ?_ _ | refine blk_drew ?_ | refine blk_alloc ?_ _)); refine blk_far ?_ NB196_199.out _; (with_reducible repeat (first | refine blk_drewN ?_ _ | refine blk_drew ?_ | refine blk_alloc ?_ _)); refine blk_far ?_ NB196_199.out _; (with_reducible repeat (first | refine blk_drewN ?_ _ | refine blk_drew ?_ | refine blk_alloc ?_ _)); refine blk_far ?_ NB196_199.out _; (with_reducible repeat (first | refine blk_drewN ?_ _ | refine blk_drew ?_ | refine blk_alloc ?_ _)); exact BK196.out⟩
          have n2_ : Aside0 ((((((w24.setCell ⟨gb199, 0, none⟩ (.string t191)).setCell ⟨gb199, 1, none⟩ (.int .i64 t192)).setCell ⟨gb199, 2, none⟩ (.int .i64 t193)).setCell ⟨gb199, 3, none⟩ (.int .i64 t194)).setCell ⟨gb199, 4, none⟩ (.int .i64 t195)).heap[gb199]? = some (.cells #[.string t191, .int .i64 t192, .int .i64 t193, .int .i64 t194, .int .i64 t195] 26 (0, 0))) := ⟨by (with_reducible repeat (first | refine blk_drewN ?_ _ | refine blk_drew ?_ | refine blk_alloc ?_ _)); refine blk_put (cs := #[.string t191, .int .i64 t192, .int .i64 t193, .int .i64 t194, .int .i64 0]) ?_ 4 _ rfl; (with_reducible repeat (first | refine blk_drewN ?_ _ | refine blk_drew ?_ | refine blk_alloc ?_ _)); refine blk_put (cs := #[.string t191, .int .i64 t192, .int .i64 t193, .int .i64 0, .int .i64 0]) ?_ 3 _ rfl; (with_reducible repeat (first | refine blk_drewN ?_ _ | refine blk_drew ?_ | refine blk_alloc ?_ _)); refine blk_put (cs := #[.string t191, .int .i64 t192, .int .i64 0, .int .i64 0, .int .i64 0]) ?_ 2 _ rfl; (with_reducible repeat (first | refine blk_drewN ?_ _ | refine blk_drew ?_ | refine blk_alloc ?_ _)); refine blk_put (cs := #[.string t191, .int .i64 0, .int .i64 0, .int .i64 0, .int .i64 0]) ?_ 1 _ rfl; (with_reducible repeat (first | refine blk_drewN ?_ _ | refine blk_drew ?_ | refine blk_alloc ?_ _)); refine blk_put (cs := #[.string (⟨#[]⟩ : ByteArray), .int .i64 0, .int .i64 0, .int .i64 0, .int .i64 0]) ?_ 0 _ rfl; (with_reducible repeat (first | refine blk_drewN ?_ _ | refine blk_drew ?_ | refine blk_alloc ?_ _)); exact BK199.out⟩
          have n3_ : Aside0 (Below w.heap.size w (((((w24.setCell ⟨gb199, 0, none⟩ (.string t191)).setCell ⟨gb199, 1, none⟩ (.int .i64 t192)).setCell ⟨gb199, 2, none⟩ (.int .i64 t193)).setCell ⟨gb199, 3, none⟩ (.int .i64 t194)).setCell ⟨gb199, 4, none⟩ (.int .i64 t195))) := ⟨by repeat (first | (with_reducible first | exact HB.out | apply below_alloc | apply pw_below_drewN | apply below_drew1 | refine below_set ?_ GE196.out | refine below_set ?_ GE199.out) | exact HB.out)⟩
          (try clear HO190)
          (try clear BK196)
          (try clear BK199)
          (try clear HB)
          generalize (((((w24.setCell ⟨gb199, 0, none⟩ (.string t191)).setCell ⟨gb199, 1, none⟩ (.int .i64 t192)).setCell ⟨gb199, 2, none⟩ (.int .i64 t193)).setCell ⟨gb199, 3, none⟩ (.int .i64 t194)).setCell ⟨gb199, 4, none⟩ (.int .i64 t195)) = w41 at n0_ n1_ n2_ n3_ ⊢
          have HO190 := n0_
          have BK196 := n1_
          have BK199 := n2_
          have HB := n3_
          clear n0_ n1_ n2_ n3_
          have n0_ := Aside0.mk (Kd.R_drewN HO190.out nd)
          have n1_ := Aside0.mk (blk_drewN BK196.out nd)
          have n2_ := Aside0.mk (blk_drewN BK199.out nd)
          have n3_ := Aside0.mk (pw_below_drewN HB.out nd)
          clear HO190 BK196 BK199 HB
          generalize World.drewN w41 nd = w41 at n0_ n1_ n2_ n3_ ⊢
          have HO190 := n0_
          have BK196 := n1_
          have BK199 := n2_
          have HB := n3_
          clear n0_ n1_ n2_ n3_
          have n0_ := Aside0.mk (Kd.R_drew HO190.out)
          have n1_ := Aside0.mk (blk_drew BK196.out)
          have n2_ := Aside0.mk (blk_drew BK199.out)
          have n3_ := Aside0.mk (below_drew1 HB.out)
          clear HO190
          clear BK196
          clear BK199
          clear HB
          have HO190 := n0_
          have BK196 := n1_
          have BK199 := n2_
          have HB := n3_
          clear n0_ n1_ n2_ n3_
          refine start_ (n := 8) (S := fun w' => w'.cell? ⟨gb196, 0, none⟩ = some (.string t191) ∧ w'.cell? ⟨gb196, 1, none⟩ = some (.int .i64 t192) ∧ w'.cell? ⟨gb196, 2, none⟩ = some (.int .i64 t193) ∧ w'.cell? ⟨gb196, 3, none⟩ = some (.int .i64 t194) ∧ w'.cell? ⟨gb196, 4, none⟩ = some (.int .i64 t195)) (ds := []) #[false, false, false, false, false, false, false, false] (by kernel_rfl) rfl rfl ⟨(blk_cell BK196.out 0).trans rfl, (blk_cell BK196.out 1).trans rfl, (blk_cell BK196.out 2).trans rfl, (blk_cell BK196.out 3).trans rfl, (blk_cell BK196.out 4).trans rfl⟩ (fun hHeld => ?_); refine with_tabW railplanlaw6_DynamicsFasterIsNotLater.tab7 railplanlaw6_DynamicsFasterIsNotLater.bits7 (fun HT_ HW_ => ?_)
          generalize w41.drew = w42 at HO190 BK196 BK199 HB hHeld ⊢
          refine pure_ (i := 0) (N := some 36) (v := ?_) (a' := ?_) #[true, false, false, false, false, false, false, false] rfl rfl (any_of HT_.out (by kernel_rfl)) (fun _ _ _ h => h) (Or.inl ⟨by rfl, ?_⟩) ?_ ?_
          rotate_left
          · intro w'
            go_simp
            with_reducible rfl
          rotate_left
          · simp only [Act.put, List.setIfInBounds_toArray, List.set_cons_zero, List.set_cons_succ, i64_w, i32_w]
            rfl
          refine pure_ (i := 2) (N := some 38) (v := ?_) (a' := ?_) #[true, false, true, false, false, false, false, false] rfl rfl (any_of HT_.out (by kernel_rfl)) (fun _ _ _ h => h) (Or.inl ⟨by rfl, ?_⟩) ?_ ?_
          rotate_left
          · intro w'
            go_simp
            with_reducible rfl
          rotate_left
          · simp only [Act.put, List.setIfInBounds_toArray, List.set_cons_zero, List.set_cons_succ, i64_w, i32_w]
            rfl
          refine take_ (i := 1) (N := some 37) (v := ?_) (a' := ?_) #[true, true, true, false, false, false, false, false] rfl rfl (take_ofW HT_.out HW_.out (by kernel_rfl)) (fun _ _ _ h => h) (Or.inl ⟨by rfl, ?_⟩) hHeld ?_ ?_
          rotate_left
          · rintro w' ⟨s0, s1, s2, s3, s4⟩
            go_simp
            with_reducible rfl
          rotate_left
          · simp only [Act.put, List.setIfInBounds_toArray, List.set_cons_zero, List.set_cons_succ, i64_w, i32_w]
            rfl
          refine one_ (i := 3) (N := some 39) #[true, true, true, true, false, false, false, false] rfl rfl (one_of HT_.out (by kernel_rfl)) (by decide) (fun K hK => ?_)
          refine goes_ Try.func16 (by kernel_rfl) rfl #[.int .i64 a4, .int .i64 1000] (by rfl) rfl rfl (by (try simp only [List.map_toArray, List.map_cons, List.map_nil]); first | done | rfl | (simp only [List.length_drop, List.length_take]; rfl)) ?_
          with_reducible refine (railplankeep_Pick.calls a4 1000 t203 _ A39.out).mono ?_
          rintro e w' ⟨rfl, ⟨nd, rfl⟩⟩
          refine ⟨_, rfl, ?_⟩
          refine hK.out _ _ ⟨(blk_cell BK196.out 0).trans rfl, (blk_cell BK196.out 1).trans rfl, (blk_cell BK196.out 2).trans rfl, (blk_cell BK196.out 3).trans rfl, (blk_cell BK196.out 4).trans rfl⟩ (fun hHeld => ?_)
          clear hK K
          refine norm_ (a' := ?_) ?_ ?_
          rotate_left
          · show Act.put _ (some 39) _ = _
            simp only [Act.put, List.setIfInBounds_toArray, List.set_cons_zero, List.set_cons_succ, i64_w, i32_w]
            rfl
          refine pure_ (i := 4) (N := some 40) (v := ?_) (a' := ?_) #[true, true, true, true, true, false, false, false] rfl rfl (any_of HT_.out (by kernel_rfl)) (fun _ _ _ h => h) (Or.inl ⟨by rfl, ?_⟩) ?_ ?_
          rotate_left
          · intro w'
            go_simp
            with_reducible rfl
          rotate_left
          · simp only [Act.put, List.setIfInBounds_toArray, List.set_cons_zero, List.set_cons_succ, i64_w, i32_w]
            rfl
          refine pure_ (i := 5) (N := some 41) (v := ?_) (a' := ?_) #[true, true, true, true, true, true, false, false] rfl rfl (any_of HT_.out (by kernel_rfl)) (fun _ _ _ h => h) (Or.inl ⟨by rfl, ?_⟩) ?_ ?_
          rotate_left
          · intro w'
            go_simp
            with_reducible rfl
          rotate_left
          · simp only [Act.put, List.setIfInBounds_toArray, List.set_cons_zero, List.set_cons_succ, i64_w, i32_w]
            rfl
          refine pure_ (i := 6) (N := some 42) (v := ?_) (a' := ?_) #[true, true, true, true, true, true, true, false] rfl rfl (any_of HT_.out (by kernel_rfl)) (fun _ _ _ h => h) (Or.inl ⟨by rfl, ?_⟩) ?_ ?_
          rotate_left
          · intro w'
            go_simp
            with_reducible rfl
          rotate_left
          · simp only [Act.put, List.setIfInBounds_toArray, List.set_cons_zero, List.set_cons_succ, i64_w, i32_w]
            rfl
          refine one_ (i := 7) (N := none) #[true, true, true, true, true, true, true, true] rfl rfl (one_of HT_.out (by kernel_rfl)) (by decide) (fun K hK => ?_)
          have hs43 : w42.cell? ⟨gb199, 4, none⟩ = some (.int .i64 t195) := (blk_cell BK199.out 4).trans rfl
          have hfs43 := blk_frozen BK199.out 4
          have hns43_0 := NB196_199.out
          have hms43_0 := NB199_196.out
          refine skip_ (w1 := ?_) (by rfl) rfl ?_ ?_
          rotate_left
          · go_simp
            rfl
          refine hK.out _ _ ⟨((cell_far (p := ⟨gb199, _, none⟩) NB196_199.out _).trans (hHeld.1)), ((cell_far (p := ⟨gb199, _, none⟩) NB196_199.out _).trans (hHeld.2.1)), ((cell_far (p := ⟨gb199, _, none⟩) NB196_199.out _).trans (hHeld.2.2.1)), ((cell_far (p := ⟨gb199, _, none⟩) NB196_199.out _).trans (hHeld.2.2.2.1)), ((cell_far (p := ⟨gb199, _, none⟩) NB196_199.out _).trans (hHeld.2.2.2.2))⟩ (fun hHeld => ?_)
          clear hK K
          refine done_ (done_of HT_.out (by kernel_rfl)) ?_
          try go_wp2
          go_meet
          case rel => exact ⟨_, (t193), (t194), (ji40), H', ⟨by first | omega | exact Nat.le_refl _⟩, ⟨by (with_reducible repeat (first | apply Kd.R_alloc | apply Kd.R_drewN | apply Kd.R_drew)); exact Kd.R_mono (Kd.R_far (p := ⟨gb199, 4, none⟩) (Kd.R_types HO190.out BK199.out (by decide)) (fun _ hk => hk.2) (.int .i64 ji40)) (fun _ hk => trivial)⟩, ⟨by (with_reducible repeat (first | refine blk_drewN ?_ _ | refine blk_drew ?_ | refine blk_alloc ?_ _)); refine blk_far ?_ NB196_199.out _; (with_reducible repeat (first | refine blk_drewN ?_ _ | refine blk_drew ?_ | refine blk_alloc ?_ _)); exact BK196.out⟩, ⟨by (with_reducible repeat (first | refine blk_drewN ?_ _ | refine blk_drew ?_ | refine blk_alloc ?_ _)); refine blk_put (cs := #[.string t191, .int .i64 t192, .int .i64 t193, .int .i64 t194, .int .i64 t195]) ?_ 4 _ rfl; (with_reducible repeat (first | refine blk_drewN ?_ _ | refine blk_drew ?_ | refine blk_alloc ?_ _)); exact BK199.out⟩, ⟨by repeat (first | (with_reducible first | exact HB.out | apply below_alloc | apply pw_below_drewN | apply below_drew1 | refine below_set ?_ GE196.out | refine below_set ?_ GE199.out) | exact HB.out)⟩⟩
    case rest =>
      clear HC18
      try clear c1
      try clear c2
      try clear p2
      try clear c3
      try clear c5
      try clear p6
      try clear c8
      try clear c8b0
      try clear c8b1
      try clear c13
      try clear c14
      try clear c15
      try clear c16
      try clear c25
      try clear c27
      try clear c27b0
      try clear c27b1
      try clear c33
      try clear c33b0
      try clear c33b1
      try clear hcz13_0
      try clear hcz13_1
      try clear hcz13_2
      try clear hcz13_3
      try clear hcz13_4
      try clear hcz22_0
      try clear hcz22_1
      try clear hcz22_2
      try clear hcz22_3
      try clear hcz22_4
      try clear hcz26_0
      try clear hcz26_1
      try clear hcz26_2
      try clear hcz26_3
      try clear hcz26_4
      try clear hfz13_0
      try clear hfz13_1
      try clear hfz13_2
      try clear hfz13_3
      try clear hfz13_4
      try clear hfz22_0
      try clear hfz22_1
      try clear hfz22_2
      try clear hfz22_3
      try clear hfz22_4
      try clear hfz26_0
      try clear hfz26_1
      try clear hfz26_2
      try clear hfz26_3
      try clear hfz26_4
      obtain ⟨kq, x200002_17, x200003_17, x200004_17, HA, HJ17, HO_11, BK196, BK199, HB⟩ := hcut
      cases kq with
      | zero => exact absurd HA.out (by simp [railplanlaw6_DynamicsFasterIsNotLater.j0])
      | succ kj17 =>
        have H := HA.out
        clear HA
        simp only [railplanlaw6_DynamicsFasterIsNotLater.j0] at H
        replace H := Option.bind_eq_some_iff.mp H
        obtain ⟨⟨t204, t207⟩, A440, H⟩ := H
        replace H : ((dynamics_Times.f kj17 t188 t198 t191 t192 x200002_17 x200003_17 x200004_17).bind fun bt208 => (if t207 = 0 then (if bt208.2 = 0 then (if (t204.length : Int) = (bt208.1.length : Int) then (railplanlaw6_DynamicsFasterIsNotLater.j1 kj17 t204 bt208.1 (decide ((t204.length : Int) < 3))) else (railplanlaw6_DynamicsFasterIsNotLater.j1 kj17 t204 bt208.1 true)) else (railplanlaw6_DynamicsFasterIsNotLater.j1 kj17 t204 bt208.1 true)) else (railplanlaw6_DynamicsFasterIsNotLater.j1 kj17 t204 bt208.1 true))) = some r := H
        have A44 := Aside0.mk A440
        clear A440
        replace H := Option.bind_eq_some_iff.mp H
        obtain ⟨⟨t208, t211⟩, A450, H⟩ := H
        replace H : (if t207 = 0 then (if t211 = 0 then (if (t204.length : Int) = (t208.length : Int) then (railplanlaw6_DynamicsFasterIsNotLater.j1 kj17 t204 t208 (decide ((t204.length : Int) < 3))) else (railplanlaw6_DynamicsFasterIsNotLater.j1 kj17 t204 t208 true)) else (railplanlaw6_DynamicsFasterIsNotLater.j1 kj17 t204 t208 true)) else (railplanlaw6_DynamicsFasterIsNotLater.j1 kj17 t204 t208 true)) = some r := H
        have A45 := Aside0.mk A450
        clear A450
        have HC46 := Aside0.mk H
        clear H
        have hnb47 := NB196_199.out
        have hnc47 := NB199_196.out
        have hcz48_0 : wc.cell? ⟨gb196, 0, none⟩ = some (.string t191) := (blk_cell BK196.out 0).trans rfl
        have hcz48_1 : wc.cell? ⟨gb196, 1, none⟩ = some (.int .i64 t192) := (blk_cell BK196.out 1).trans rfl
        have hcz48_2 : wc.cell? ⟨gb196, 2, none⟩ = some (.int .i64 t193) := (blk_cell BK196.out 2).trans rfl
        have hcz48_3 : wc.cell? ⟨gb196, 3, none⟩ = some (.int .i64 t194) := (blk_cell BK196.out 3).trans rfl
        have hcz48_4 : wc.cell? ⟨gb196, 4, none⟩ = some (.int .i64 t195) := (blk_cell BK196.out 4).trans rfl
        have hfz48_0 := blk_frozen BK196.out 0
        have hfz48_1 := blk_frozen BK196.out 1
        have hfz48_2 := blk_frozen BK196.out 2
        have hfz48_3 := blk_frozen BK196.out 3
        have hfz48_4 := blk_frozen BK196.out 4
        go_upto_region 14 with (first | ((with_reducible refine gate_callee (f := 19) rfl ?_); refine goesL_ (some 65) rfl rfl Try.func19 (by kernel_rfl) rfl #[.slice Ao23 t188.length co23, .int .i64 t198, .agg #[.string t191, .int .i64 t192, .int .i64 t193, .int .i64 t194, .int .i64 t195]] rfl (by (try simp only [List.map_toArray, List.map_cons, List.map_nil]); first | done | rfl | (simp only [List.length_drop, List.length_take]; rfl)) ?_; (with_reducible refine (dynamics_Times.calls kj17 _ _ t188 t198 t191 t192 t193 t194 t195 t204 t207 _ ?side1 ?side2 A44.out).mono ?_); (case side1 => repeat (first | exact (Kd.R_reads' HO_11.out).2.2 | (with_reducible refine Kd.C_alloc ?_ _) | (with_reducible refine Kd.C_drewN ?_ _) | (with_reducible refine Kd.C_drew ?_))); (case side2 => exact (Kd.R_reads' HO_11.out).2.1); rintro e w49 ⟨v205, rfl, ho0, hb⟩; refine ⟨_, rfl, ?_⟩; have n0_ := Aside0.mk (Kd.R_below (by (with_reducible repeat (first | apply Kd.R_alloc | apply Kd.R_drewN | apply Kd.R_drew)); exact HO_11.out) hb); have n1_ := Aside0.mk (Kd.R_lower ho0 (below_size (by repeat (first | (with_reducible first | exact HB.out | apply below_alloc | apply pw_below_drewN | apply below_drew1 | refine below_set ?_ GE196.out | refine below_set ?_ GE199.out) | exact HB.out)))); have n2_ := Aside0.mk (blk_below (g := gb196) (o := .cells #[.string t191, .int .i64 t192, .int .i64 t193, .int .i64 t194, .int .i64 t195] 26 (0, 0)) (by (with_reducible repeat (first | refine blk_drewN ?_ _ | refine blk_drew ?_ | refine blk_alloc ?_ _)); exact BK196.out) hb); have n3_ := Aside0.mk (blk_below (g := gb199) (o := .cells #[.string t191, .int .i64 t192, .int .i64 x200002_17, .int .i64 x200003_17, .int .i64 x200004_17] 26 (0, 0)) (by (with_reducible repeat (first | refine blk_drewN ?_ _ | refine blk_drew ?_ | refine blk_alloc ?_ _)); exact BK199.out) hb); have n4_ := Aside0.mk (below_step (by repeat (first | (with_reducible first | exact HB.out | apply below_alloc | apply pw_below_drewN | apply below_drew1 | refine below_set ?_ GE196.out | refine below_set ?_ GE199.out) | exact HB.out)) hb); clear HO_11; clear BK196; clear BK199; clear HB; have HO_11 := n0_; have HO206 := n1_; have BK196 := n2_; have BK199 := n3_; have HB := n4_; clear n0_ n1_ n2_ n3_ n4_; (try clear hb); (try clear hb2); (try clear hk); (try clear hi); (try clear ho0); have hcz50_0 : w49.cell? ⟨gb199, 0, none⟩ = some (.string t191) := (blk_cell BK199.out 0).trans rfl; have hcz50_1 : w49.cell? ⟨gb199, 1, none⟩ = some (.int .i64 t192) := (blk_cell BK199.out 1).trans rfl; have hcz50_2 : w49.cell? ⟨gb199, 2, none⟩ = some (.int .i64 x200002_17) := (blk_cell BK199.out 2).trans rfl; have hcz50_3 : w49.cell? ⟨gb199, 3, none⟩ = some (.int .i64 x200003_17) := (blk_cell BK199.out 3).trans rfl; have hcz50_4 : w49.cell? ⟨gb199, 4, none⟩ = some (.int .i64 x200004_17) := (blk_cell BK199.out 4).trans rfl; have hfz50_0 := blk_frozen BK199.out 0; have hfz50_1 := blk_frozen BK199.out 1; have hfz50_2 := blk_frozen BK199.out 2; have hfz50_3 := blk_frozen BK199.out 3; have hfz50_4 := blk_frozen BK199.out 4) | ((with_reducible refine gate_callee (f := 19) rfl ?_); refine goesL_ (some 72) rfl rfl Try.func19 (by kernel_rfl) rfl #[.slice Ao23 t188.length co23, .int .i64 t198, .agg #[.string t191, .int .i64 t192, .int .i64 x200002_17, .int .i64 x200003_17, .int .i64 x200004_17]] rfl (by (try simp only [List.map_toArray, List.map_cons, List.map_nil]); first | done | rfl | (simp only [List.length_drop, List.length_take]; rfl)) ?_; (with_reducible refine (dynamics_Times.calls kj17 _ _ t188 t198 t191 t192 x200002_17 x200003_17 x200004_17 t208 t211 _ ?side1 ?side2 A45.out).mono ?_); (case side1 => repeat (first | exact (Kd.R_reads' HO_11.out).2.2 | (with_reducible refine Kd.C_alloc ?_ _) | (with_reducible refine Kd.C_drewN ?_ _) | (with_reducible refine Kd.C_drew ?_))); (case side2 => exact (Kd.R_reads' HO_11.out).2.1); rintro e w51 ⟨v209, rfl, ho0, hb⟩; refine ⟨_, rfl, ?_⟩; have n0_ := Aside0.mk (Kd.R_below (by (with_reducible repeat (first | apply Kd.R_alloc | apply Kd.R_drewN | apply Kd.R_drew)); exact HO_11.out) hb); have n1_ := Aside0.mk (Kd.R_elder' (by (with_reducible repeat (first | apply Kd.R_alloc | apply Kd.R_drewN | apply Kd.R_drew)); exact HO206.out) (Kd.R_base ho0) hb); have n2_ := Aside0.mk (Kd.R_lower (Kd.R_new' ho0 (Kd.R_lt (by (with_reducible repeat (first | apply Kd.R_alloc | apply Kd.R_drewN | apply Kd.R_drew)); exact HO206.out))) (below_size (by repeat (first | (with_reducible first | exact HB.out | apply below_alloc | apply pw_below_drewN | apply below_drew1 | refine below_set ?_ GE196.out | refine below_set ?_ GE199.out) | exact HB.out)))); have n3_ := Aside0.mk (blk_below (g := gb196) (o := .cells #[.string t191, .int .i64 t192, .int .i64 t193, .int .i64 t194, .int .i64 t195] 26 (0, 0)) (by (with_reducible repeat (first | refine blk_drewN ?_ _ | refine blk_drew ?_ | refine blk_alloc ?_ _)); exact BK196.out) hb); have n4_ := Aside0.mk (blk_below (g := gb199) (o := .cells #[.string t191, .int .i64 t192, .int .i64 x200002_17, .int .i64 x200003_17, .int .i64 x200004_17] 26 (0, 0)) (by (with_reducible repeat (first | refine blk_drewN ?_ _ | refine blk_drew ?_ | refine blk_alloc ?_ _)); exact BK199.out) hb); have n5_ := Aside0.mk (below_step (by repeat (first | (with_reducible first | exact HB.out | apply below_alloc | apply pw_below_drewN | apply below_drew1 | refine below_set ?_ GE196.out | refine below_set ?_ GE199.out) | exact HB.out)) hb); clear HO_11; clear HO206; clear BK196; clear BK199; clear HB; have HO_11 := n0_; have HO206 := n1_; have HO210 := n2_; have BK196 := n3_; have BK199 := n4_; have HB := n5_; clear n0_ n1_ n2_ n3_ n4_ n5_; (try clear hb); (try clear hb2); (try clear hk); (try clear hi); (try clear ho0)))
        (try simp only [Act.put, List.setIfInBounds_toArray, List.set_cons_zero, List.set_cons_succ])
        go_cut [92] (fun v92 wc => ∃ (kq : Nat) (x92_45 : Bool), v92 = .bool x92_45 ∧ Aside0 (railplanlaw6_DynamicsFasterIsNotLater.j1 kq t204 t208 x92_45 = some r) ∧ Aside0 (kq ≤ kj17) ∧ Aside0 (Kd.R (Kd.int .i64) 3 wc w.heap.size (fun k_ => some k_ ≠ (v209 : Value).ownBlock) v205 t204) ∧ Aside0 (Kd.R (Kd.int .i64) 3 wc w.heap.size (fun k_ => some k_ ≠ (v205 : Value).ownBlock) v209 t208) ∧ Aside0 (wc.heap[gb196]? = some (.cells #[.string t191, .int .i64 t192, .int .i64 t193, .int .i64 t194, .int .i64 t195] 26 (0, 0))) ∧ Aside0 (wc.heap[gb199]? = some (.cells #[.string t191, .int .i64 t192, .int .i64 x200002_17, .int .i64 x200003_17, .int .i64 x200004_17] 26 (0, 0))) ∧ Aside0 (Below w.heap.size w wc))
        case first =>
          have H := HC46.out
          clear HC46
          by_cases c52 : t207 = 0
          · rw [if_pos c52] at H
            have c52b0 : (t207 == 0) = true := beq_iff_eq.mpr c52
            have c52b1 : (t207 != 0) = false := bne_eq_false_iff_eq.mpr c52
            clear c52
            (first | rw [c52b0] | (simp only [i64_w, i32_w]; rw [c52b0]) | skip)
            by_cases c53 : t211 = 0
            · rw [if_pos c53] at H
              have c53b0 : (t211 == 0) = true := beq_iff_eq.mpr c53
              have c53b1 : (t211 != 0) = false := bne_eq_false_iff_eq.mpr c53
              clear c53
              by_cases c54 : (t204.length : Int) = (t208.length : Int)
              · rw [if_pos c54] at H
                have c54b0 : ((t204.length : Int) == (t208.length : Int)) = true := beq_iff_eq.mpr c54
                have c54b1 : ((t204.length : Int) != (t208.length : Int)) = false := bne_eq_false_iff_eq.mpr c54
                have c54b2 : (t204.length == t208.length) = true := by first | simpa using c54 | (simp at c54 ⊢; omega)
                clear c54
                have H' := Aside0.mk H
                clear H
                obtain ⟨Ao55, co55, eo55⟩ := Kd.R_slice HO206.out
                subst eo55
                obtain ⟨Ao56, co56, eo56⟩ := Kd.R_slice HO210.out
                subst eo56
                go_wp2
                go_meet
                case rel => exact ⟨_, (decide ((t204.length : Int) < 3)), (by first | rfl | (simp; done) | (simp [*]; done)), H', ⟨by have := HJ17.out; first | omega | exact Nat.le_refl _⟩, ⟨by (with_reducible repeat (first | apply Kd.R_alloc | apply Kd.R_drewN | apply Kd.R_drew)); exact Kd.R_mono HO206.out (fun _ hk => hk.2)⟩, ⟨by (with_reducible repeat (first | apply Kd.R_alloc | apply Kd.R_drewN | apply Kd.R_drew)); exact Kd.R_mono HO210.out (fun _ hk => hk.2)⟩, ⟨by (with_reducible repeat (first | refine blk_drewN ?_ _ | refine blk_drew ?_ | refine blk_alloc ?_ _)); exact BK196.out⟩, ⟨by (with_reducible repeat (first | refine blk_drewN ?_ _ | refine blk_drew ?_ | refine blk_alloc ?_ _)); exact BK199.out⟩, ⟨by repeat (first | (with_reducible first | exact HB.out | apply below_alloc | apply pw_below_drewN | apply below_drew1 | refine below_set ?_ GE196.out | refine below_set ?_ GE199.out) | exact HB.out)⟩⟩
              · rw [if_neg c54] at H
                have c54b0 : ((t204.length : Int) == (t208.length : Int)) = false := beq_eq_false_iff_ne.mpr c54
                have c54b1 : ((t204.length : Int) != (t208.length : Int)) = true := bne_iff_ne.mpr c54
                have c54b2 : (t204.length == t208.length) = false := by first | simpa using c54 | (simp at c54 ⊢; omega)
                have H' := Aside0.mk H
                clear H
                obtain ⟨Ao57, co57, eo57⟩ := Kd.R_slice HO206.out
                subst eo57
                obtain ⟨Ao58, co58, eo58⟩ := Kd.R_slice HO210.out
                subst eo58
                go_wp2
                go_meet
                case rel => exact ⟨_, (true), (by first | rfl | (simp; done) | (simp [*]; done)), H', ⟨by have := HJ17.out; first | omega | exact Nat.le_refl _⟩, ⟨by (with_reducible repeat (first | apply Kd.R_alloc | apply Kd.R_drewN | apply Kd.R_drew)); exact Kd.R_mono HO206.out (fun _ hk => hk.2)⟩, ⟨by (with_reducible repeat (first | apply Kd.R_alloc | apply Kd.R_drewN | apply Kd.R_drew)); exact Kd.R_mono HO210.out (fun _ hk => hk.2)⟩, ⟨by (with_reducible repeat (first | refine blk_drewN ?_ _ | refine blk_drew ?_ | refine blk_alloc ?_ _)); exact BK196.out⟩, ⟨by (with_reducible repeat (first | refine blk_drewN ?_ _ | refine blk_drew ?_ | refine blk_alloc ?_ _)); exact BK199.out⟩, ⟨by repeat (first | (with_reducible first | exact HB.out | apply below_alloc | apply pw_below_drewN | apply below_drew1 | refine below_set ?_ GE196.out | refine below_set ?_ GE199.out) | exact HB.out)⟩⟩
            · rw [if_neg c53] at H
              have c53b0 : (t211 == 0) = false := beq_eq_false_iff_ne.mpr c53
              have c53b1 : (t211 != 0) = true := bne_iff_ne.mpr c53
              have H' := Aside0.mk H
              clear H
              go_wp2
              go_meet
              case rel => exact ⟨_, (true), (by first | rfl | (simp; done) | (simp [*]; done)), H', ⟨by have := HJ17.out; first | omega | exact Nat.le_refl _⟩, ⟨by (with_reducible repeat (first | apply Kd.R_alloc | apply Kd.R_drewN | apply Kd.R_drew)); exact Kd.R_mono HO206.out (fun _ hk => hk.2)⟩, ⟨by (with_reducible repeat (first | apply Kd.R_alloc | apply Kd.R_drewN | apply Kd.R_drew)); exact Kd.R_mono HO210.out (fun _ hk => hk.2)⟩, ⟨by (with_reducible repeat (first | refine blk_drewN ?_ _ | refine blk_drew ?_ | refine blk_alloc ?_ _)); exact BK196.out⟩, ⟨by (with_reducible repeat (first | refine blk_drewN ?_ _ | refine blk_drew ?_ | refine blk_alloc ?_ _)); exact BK199.out⟩, ⟨by repeat (first | (with_reducible first | exact HB.out | apply below_alloc | apply pw_below_drewN | apply below_drew1 | refine below_set ?_ GE196.out | refine below_set ?_ GE199.out) | exact HB.out)⟩⟩
          · rw [if_neg c52] at H
            have c52b0 : (t207 == 0) = false := beq_eq_false_iff_ne.mpr c52
            have c52b1 : (t207 != 0) = true := bne_iff_ne.mpr c52
            (first | rw [c52b0] | (simp only [i64_w, i32_w]; rw [c52b0]) | skip)
            have H' := Aside0.mk H
            clear H
            go_wp2
            go_meet
            case rel => exact ⟨_, (true), (by first | rfl | (simp; done) | (simp [*]; done)), H', ⟨by have := HJ17.out; first | omega | exact Nat.le_refl _⟩, ⟨by (with_reducible repeat (first | apply Kd.R_alloc | apply Kd.R_drewN | apply Kd.R_drew)); exact Kd.R_mono HO206.out (fun _ hk => hk.2)⟩, ⟨by (with_reducible repeat (first | apply Kd.R_alloc | apply Kd.R_drewN | apply Kd.R_drew)); exact Kd.R_mono HO210.out (fun _ hk => hk.2)⟩, ⟨by (with_reducible repeat (first | refine blk_drewN ?_ _ | refine blk_drew ?_ | refine blk_alloc ?_ _)); exact BK196.out⟩, ⟨by (with_reducible repeat (first | refine blk_drewN ?_ _ | refine blk_drew ?_ | refine blk_alloc ?_ _)); exact BK199.out⟩, ⟨by repeat (first | (with_reducible first | exact HB.out | apply below_alloc | apply pw_below_drewN | apply below_drew1 | refine below_set ?_ GE196.out | refine below_set ?_ GE199.out) | exact HB.out)⟩⟩
        case rest =>
          clear HC46
          try clear c1
          try clear c2
          try clear p2
          try clear c3
          try clear c4
          try clear c5
          try clear p6
          try clear c8
          try clear c8b0
          try clear c8b1
          try clear c13
          try clear c14
          try clear c15
          try clear c16
          try clear c19
          try clear c25
          try clear c27
          try clear c27b0
          try clear c27b1
          try clear c33
          try clear c33b0
          try clear c33b1
          try clear c47
          try clear c52
          try clear c52b0
          try clear c52b1
          try clear c53
          try clear c53b0
          try clear c53b1
          try clear c54
          try clear c54b0
          try clear c54b1
          try clear c54b2
          try clear hcz13_0
          try clear hcz13_1
          try clear hcz13_2
          try clear hcz13_3
          try clear hcz13_4
          try clear hcz22_0
          try clear hcz22_1
          try clear hcz22_2
          try clear hcz22_3
          try clear hcz22_4
          try clear hcz26_0
          try clear hcz26_1
          try clear hcz26_2
          try clear hcz26_3
          try clear hcz26_4
          try clear hcz48_0
          try clear hcz48_1
          try clear hcz48_2
          try clear hcz48_3
          try clear hcz48_4
          try clear hcz50_0
          try clear hcz50_1
          try clear hcz50_2
          try clear hcz50_3
          try clear hcz50_4
          try clear hfz13_0
          try clear hfz13_1
          try clear hfz13_2
          try clear hfz13_3
          try clear hfz13_4
          try clear hfz22_0
          try clear hfz22_1
          try clear hfz22_2
          try clear hfz22_3
          try clear hfz22_4
          try clear hfz26_0
          try clear hfz26_1
          try clear hfz26_2
          try clear hfz26_3
          try clear hfz26_4
          try clear hfz48_0
          try clear hfz48_1
          try clear hfz48_2
          try clear hfz48_3
          try clear hfz48_4
          try clear hfz50_0
          try clear hfz50_1
          try clear hfz50_2
          try clear hfz50_3
          try clear hfz50_4
          try clear p2
          try clear p6
          obtain ⟨kq, x92_45, rfl, HA, HJ45, HO_14, HO_16, BK196, BK199, HB⟩ := hcut
          cases kq with
          | zero => exact absurd HA.out (by simp [railplanlaw6_DynamicsFasterIsNotLater.j1])
          | succ kj45 =>
            have H := HA.out
            clear HA
            simp only [railplanlaw6_DynamicsFasterIsNotLater.j1] at H
            by_cases c59 : x92_45 = true
            · subst c59
              have H1 : (some false) = some r := by rw [if_pos rfl] at H; exact H
              clear H
              have H := H1
              clear H1
              obtain rfl := Option.some.inj H
              go_wp2
              go_ret
              exact ⟨by first | rfl | (simp [errW_none, errW_some] <;> rfl) | (simp [*, errW_none, errW_some] <;> rfl), by repeat (first | (with_reducible first | exact HB.out | apply below_alloc | apply pw_below_drewN | apply below_drew1 | refine below_set ?_ GE196.out | refine below_set ?_ GE199.out) | exact HB.out)⟩
            · replace c59 := Bool.eq_false_iff.mpr c59
              subst c59
              have H1 : (railplanlaw6_DynamicsFasterIsNotLater.l0 kj45 t204 t208 (t204.length : Int) 0) = some r := by rw [if_neg (show ¬ (false = true) by decide)] at H; exact H
              clear H
              have H := H1
              clear H1
              have H' := Aside0.mk H
              clear H
              obtain ⟨Ao60, co60, eo60⟩ := Kd.R_slice HO_14.out
              subst eo60
              go_wp2
              go_loopg [95] kj45 (fun kq v95 w' => ∃ (x95_3 : Int), v95 = .int .i64 x95_3 ∧ Aside0 (railplanlaw6_DynamicsFasterIsNotLater.l0 kq t204 t208 (t204.length : Int) x95_3 = some r) ∧ Aside0 (kq ≤ kj45) ∧ Aside0 (Kd.R (Kd.int .i64) 3 w' w.heap.size (fun k_ => some k_ ≠ (v209 : Value).ownBlock) (.slice Ao60 t204.length co60) t204) ∧ Aside0 (Kd.R (Kd.int .i64) 3 w' w.heap.size (fun k_ => some k_ ≠ ((.slice Ao60 t204.length co60) : Value).ownBlock) v209 t208) ∧ Aside0 (w'.heap[gb196]? = some (.cells #[.string t191, .int .i64 t192, .int .i64 t193, .int .i64 t194, .int .i64 t195] 26 (0, 0))) ∧ Aside0 (w'.heap[gb199]? = some (.cells #[.string t191, .int .i64 t192, .int .i64 x200002_17, .int .i64 x200003_17, .int .i64 x200004_17] 26 (0, 0))) ∧ Aside0 (Below w.heap.size w w'))
              case atStart => exact ⟨(0), (by first | rfl | (simp; done) | (simp [*]; done)), H', ⟨Nat.le_refl _⟩, ⟨by (with_reducible repeat (first | apply Kd.R_alloc | apply Kd.R_drewN | apply Kd.R_drew)); exact HO_14.out⟩, ⟨by (with_reducible repeat (first | apply Kd.R_alloc | apply Kd.R_drewN | apply Kd.R_drew)); exact HO_16.out⟩, ⟨by (with_reducible repeat (first | refine blk_drewN ?_ _ | refine blk_drew ?_ | refine blk_alloc ?_ _)); exact BK196.out⟩, ⟨by (with_reducible repeat (first | refine blk_drewN ?_ _ | refine blk_drew ?_ | refine blk_alloc ?_ _)); exact BK199.out⟩, ⟨by repeat (first | (with_reducible first | exact HB.out | apply below_alloc | apply pw_below_drewN | apply below_drew1 | refine below_set ?_ GE196.out | refine below_set ?_ GE199.out) | exact HB.out)⟩⟩
              case round =>
                clear H'
                try clear c1
                try clear c2
                try clear p2
                try clear c3
                try clear c4
                try clear c5
                try clear p6
                try clear c8
                try clear c8b0
                try clear c8b1
                try clear c13
                try clear c14
                try clear c15
                try clear c16
                try clear c19
                try clear c25
                try clear c27
                try clear c27b0
                try clear c27b1
                try clear c33
                try clear c33b0
                try clear c33b1
                try clear c47
                try clear c52
                try clear c52b0
                try clear c52b1
                try clear c53
                try clear c53b0
                try clear c53b1
                try clear c54
                try clear c54b0
                try clear c54b1
                try clear c54b2
                try clear c59
                try clear hcz13_0
                try clear hcz13_1
                try clear hcz13_2
                try clear hcz13_3
                try clear hcz13_4
                try clear hcz22_0
                try clear hcz22_1
                try clear hcz22_2
                try clear hcz22_3
                try clear hcz22_4
                try clear hcz26_0
                try clear hcz26_1
                try clear hcz26_2
                try clear hcz26_3
                try clear hcz26_4
                try clear hcz48_0
                try clear hcz48_1
                try clear hcz48_2
                try clear hcz48_3
                try clear hcz48_4
                try clear hcz50_0
                try clear hcz50_1
                try clear hcz50_2
                try clear hcz50_3
                try clear hcz50_4
                try clear hfz13_0
                try clear hfz13_1
                try clear hfz13_2
                try clear hfz13_3
                try clear hfz13_4
                try clear hfz22_0
                try clear hfz22_1
                try clear hfz22_2
                try clear hfz22_3
                try clear hfz22_4
                try clear hfz26_0
                try clear hfz26_1
                try clear hfz26_2
                try clear hfz26_3
                try clear hfz26_4
                try clear hfz48_0
                try clear hfz48_1
                try clear hfz48_2
                try clear hfz48_3
                try clear hfz48_4
                try clear hfz50_0
                try clear hfz50_1
                try clear hfz50_2
                try clear hfz50_3
                try clear hfz50_4
                try clear p2
                try clear p6
                obtain ⟨x95_3, rfl, HA, HK3, HO_14, HO_16, BK196, BK199, HB⟩ := hrel
                cases gk with
                | zero => exact absurd HA.out (by simp [railplanlaw6_DynamicsFasterIsNotLater.l0])
                | succ k3 =>
                  have H := HA.out
                  clear HA
                  simp only [railplanlaw6_DynamicsFasterIsNotLater.l0] at H
                  by_cases c61 : x95_3 < (t204.length : Int)
                  · rw [if_pos c61] at H
                    have c61b0 : decide (x95_3 < (t204.length : Int)) = true := decide_eq_true c61
                    clear c61
                    by_cases c62 : 0 ≤ x95_3
                    · rw [if_pos c62] at H
                      have c62b0 : decide (0 ≤ x95_3) = true := decide_eq_true c62
                      clear c62
                      by_cases c63 : x95_3 < (t208.length : Int)
                      · rw [if_pos c63] at H
                        have c63b0 : decide (x95_3 < (t208.length : Int)) = true := decide_eq_true c63
                        clear c63
                        by_cases c64 : x95_3 < (t204.length : Int)
                        · rw [if_pos c64] at H
                          have c64b0 : decide (x95_3 < (t204.length : Int)) = true := decide_eq_true c64
                          clear c64
                          by_cases c65 : (rd t208 x95_3) > (rd t204 x95_3)
                          · rw [if_pos c65] at H
                            have c65b0 : decide ((rd t204 x95_3) < (rd t208 x95_3)) = true := decide_eq_true c65
                            clear c65
                            obtain rfl := Option.some.inj H
                            try go_wp2
                            have n0_ := Aside0.mk (Kd.R_drew HO_14.out)
                            have n1_ := Aside0.mk (Kd.R_drew HO_16.out)
                            have n2_ := Aside0.mk (blk_drew BK196.out)
                            have n3_ := Aside0.mk (blk_drew BK199.out)
                            have n4_ := Aside0.mk (below_drew1 HB.out)
                            clear HO_14
                            clear HO_16
                            clear BK196
                            clear BK199
                            clear HB
                            have HO_14 := n0_
                            have HO_16 := n1_
                            have BK196 := n2_
                            have BK199 := n3_
                            have HB := n4_
                            clear n0_ n1_ n2_ n3_ n4_
                            obtain ⟨Ao67, co67, eo67⟩ := Kd.R_slice HO_16.out
                            (first | subst eo67 | (injection eo67 with f1_ f2_ f3_; have f4_ := f1_.symm; have f5_ := f3_.symm; clear f1_ f2_ f3_; subst f4_; subst f5_))
                            have p212 : 0 ≤ (x95_3 : Int) := of_decide_eq_true (by first | (with_reducible assumption) | assumption)
                            have q212 : x95_3 < (t208.length : Int) := of_decide_eq_true (by first | (with_reducible assumption) | assumption)
                            obtain ⟨ad212, e212, hx212_0⟩ := Kd.at_int (Kd.R_reads' HO_16.out).2.2 x95_3 p212 q212
                            cases e212
                            replace p212 := eq_true p212
                            replace q212 := eq_true q212
                            have p213 : 0 ≤ (x95_3 : Int) := of_decide_eq_true (by first | (with_reducible assumption) | assumption)
                            have q213 : x95_3 < (t204.length : Int) := of_decide_eq_true (by first | (with_reducible assumption) | assumption)
                            obtain ⟨ad213, e213, hx213_0⟩ := Kd.at_int (Kd.R_reads' HO_14.out).2.2 x95_3 p213 q213
                            cases e213
                            replace p213 := eq_true p213
                            replace q213 := eq_true q213
                            refine start_ (n := 9) (S := fun w' => w'.cell? (ad212.add (x95_3).toNat) = some (.int .i64 (rd t208 x95_3)) ∧ w'.cell? (ad213.add (x95_3).toNat) = some (.int .i64 (rd t204 x95_3))) (ds := []) #[false, false, false, false, false, false, false, false, false] (by kernel_rfl) rfl rfl ⟨hx212_0, hx213_0⟩ (fun hHeld => ?_); refine with_tabW railplanlaw6_DynamicsFasterIsNotLater.tab19 railplanlaw6_DynamicsFasterIsNotLater.bits19 (fun HT_ HW_ => ?_)
                            generalize wr.drew = w66 at HO_14 HO_16 BK196 BK199 HB hx212_0 hx213_0 hHeld ⊢
                            refine pure_ (i := 0) (N := some 98) (v := ?_) (a' := ?_) #[true, false, false, false, false, false, false, false, false] rfl rfl (any_of HT_.out (by kernel_rfl)) (fun _ _ _ h => h) (Or.inl ⟨by rfl, ?_⟩) ?_ ?_
                            rotate_left
                            · intro w'
                              go_simp
                              with_reducible rfl
                            rotate_left
                            · simp only [Act.put, List.setIfInBounds_toArray, List.set_cons_zero, List.set_cons_succ, i64_w, i32_w]
                              rfl
                            refine pure_ (i := 1) (N := some 99) (v := ?_) (a' := ?_) #[true, true, false, false, false, false, false, false, false] rfl rfl (any_of HT_.out (by kernel_rfl)) (fun _ _ _ h => h) (Or.inl ⟨by rfl, ?_⟩) ?_ ?_
                            rotate_left
                            · intro w'
                              go_simp
                              with_reducible rfl
                            rotate_left
                            · simp only [Act.put, List.setIfInBounds_toArray, List.set_cons_zero, List.set_cons_succ, i64_w, i32_w]
                              rfl
                            refine pure_ (i := 2) (N := some 100) (v := ?_) (a' := ?_) #[true, true, true, false, false, false, false, false, false] rfl rfl (any_of HT_.out (by kernel_rfl)) (fun _ _ _ h => h) (Or.inl ⟨by rfl, ?_⟩) ?_ ?_
                            rotate_left
                            · intro w'
                              go_simp
                              with_reducible rfl
                            rotate_left
                            · simp only [Act.put, List.setIfInBounds_toArray, List.set_cons_zero, List.set_cons_succ, i64_w, i32_w]
                              rfl
                            refine pure_ (i := 4) (N := some 102) (v := ?_) (a' := ?_) #[true, true, true, false, true, false, false, false, false] rfl rfl (any_of HT_.out (by kernel_rfl)) (fun _ _ _ h => h) (Or.inl ⟨by rfl, ?_⟩) ?_ ?_
                            rotate_left
                            · intro w'
                              go_simp
                              with_reducible rfl
                            rotate_left
                            · simp only [Act.put, List.setIfInBounds_toArray, List.set_cons_zero, List.set_cons_succ, i64_w, i32_w]
                              rfl
                            refine pure_ (i := 5) (N := some 103) (v := ?_) (a' := ?_) #[true, true, true, false, true, true, false, false, false] rfl rfl (any_of HT_.out (by kernel_rfl)) (fun _ _ _ h => h) (Or.inl ⟨by rfl, ?_⟩) ?_ ?_
                            rotate_left
                            · intro w'
                              go_simp
                              with_reducible rfl
                            rotate_left
                            · simp only [Act.put, List.setIfInBounds_toArray, List.set_cons_zero, List.set_cons_succ, i64_w, i32_w]
                              rfl
                            refine pure_ (i := 6) (N := some 104) (v := ?_) (a' := ?_) #[true, true, true, false, true, true, true, false, false] rfl rfl (any_of HT_.out (by kernel_rfl)) (fun _ _ _ h => h) (Or.inl ⟨by rfl, ?_⟩) ?_ ?_
                            rotate_left
                            · intro w'
                              go_simp
                              with_reducible rfl
                            rotate_left
                            · simp only [Act.put, List.setIfInBounds_toArray, List.set_cons_zero, List.set_cons_succ, i64_w, i32_w]
                              rfl
                            refine take_ (i := 3) (N := some 101) (v := ?_) (a' := ?_) #[true, true, true, true, true, true, true, false, false] rfl rfl (take_ofW HT_.out HW_.out (by kernel_rfl)) (fun _ _ _ h => h) (Or.inl ⟨by rfl, ?_⟩) hHeld ?_ ?_
                            rotate_left
                            · rintro w' ⟨s0, s1⟩
                              go_simp
                              with_reducible rfl
                            rotate_left
                            · simp only [Act.put, List.setIfInBounds_toArray, List.set_cons_zero, List.set_cons_succ, i64_w, i32_w]
                              rfl
                            refine take_ (i := 7) (N := some 105) (v := ?_) (a' := ?_) #[true, true, true, true, true, true, true, true, false] rfl rfl (take_ofW HT_.out HW_.out (by kernel_rfl)) (fun _ _ _ h => h) (Or.inl ⟨by rfl, ?_⟩) hHeld ?_ ?_
                            rotate_left
                            · rintro w' ⟨s0, s1⟩
                              go_simp
                              with_reducible rfl
                            rotate_left
                            · simp only [Act.put, List.setIfInBounds_toArray, List.set_cons_zero, List.set_cons_succ, i64_w, i32_w]
                              rfl
                            refine pure_ (i := 8) (N := some 106) (v := ?_) (a' := ?_) #[true, true, true, true, true, true, true, true, true] rfl rfl (any_of HT_.out (by kernel_rfl)) (fun _ _ _ h => h) (Or.inl ⟨by rfl, ?_⟩) ?_ ?_
                            rotate_left
                            · intro w'
                              go_simp
                              with_reducible rfl
                            rotate_left
                            · simp only [Act.put, List.setIfInBounds_toArray, List.set_cons_zero, List.set_cons_succ, i64_w, i32_w]
                              rfl
                            refine done_ (done_of HT_.out (by kernel_rfl)) ?_
                            try go_wp2
                            go_ret
                            exact ⟨by first | rfl | (simp [errW_none, errW_some] <;> rfl) | (simp [*, errW_none, errW_some] <;> rfl), by repeat (first | (with_reducible first | exact HB.out | apply below_alloc | apply pw_below_drewN | apply below_drew1 | refine below_set ?_ GE196.out | refine below_set ?_ GE199.out) | exact HB.out)⟩
                          · rw [if_neg c65] at H
                            have c65b0 : decide ((rd t204 x95_3) < (rd t208 x95_3)) = false := decide_eq_false c65
                            clear c65
                            have H' := Aside0.mk H
                            clear H
                            try go_wp2
                            have n0_ := Aside0.mk (Kd.R_drew HO_14.out)
                            have n1_ := Aside0.mk (Kd.R_drew HO_16.out)
                            have n2_ := Aside0.mk (blk_drew BK196.out)
                            have n3_ := Aside0.mk (blk_drew BK199.out)
                            have n4_ := Aside0.mk (below_drew1 HB.out)
                            clear HO_14
                            clear HO_16
                            clear BK196
                            clear BK199
                            clear HB
                            have HO_14 := n0_
                            have HO_16 := n1_
                            have BK196 := n2_
                            have BK199 := n3_
                            have HB := n4_
                            clear n0_ n1_ n2_ n3_ n4_
                            obtain ⟨Ao69, co69, eo69⟩ := Kd.R_slice HO_16.out
                            (first | subst eo69 | (injection eo69 with f1_ f2_ f3_; have f4_ := f1_.symm; have f5_ := f3_.symm; clear f1_ f2_ f3_; subst f4_; subst f5_))
                            have p212 : 0 ≤ (x95_3 : Int) := of_decide_eq_true (by first | (with_reducible assumption) | assumption)
                            have q212 : x95_3 < (t208.length : Int) := of_decide_eq_true (by first | (with_reducible assumption) | assumption)
                            obtain ⟨ad212, e212, hx212_0⟩ := Kd.at_int (Kd.R_reads' HO_16.out).2.2 x95_3 p212 q212
                            cases e212
                            replace p212 := eq_true p212
                            replace q212 := eq_true q212
                            have p213 : 0 ≤ (x95_3 : Int) := of_decide_eq_true (by first | (with_reducible assumption) | assumption)
                            have q213 : x95_3 < (t204.length : Int) := of_decide_eq_true (by first | (with_reducible assumption) | assumption)
                            obtain ⟨ad213, e213, hx213_0⟩ := Kd.at_int (Kd.R_reads' HO_14.out).2.2 x95_3 p213 q213
                            cases e213
                            replace p213 := eq_true p213
                            replace q213 := eq_true q213
                            refine start_ (n := 9) (S := fun w' => w'.cell? (ad212.add (x95_3).toNat) = some (.int .i64 (rd t208 x95_3)) ∧ w'.cell? (ad213.add (x95_3).toNat) = some (.int .i64 (rd t204 x95_3))) (ds := []) #[false, false, false, false, false, false, false, false, false] (by kernel_rfl) rfl rfl ⟨hx212_0, hx213_0⟩ (fun hHeld => ?_); refine with_tabW railplanlaw6_DynamicsFasterIsNotLater.tab19 railplanlaw6_DynamicsFasterIsNotLater.bits19 (fun HT_ HW_ => ?_)
                            generalize wr.drew = w68 at HO_14 HO_16 BK196 BK199 HB hx212_0 hx213_0 hHeld ⊢
                            refine pure_ (i := 0) (N := some 98) (v := ?_) (a' := ?_) #[true, false, false, false, false, false, false, false, false] rfl rfl (any_of HT_.out (by kernel_rfl)) (fun _ _ _ h => h) (Or.inl ⟨by rfl, ?_⟩) ?_ ?_
                            rotate_left
                            · intro w'
                              go_simp
                              with_reducible rfl
                            rotate_left
                            · simp only [Act.put, List.setIfInBounds_toArray, List.set_cons_zero, List.set_cons_succ, i64_w, i32_w]
                              rfl
                            refine pure_ (i := 1) (N := some 99) (v := ?_) (a' := ?_) #[true, true, false, false, false, false, false, false, false] rfl rfl (any_of HT_.out (by kernel_rfl)) (fun _ _ _ h => h) (Or.inl ⟨by rfl, ?_⟩) ?_ ?_
                            rotate_left
                            · intro w'
                              go_simp
                              with_reducible rfl
                            rotate_left
                            · simp only [Act.put, List.setIfInBounds_toArray, List.set_cons_zero, List.set_cons_succ, i64_w, i32_w]
                              rfl
                            refine pure_ (i := 2) (N := some 100) (v := ?_) (a' := ?_) #[true, true, true, false, false, false, false, false, false] rfl rfl (any_of HT_.out (by kernel_rfl)) (fun _ _ _ h => h) (Or.inl ⟨by rfl, ?_⟩) ?_ ?_
                            rotate_left
                            · intro w'
                              go_simp
                              with_reducible rfl
                            rotate_left
                            · simp only [Act.put, List.setIfInBounds_toArray, List.set_cons_zero, List.set_cons_succ, i64_w, i32_w]
                              rfl
                            refine pure_ (i := 4) (N := some 102) (v := ?_) (a' := ?_) #[true, true, true, false, true, false, false, false, false] rfl rfl (any_of HT_.out (by kernel_rfl)) (fun _ _ _ h => h) (Or.inl ⟨by rfl, ?_⟩) ?_ ?_
                            rotate_left
                            · intro w'
                              go_simp
                              with_reducible rfl
                            rotate_left
                            · simp only [Act.put, List.setIfInBounds_toArray, List.set_cons_zero, List.set_cons_succ, i64_w, i32_w]
                              rfl
                            refine pure_ (i := 5) (N := some 103) (v := ?_) (a' := ?_) #[true, true, true, false, true, true, false, false, false] rfl rfl (any_of HT_.out (by kernel_rfl)) (fun _ _ _ h => h) (Or.inl ⟨by rfl, ?_⟩) ?_ ?_
                            rotate_left
                            · intro w'
                              go_simp
                              with_reducible rfl
                            rotate_left
                            · simp only [Act.put, List.setIfInBounds_toArray, List.set_cons_zero, List.set_cons_succ, i64_w, i32_w]
                              rfl
                            refine pure_ (i := 6) (N := some 104) (v := ?_) (a' := ?_) #[true, true, true, false, true, true, true, false, false] rfl rfl (any_of HT_.out (by kernel_rfl)) (fun _ _ _ h => h) (Or.inl ⟨by rfl, ?_⟩) ?_ ?_
                            rotate_left
                            · intro w'
                              go_simp
                              with_reducible rfl
                            rotate_left
                            · simp only [Act.put, List.setIfInBounds_toArray, List.set_cons_zero, List.set_cons_succ, i64_w, i32_w]
                              rfl
                            refine take_ (i := 3) (N := some 101) (v := ?_) (a' := ?_) #[true, true, true, true, true, true, true, false, false] rfl rfl (take_ofW HT_.out HW_.out (by kernel_rfl)) (fun _ _ _ h => h) (Or.inl ⟨by rfl, ?_⟩) hHeld ?_ ?_
                            rotate_left
                            · rintro w' ⟨s0, s1⟩
                              go_simp
                              with_reducible rfl
                            rotate_left
                            · simp only [Act.put, List.setIfInBounds_toArray, List.set_cons_zero, List.set_cons_succ, i64_w, i32_w]
                              rfl
                            refine take_ (i := 7) (N := some 105) (v := ?_) (a' := ?_) #[true, true, true, true, true, true, true, true, false] rfl rfl (take_ofW HT_.out HW_.out (by kernel_rfl)) (fun _ _ _ h => h) (Or.inl ⟨by rfl, ?_⟩) hHeld ?_ ?_
                            rotate_left
                            · rintro w' ⟨s0, s1⟩
                              go_simp
                              with_reducible rfl
                            rotate_left
                            · simp only [Act.put, List.setIfInBounds_toArray, List.set_cons_zero, List.set_cons_succ, i64_w, i32_w]
                              rfl
                            refine pure_ (i := 8) (N := some 106) (v := ?_) (a' := ?_) #[true, true, true, true, true, true, true, true, true] rfl rfl (any_of HT_.out (by kernel_rfl)) (fun _ _ _ h => h) (Or.inl ⟨by rfl, ?_⟩) ?_ ?_
                            rotate_left
                            · intro w'
                              go_simp
                              with_reducible rfl
                            rotate_left
                            · simp only [Act.put, List.setIfInBounds_toArray, List.set_cons_zero, List.set_cons_succ, i64_w, i32_w]
                              rfl
                            refine done_ (done_of HT_.out (by kernel_rfl)) ?_
                            try go_wp2
                            go_roundg k3
                            case measure => have := HJ17.out; have := HJ45.out; have := HK3.out; omega
                            case rel => exact ⟨(wrap64 (x95_3 + 1)), (by first | rfl | (simp; done) | (simp [*]; done)), H', ⟨by have := HJ17.out; have := HJ45.out; have := HK3.out; omega⟩, ⟨by (with_reducible repeat (first | apply Kd.R_alloc | apply Kd.R_drewN | apply Kd.R_drew)); exact HO_14.out⟩, ⟨by (with_reducible repeat (first | apply Kd.R_alloc | apply Kd.R_drewN | apply Kd.R_drew)); exact HO_16.out⟩, ⟨by (with_reducible repeat (first | refine blk_drewN ?_ _ | refine blk_drew ?_ | refine blk_alloc ?_ _)); exact BK196.out⟩, ⟨by (with_reducible repeat (first | refine blk_drewN ?_ _ | refine blk_drew ?_ | refine blk_alloc ?_ _)); exact BK199.out⟩, ⟨by repeat (first | (with_reducible first | exact HB.out | apply below_alloc | apply pw_below_drewN | apply below_drew1 | refine below_set ?_ GE196.out | refine below_set ?_ GE199.out) | exact HB.out)⟩⟩
                        · rw [if_neg c64] at H
                          exact absurd H (by simp)
                      · rw [if_neg c63] at H
                        exact absurd H (by simp)
                    · rw [if_neg c62] at H
                      exact absurd H (by simp)
                  · rw [if_neg c61] at H
                    have c61b0 : decide (x95_3 < (t204.length : Int)) = false := decide_eq_false c61
                    clear c61
                    by_cases c70 : 1 < (t204.length : Int)
                    · rw [if_pos c70] at H
                      have c70b0 : decide (1 < (t204.length : Int)) = true := decide_eq_true c70
                      have c70b1 : decide (1 < t204.length) = true := decide_eq_true (by omega)
                      clear c70
                      obtain rfl := Option.some.inj H
                      have p214 : 0 ≤ (1 : Int) := (by omega)
                      have q214 : 1 < (t204.length : Int) := of_decide_eq_true (by first | (with_reducible assumption) | assumption)
                      obtain ⟨ad214, e214, hx214_0⟩ := Kd.at_int (Kd.R_reads' HO_14.out).2.2 1 p214 q214
                      cases e214
                      (try simp only [show (1 : Int).toNat = 1 from rfl, Nat.reduceMul, Nat.reduceEqDiff, Go.Addr.add, ↓reduceIte] at hx214_0)
                      have qi214 : (1 < t204.length) = True := eq_true (by omega)
                      (try rw [show ((1 : Int)).toNat = 1 from rfl] at hx214_0)
                      replace p214 := eq_true p214
                      replace q214 := eq_true q214
                      go_wp2
                      go_ret
                      exact ⟨by first | rfl | (simp [errW_none, errW_some] <;> rfl) | (simp [*, errW_none, errW_some] <;> rfl), by repeat (first | (with_reducible first | exact HB.out | apply below_alloc | apply pw_below_drewN | apply below_drew1 | refine below_set ?_ GE196.out | refine below_set ?_ GE199.out) | exact HB.out)⟩
                    · rw [if_neg c70] at H
                      exact absurd H (by simp)

/-- THE ONE PURE STATEMENT of railplanlaw6_DynamicsFasterIsNotLater: yours. -/
def railplanlaw6_DynamicsFasterIsNotLater.Pure : Prop := ∀ (l0 : List Int) (l1 : List Int) (a2 : Int) (a3 : Int) (a4 : Int), l0.length ≤ maxLen → l0.length * 8 ≤ 140737488351232 → (∀ x ∈ l0, (Lit.int .i64 x).wf = true) → l1.length ≤ maxLen → l1.length * 8 ≤ 140737488351232 → (∀ x ∈ l1, (Lit.int .i64 x).wf = true) → (Lit.int .i64 a2).wf = true → (Lit.int .i64 a3).wf = true → (Lit.int .i64 a4).wf = true → ∃ k, railplanlaw6_DynamicsFasterIsNotLater.f k l0 l1 a2 a3 a4 = some true
theorem railplanlaw6_DynamicsFasterIsNotLater.walk (P : railplanlaw6_DynamicsFasterIsNotLater.Pure) (a0 : Option Addr) (len0 cap0 : Nat) (z0 : List Int) (a1 : Option Addr) (len1 cap1 : Nat) (z1 : List Int) (a2 : Int) (a3 : Int) (a4 : Int) (w : World) (w0 : (a0 = none ∧ len0 = 0 ∧ cap0 = 0 ∧ z0 = []) ∨ ∃ x, a0 = some x ∧ len0 ≤ cap0 ∧ cap0 ≤ maxLen ∧ z0.length = cap0 ∧ (∀ i, i < z0.length → w.cell? (x.add i) = some (.int .i64 (z0.getD i 0))) ∧ ∀ n ∈ z0, (Lit.int .i64 n).wf = true) (y0 : len0 * 8 ≤ 140737488351232) (w1 : (a1 = none ∧ len1 = 0 ∧ cap1 = 0 ∧ z1 = []) ∨ ∃ x, a1 = some x ∧ len1 ≤ cap1 ∧ cap1 ≤ maxLen ∧ z1.length = cap1 ∧ (∀ i, i < z1.length → w.cell? (x.add i) = some (.int .i64 (z1.getD i 0))) ∧ ∀ n ∈ z1, (Lit.int .i64 n).wf = true) (y1 : len1 * 8 ≤ 140737488351232) (w2 : (Lit.int .i64 a2).wf = true) (w3 : (Lit.int .i64 a3).wf = true) (w4 : (Lit.int .i64 a4).wf = true) :
    Calls Try.prog 5 #[.slice a0 len0 cap0, .slice a1 len1 cap1, .int .i64 a2, .int .i64 a3, .int .i64 a4] w fun e w' => e = .returned (.bool true) ∧ Below w.heap.size w w' := by
  obtain ⟨l0, rfl, hr0, hm0, hw0, hc0⟩ := ReadsInt.ofRowC w0
  obtain ⟨l1, rfl, hr1, hm1, hw1, hc1⟩ := ReadsInt.ofRowC w1
  obtain ⟨k, h⟩ := P l0 l1 a2 a3 a4 hm0 y0 hw0 hm1 y1 hw1 w2 w3 w4
  refine (railplanlaw6_DynamicsFasterIsNotLater.calls k _ _ l0 _ _ l1 a2 a3 a4 true w (Kd.C_of_reads (d := (0 : Int)) (h1 := fun _ => rfl) hr0) hc0 (Kd.C_of_reads (d := (0 : Int)) (h1 := fun _ => rfl) hr1) hc1 h).mono ?_
  rintro e w' ⟨rfl, hd⟩
  exact ⟨rfl, hd⟩

end Go.Proofs.Ytfnpoalffpnllaa.XDynamicsFasterIsNotLater
