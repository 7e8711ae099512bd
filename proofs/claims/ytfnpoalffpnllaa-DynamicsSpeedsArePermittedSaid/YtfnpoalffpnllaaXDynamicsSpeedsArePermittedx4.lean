-- This session's own text, written by wip/tools/xprint.py after the form of the kit's print.
import Derived.Test.YtfnpoalffpnllaaXDynamicsSpeedsArePermittedx0
import Derived.Test.YtfnpoalffpnllaaXDynamicsSpeedsArePermittedx1
import Derived.Test.YtfnpoalffpnllaaXDynamicsSpeedsArePermittedx3
namespace Go.Proofs.Ytfnpoalffpnllaa.XDynamicsSpeedsArePermitted
open Go.RowKit Go.Proofs.YtfnpoalffpnllaaW.PrintWords Go.Proofs.YtfnpoalffpnllaaW.PrintLast Go.Proofs.YtfnpoalffpnllaaW.PrintMore
attribute [local go_sem] max2_int min2_int max_two min_two max_three min_three max_four min_four   -- for this text's walks alone
set_option linter.unusedVariables false
set_option linter.unusedSimpArgs false

/-! ### railplanlaw6_DynamicsSpeedsArePermitted: function 3 -/
mutual
def railplanlaw6_DynamicsSpeedsArePermitted.j0 : Nat → Int → List (S34) → List Int → Bool → ByteArray → Int → Int → Int → Int → Option (Bool)
  | 0, _, _, _, _, _, _, _, _, _ => none
  | k + 1, x2, x7, x9, x61, x181000, x181001, x181002, x181003, x181004 => if x61 = true then (some false) else (railplanlaw6_DynamicsSpeedsArePermitted.l0 k x2 x7 x9 1 x181000 x181001 x181002 x181003 x181004)
def railplanlaw6_DynamicsSpeedsArePermitted.l0 : Nat → Int → List (S34) → List Int → Int → ByteArray → Int → Int → Int → Int → Option (Bool)
  | 0, _, _, _, _, _, _, _, _, _ => none
  | k + 1, x2, x7, x9, x11, x181000, x181001, x181002, x181003, x181004 => if x11 < (x9.length : Int) then (if 0 ≤ x11 then (if 0 ≤ (wrap64 (x11 - 1)) then (if (wrap64 (x11 - 1)) < (x9.length : Int) then (if (mx (wrap64 ((wrap64 ((rd x9 x11) * (rd x9 x11))) - (wrap64 ((wrap64 ((rd x9 (wrap64 (x11 - 1))) + 1)) * (wrap64 ((rd x9 (wrap64 (x11 - 1))) + 1)))))) (wrap64 ((wrap64 ((rd x9 (wrap64 (x11 - 1))) * (rd x9 (wrap64 (x11 - 1))))) - (wrap64 ((wrap64 ((rd x9 x11) + 1)) * (wrap64 ((rd x9 x11) + 1))))))) > (wrap64 (20000 * (mx x181003 x181004))) then (some false) else (railplanlaw6_DynamicsSpeedsArePermitted.l1 k x2 x7 x9 x11 (wrap64 ((wrap64 (x2 + x11)) - 1)) (mx 0 (wrap64 ((wrap64 ((wrap64 (x2 + x11)) - 1)) - x181001))) x181000 x181001 x181002 x181003 x181004)) else (none)) else (none)) else (none)) else (some true)
def railplanlaw6_DynamicsSpeedsArePermitted.l1 : Nat → Int → List (S34) → List Int → Int → Int → Int → ByteArray → Int → Int → Int → Int → Option (Bool)
  | 0, _, _, _, _, _, _, _, _, _, _, _ => none
  | k + 1, x2, x7, x9, x11, x12, x13, x181000, x181001, x181002, x181003, x181004 => if x13 ≤ x12 then (if 0 ≤ x11 then (if x11 < (x9.length : Int) then (if 0 ≤ x13 then (if x13 < (x7.length : Int) then (if (rd x9 x11) > ((rd_T34 x7 x13).f0) then (some false) else (if 0 ≤ (wrap64 (x11 - 1)) then (if (wrap64 (x11 - 1)) < (x9.length : Int) then (if (rd x9 (wrap64 (x11 - 1))) > ((rd_T34 x7 x13).f0) then (some false) else (railplanlaw6_DynamicsSpeedsArePermitted.l1 k x2 x7 x9 x11 x12 (wrap64 (x13 + 1)) x181000 x181001 x181002 x181003 x181004)) else (none)) else (none))) else (none)) else (none)) else (none)) else (none)) else (if 0 ≤ x11 then (if x11 < (x9.length : Int) then (if (rd x9 x11) > x181002 then (some false) else (if x11 < (wrap64 ((x9.length : Int) - 1)) then (if (rd x9 x11) < 1 then (some false) else (railplanlaw6_DynamicsSpeedsArePermitted.l0 k x2 x7 x9 (wrap64 (x11 + 1)) x181000 x181001 x181002 x181003 x181004)) else (railplanlaw6_DynamicsSpeedsArePermitted.l0 k x2 x7 x9 (wrap64 (x11 + 1)) x181000 x181001 x181002 x181003 x181004))) else (none)) else (none))
end
def railplanlaw6_DynamicsSpeedsArePermitted.f (k : Nat) (l0 : List Int) (l1 : List Int) (a2 : Int) : Option (Bool) := (railplankeep_Cells.f k l0).bind fun t172 => ((railplankeep_Stock.f l1).bind fun bt175 => (if (t172.length : Int) < 2 then ((dynamics_Check.f bt175.1 bt175.2.1 bt175.2.2.1 bt175.2.2.2.1 bt175.2.2.2.2).bind fun t181 => (some t181)) else ((railplankeep_Pick.f a2 (wrap64 ((t172.length : Int) - 1))).bind fun t182 => ((dynamics_Speeds.f k t172 t182 bt175.1 bt175.2.1 bt175.2.2.1 bt175.2.2.2.1 bt175.2.2.2.2).bind fun bt183 => (if bt183.2 = 0 then (if (bt183.1.length : Int) = (wrap64 ((wrap64 ((t172.length : Int) - t182)) + 1)) then (if 0 < (bt183.1.length : Int) then (if (rd bt183.1 0) = 0 then (if 0 ≤ (wrap64 ((bt183.1.length : Int) - 1)) then (if (wrap64 ((bt183.1.length : Int) - 1)) < (bt183.1.length : Int) then (railplanlaw6_DynamicsSpeedsArePermitted.j0 k t182 t172 bt183.1 ((rd bt183.1 (wrap64 ((bt183.1.length : Int) - 1))) != 0) bt175.1 bt175.2.1 bt175.2.2.1 bt175.2.2.2.1 bt175.2.2.2.2) else (none)) else (none)) else (railplanlaw6_DynamicsSpeedsArePermitted.j0 k t182 t172 bt183.1 true bt175.1 bt175.2.1 bt175.2.2.1 bt175.2.2.2.1 bt175.2.2.2.2)) else (none)) else (railplanlaw6_DynamicsSpeedsArePermitted.j0 k t182 t172 bt183.1 true bt175.1 bt175.2.1 bt175.2.2.1 bt175.2.2.2.1 bt175.2.2.2.2)) else (railplanlaw6_DynamicsSpeedsArePermitted.j0 k t182 t172 bt183.1 true bt175.1 bt175.2.1 bt175.2.2.1 bt175.2.2.2.1 bt175.2.2.2.2))))))
theorem railplanlaw6_DynamicsSpeedsArePermitted.mono_l : ∀ k, (∀ y0 y1 y2 y3 y4 y5 y6 y7 y8, LeO (railplanlaw6_DynamicsSpeedsArePermitted.j0 k y0 y1 y2 y3 y4 y5 y6 y7 y8) (railplanlaw6_DynamicsSpeedsArePermitted.j0 (k + 1) y0 y1 y2 y3 y4 y5 y6 y7 y8)) ∧ (∀ y0 y1 y2 y3 y4 y5 y6 y7 y8, LeO (railplanlaw6_DynamicsSpeedsArePermitted.l0 k y0 y1 y2 y3 y4 y5 y6 y7 y8) (railplanlaw6_DynamicsSpeedsArePermitted.l0 (k + 1) y0 y1 y2 y3 y4 y5 y6 y7 y8)) ∧ (∀ y0 y1 y2 y3 y4 y5 y6 y7 y8 y9 y10, LeO (railplanlaw6_DynamicsSpeedsArePermitted.l1 k y0 y1 y2 y3 y4 y5 y6 y7 y8 y9 y10) (railplanlaw6_DynamicsSpeedsArePermitted.l1 (k + 1) y0 y1 y2 y3 y4 y5 y6 y7 y8 y9 y10))
  | 0 => ⟨fun _ _ _ _ _ _ _ _ _ r h => by simp [railplanlaw6_DynamicsSpeedsArePermitted.j0] at h, fun _ _ _ _ _ _ _ _ _ r h => by simp [railplanlaw6_DynamicsSpeedsArePermitted.l0] at h, fun _ _ _ _ _ _ _ _ _ _ _ r h => by simp [railplanlaw6_DynamicsSpeedsArePermitted.l1] at h⟩
  | k + 1 => by
    obtain ⟨ih0, ih1, ih2⟩ := railplanlaw6_DynamicsSpeedsArePermitted.mono_l k
    refine ⟨?_, ?_, ?_⟩
    · intro y0 y1 y2 y3 y4 y5 y6 y7 y8
      unfold railplanlaw6_DynamicsSpeedsArePermitted.j0
      repeat' first
      | (with_reducible exact ih0 _ _ _ _ _ _ _ _ _)
      | (with_reducible exact ih1 _ _ _ _ _ _ _ _ _)
      | (with_reducible exact ih2 _ _ _ _ _ _ _ _ _ _ _)
      | (with_reducible exact dynamics_Speeds.mono _ _ _ _ _ _ _ _)
      | (with_reducible exact railplankeep_Cells.mono _ _)
      | (with_reducible exact LeO.refl _)
      | (with_reducible exact LeO.none _)
      | (with_reducible refine LeO.ite ?_ ?_)
      | (with_reducible refine LeO.bind ?_ (fun _ => ?_))
      | exact ih0 _ _ _ _ _ _ _ _ _
      | exact ih1 _ _ _ _ _ _ _ _ _
      | exact ih2 _ _ _ _ _ _ _ _ _ _ _
      | exact dynamics_Speeds.mono _ _ _ _ _ _ _ _
      | exact railplankeep_Cells.mono _ _
      | exact LeO.none _
      | refine LeO.ite ?_ ?_
      | refine LeO.bind ?_ (fun _ => ?_)
    · intro y0 y1 y2 y3 y4 y5 y6 y7 y8
      unfold railplanlaw6_DynamicsSpeedsArePermitted.l0
      repeat' first
      | (with_reducible exact ih0 _ _ _ _ _ _ _ _ _)
      | (with_reducible exact ih1 _ _ _ _ _ _ _ _ _)
      | (with_reducible exact ih2 _ _ _ _ _ _ _ _ _ _ _)
      | (with_reducible exact dynamics_Speeds.mono _ _ _ _ _ _ _ _)
      | (with_reducible exact railplankeep_Cells.mono _ _)
      | (with_reducible exact LeO.refl _)
      | (with_reducible exact LeO.none _)
      | (with_reducible refine LeO.ite ?_ ?_)
      | (with_reducible refine LeO.bind ?_ (fun _ => ?_))
      | exact ih0 _ _ _ _ _ _ _ _ _
      | exact ih1 _ _ _ _ _ _ _ _ _
      | exact ih2 _ _ _ _ _ _ _ _ _ _ _
      | exact dynamics_Speeds.mono _ _ _ _ _ _ _ _
      | exact railplankeep_Cells.mono _ _
      | exact LeO.none _
      | refine LeO.ite ?_ ?_
      | refine LeO.bind ?_ (fun _ => ?_)
    · intro y0 y1 y2 y3 y4 y5 y6 y7 y8 y9 y10
      unfold railplanlaw6_DynamicsSpeedsArePermitted.l1
      repeat' first
      | (with_reducible exact ih0 _ _ _ _ _ _ _ _ _)
      | (with_reducible exact ih1 _ _ _ _ _ _ _ _ _)
      | (with_reducible exact ih2 _ _ _ _ _ _ _ _ _ _ _)
      | (with_reducible exact dynamics_Speeds.mono _ _ _ _ _ _ _ _)
      | (with_reducible exact railplankeep_Cells.mono _ _)
      | (with_reducible exact LeO.refl _)
      | (with_reducible exact LeO.none _)
      | (with_reducible refine LeO.ite ?_ ?_)
      | (with_reducible refine LeO.bind ?_ (fun _ => ?_))
      | exact ih0 _ _ _ _ _ _ _ _ _
      | exact ih1 _ _ _ _ _ _ _ _ _
      | exact ih2 _ _ _ _ _ _ _ _ _ _ _
      | exact dynamics_Speeds.mono _ _ _ _ _ _ _ _
      | exact railplankeep_Cells.mono _ _
      | exact LeO.none _
      | refine LeO.ite ?_ ?_
      | refine LeO.bind ?_ (fun _ => ?_)
theorem railplanlaw6_DynamicsSpeedsArePermitted.mono : ∀ a0 a1 a2 k, LeO (railplanlaw6_DynamicsSpeedsArePermitted.f k a0 a1 a2) (railplanlaw6_DynamicsSpeedsArePermitted.f (k + 1) a0 a1 a2) := by
  intro a0 a1 a2 k
  obtain ⟨ih0, ih1, ih2⟩ := railplanlaw6_DynamicsSpeedsArePermitted.mono_l k
  unfold railplanlaw6_DynamicsSpeedsArePermitted.f
  repeat' first
      | (with_reducible exact ih0 _ _ _ _ _ _ _ _ _)
      | (with_reducible exact ih1 _ _ _ _ _ _ _ _ _)
      | (with_reducible exact ih2 _ _ _ _ _ _ _ _ _ _ _)
      | (with_reducible exact dynamics_Speeds.mono _ _ _ _ _ _ _ _)
      | (with_reducible exact railplankeep_Cells.mono _ _)
      | (with_reducible exact LeO.refl _)
      | (with_reducible exact LeO.none _)
      | (with_reducible refine LeO.ite ?_ ?_)
      | (with_reducible refine LeO.bind ?_ (fun _ => ?_))
      | exact ih0 _ _ _ _ _ _ _ _ _
      | exact ih1 _ _ _ _ _ _ _ _ _
      | exact ih2 _ _ _ _ _ _ _ _ _ _ _
      | exact dynamics_Speeds.mono _ _ _ _ _ _ _ _
      | exact railplankeep_Cells.mono _ _
      | exact LeO.none _
      | refine LeO.ite ?_ ?_
      | refine LeO.bind ?_ (fun _ => ?_)
set_option maxHeartbeats 8000000 in
set_option maxRecDepth 100000 in
theorem railplanlaw6_DynamicsSpeedsArePermitted.calls (k : Nat) (A0 : Option Addr) (c0 : Nat) (l0 : List Int) (A1 : Option Addr) (c1 : Nat) (l1 : List Int) (a2 : Int) (r : Bool) (w : World) (hr0 : Kd.C (Kd.int .i64) w A0 l0.length l0) (hc0 : l0.length ≤ c0) (hr1 : Kd.C (Kd.int .i64) w A1 l1.length l1) (hc1 : l1.length ≤ c1) (h : railplanlaw6_DynamicsSpeedsArePermitted.f k l0 l1 a2 = some r) :
    Calls Try.prog 3 #[.slice A0 l0.length c0, .slice A1 l1.length c1, .int .i64 a2] w fun e w' => e = .returned (.bool r) ∧ Below w.heap.size w w' := by
  have hu26 := Try.underlying26
  have HR0 := Aside0.mk hr0
  have HC0 := Aside0.mk hc0
  clear hr0 hc0
  have HR1 := Aside0.mk hr1
  have HC1 := Aside0.mk hc1
  clear hr1 hc1
  have HB := Aside0.mk (Below.refl w.heap.size w)
  have H : ((railplankeep_Cells.f k l0).bind fun t172 => ((railplankeep_Stock.f l1).bind fun bt175 => (if (t172.length : Int) < 2 then ((dynamics_Check.f bt175.1 bt175.2.1 bt175.2.2.1 bt175.2.2.2.1 bt175.2.2.2.2).bind fun t181 => (some t181)) else ((railplankeep_Pick.f a2 (wrap64 ((t172.length : Int) - 1))).bind fun t182 => ((dynamics_Speeds.f k t172 t182 bt175.1 bt175.2.1 bt175.2.2.1 bt175.2.2.2.1 bt175.2.2.2.2).bind fun bt183 => (if bt183.2 = 0 then (if (bt183.1.length : Int) = (wrap64 ((wrap64 ((t172.length : Int) - t182)) + 1)) then (if 0 < (bt183.1.length : Int) then (if (rd bt183.1 0) = 0 then (if 0 ≤ (wrap64 ((bt183.1.length : Int) - 1)) then (if (wrap64 ((bt183.1.length : Int) - 1)) < (bt183.1.length : Int) then (railplanlaw6_DynamicsSpeedsArePermitted.j0 k t182 t172 bt183.1 ((rd bt183.1 (wrap64 ((bt183.1.length : Int) - 1))) != 0) bt175.1 bt175.2.1 bt175.2.2.1 bt175.2.2.2.1 bt175.2.2.2.2) else (none)) else (none)) else (railplanlaw6_DynamicsSpeedsArePermitted.j0 k t182 t172 bt183.1 true bt175.1 bt175.2.1 bt175.2.2.1 bt175.2.2.2.1 bt175.2.2.2.2)) else (none)) else (railplanlaw6_DynamicsSpeedsArePermitted.j0 k t182 t172 bt183.1 true bt175.1 bt175.2.1 bt175.2.2.1 bt175.2.2.2.1 bt175.2.2.2.2)) else (railplanlaw6_DynamicsSpeedsArePermitted.j0 k t182 t172 bt183.1 true bt175.1 bt175.2.1 bt175.2.2.1 bt175.2.2.2.1 bt175.2.2.2.2))))))) = some r := h
  clear h
  replace H := Option.bind_eq_some_iff.mp H
  obtain ⟨t172, A40, H⟩ := H
  replace H : ((railplankeep_Stock.f l1).bind fun bt175 => (if (t172.length : Int) < 2 then ((dynamics_Check.f bt175.1 bt175.2.1 bt175.2.2.1 bt175.2.2.2.1 bt175.2.2.2.2).bind fun t181 => (some t181)) else ((railplankeep_Pick.f a2 (wrap64 ((t172.length : Int) - 1))).bind fun t182 => ((dynamics_Speeds.f k t172 t182 bt175.1 bt175.2.1 bt175.2.2.1 bt175.2.2.2.1 bt175.2.2.2.2).bind fun bt183 => (if bt183.2 = 0 then (if (bt183.1.length : Int) = (wrap64 ((wrap64 ((t172.length : Int) - t182)) + 1)) then (if 0 < (bt183.1.length : Int) then (if (rd bt183.1 0) = 0 then (if 0 ≤ (wrap64 ((bt183.1.length : Int) - 1)) then (if (wrap64 ((bt183.1.length : Int) - 1)) < (bt183.1.length : Int) then (railplanlaw6_DynamicsSpeedsArePermitted.j0 k t182 t172 bt183.1 ((rd bt183.1 (wrap64 ((bt183.1.length : Int) - 1))) != 0) bt175.1 bt175.2.1 bt175.2.2.1 bt175.2.2.2.1 bt175.2.2.2.2) else (none)) else (none)) else (railplanlaw6_DynamicsSpeedsArePermitted.j0 k t182 t172 bt183.1 true bt175.1 bt175.2.1 bt175.2.2.1 bt175.2.2.2.1 bt175.2.2.2.2)) else (none)) else (railplanlaw6_DynamicsSpeedsArePermitted.j0 k t182 t172 bt183.1 true bt175.1 bt175.2.1 bt175.2.2.1 bt175.2.2.2.1 bt175.2.2.2.2)) else (railplanlaw6_DynamicsSpeedsArePermitted.j0 k t182 t172 bt183.1 true bt175.1 bt175.2.1 bt175.2.2.1 bt175.2.2.2.1 bt175.2.2.2.2)))))) = some r := H
  have A4 := Aside0.mk A40
  clear A40
  replace H := Option.bind_eq_some_iff.mp H
  obtain ⟨⟨t175, t176, t177, t178, t179⟩, A50, H⟩ := H
  replace H : (if (t172.length : Int) < 2 then ((dynamics_Check.f t175 t176 t177 t178 t179).bind fun t181 => (some t181)) else ((railplankeep_Pick.f a2 (wrap64 ((t172.length : Int) - 1))).bind fun t182 => ((dynamics_Speeds.f k t172 t182 t175 t176 t177 t178 t179).bind fun bt183 => (if bt183.2 = 0 then (if (bt183.1.length : Int) = (wrap64 ((wrap64 ((t172.length : Int) - t182)) + 1)) then (if 0 < (bt183.1.length : Int) then (if (rd bt183.1 0) = 0 then (if 0 ≤ (wrap64 ((bt183.1.length : Int) - 1)) then (if (wrap64 ((bt183.1.length : Int) - 1)) < (bt183.1.length : Int) then (railplanlaw6_DynamicsSpeedsArePermitted.j0 k t182 t172 bt183.1 ((rd bt183.1 (wrap64 ((bt183.1.length : Int) - 1))) != 0) t175 t176 t177 t178 t179) else (none)) else (none)) else (railplanlaw6_DynamicsSpeedsArePermitted.j0 k t182 t172 bt183.1 true t175 t176 t177 t178 t179)) else (none)) else (railplanlaw6_DynamicsSpeedsArePermitted.j0 k t182 t172 bt183.1 true t175 t176 t177 t178 t179)) else (railplanlaw6_DynamicsSpeedsArePermitted.j0 k t182 t172 bt183.1 true t175 t176 t177 t178 t179))))) = some r := H
  have A5 := Aside0.mk A50
  clear A50
  by_cases c6 : (t172.length : Int) < 2
  · rw [if_pos c6] at H
    have c6b0 : decide ((t172.length : Int) < 2) = true := decide_eq_true c6
    have c6b1 : decide (t172.length < 2) = true := decide_eq_true (by omega)
    clear c6
    replace H := Option.bind_eq_some_iff.mp H
    obtain ⟨t181, A70, H⟩ := H
    replace H : (some t181) = some r := H
    have A7 := Aside0.mk A70
    clear A70
    obtain rfl := Option.some.inj H
    go_enter Try.func3, Try.ntmps3
    go_wp2_with (first | (go_at_call 13; (with_reducible refine (railplankeep_Cells.calls k _ _ l0 t172 _ ?side1 ?side2 A4.out).mono ?_); (case side1 => repeat (first | exact HR0.out | (with_reducible refine Kd.C_alloc ?_ _) | (with_reducible refine Kd.C_drewN ?_ _) | (with_reducible refine Kd.C_drew ?_))); (case side2 => exact HC0.out); rintro e w8 ⟨v173, rfl, ho0, hb⟩; have n0_ := Aside0.mk (Kd.R_lower ho0 (below_size (by repeat (first | (with_reducible first | exact HB.out | apply below_alloc | apply pw_below_drewN | apply below_drew1) | exact HB.out)))); have n1_ := Aside0.mk (below_step (by repeat (first | (with_reducible first | exact HB.out | apply below_alloc | apply pw_below_drewN | apply below_drew1) | exact HB.out)) hb); clear HB; have HO174 := n0_; have HB := n1_; clear n0_ n1_; (try clear hb); (try clear hb2); (try clear hk); (try clear hi); (try clear ho0)) | (go_at_call 14; (with_reducible refine (railplankeep_Stock.calls _ _ l1 t175 t176 t177 t178 t179 _ ?side1 ?side2 A5.out).mono ?_); (case side1 => repeat (first | exact (Kd.C_below HR1.out HB.out) | (with_reducible refine Kd.C_alloc ?_ _) | (with_reducible refine Kd.C_drewN ?_ _) | (with_reducible refine Kd.C_drew ?_))); (case side2 => exact HC1.out); rintro e w9 ⟨rfl, hb⟩; have n0_ := Aside0.mk (Kd.R_below (by (with_reducible repeat (first | apply Kd.R_alloc | apply Kd.R_drewN | apply Kd.R_drew)); exact HO174.out) hb); have n1_ := Aside0.mk (below_step (by repeat (first | (with_reducible first | exact HB.out | apply below_alloc | apply pw_below_drewN | apply below_drew1) | exact HB.out)) hb); clear HO174; clear HB; have HO174 := n0_; have HB := n1_; clear n0_ n1_; (try clear hb); (try clear hb2); (try clear hk); (try clear hi)) | ((with_reducible refine gate_dst (N := 8) rfl ?_); (try (refine gate_guard (by rfl) ?_; dsimp only)); refine box_event ?hg (N := 8) ?hd (cs := #[.string (⟨#[]⟩ : ByteArray), .int .i64 0, .int .i64 0, .int .i64 0, .int .i64 0]) (t := 26) ?hr ?_; (case hd => rfl); (case hg => rfl); (case hr => first | (go_simp; done) | (go_simp; rfl)); intro gb180 hg w10 hbox hb; have n0_ := Aside0.mk (Kd.R_below (by (with_reducible repeat (first | apply Kd.R_alloc | apply Kd.R_drewN | apply Kd.R_drew)); exact HO174.out) hb); have n1_ := Aside0.mk (below_step (by repeat (first | (with_reducible first | exact HB.out | apply below_alloc | apply pw_below_drewN | apply below_drew1) | exact HB.out)) hb); have n2_ := Aside0.mk (hbox); have n3_ := Aside0.mk ((by rw [hg]; exact (below_size (by repeat (first | (with_reducible first | exact HB.out | apply below_alloc | apply pw_below_drewN | apply below_drew1) | exact HB.out))) : w.heap.size ≤ gb180)); have n4_ := Aside0.mk ((by rw [hg]; exact (below_size (by repeat (first | (with_reducible first | exact HB.out | apply below_alloc | apply pw_below_drewN | apply below_drew1) | exact HB.out))) : w.heap.size ≤ gb180)); clear HO174; clear HB; have HO174 := n0_; have HB := n1_; have BK180 := n2_; have GW180 := n3_; have GE180 := n4_; clear n0_ n1_ n2_ n3_ n4_; clear hb hbox hg; have hcz11_0 : w10.cell? ⟨gb180, 0, none⟩ = some (.string (⟨#[]⟩ : ByteArray)) := (blk_cell BK180.out 0).trans rfl; have hcz11_1 : w10.cell? ⟨gb180, 1, none⟩ = some (.int .i64 0) := (blk_cell BK180.out 1).trans rfl; have hcz11_2 : w10.cell? ⟨gb180, 2, none⟩ = some (.int .i64 0) := (blk_cell BK180.out 2).trans rfl; have hcz11_3 : w10.cell? ⟨gb180, 3, none⟩ = some (.int .i64 0) := (blk_cell BK180.out 3).trans rfl; have hcz11_4 : w10.cell? ⟨gb180, 4, none⟩ = some (.int .i64 0) := (blk_cell BK180.out 4).trans rfl; have hfz11_0 := blk_frozen BK180.out 0; have hfz11_1 := blk_frozen BK180.out 1; have hfz11_2 := blk_frozen BK180.out 2; have hfz11_3 := blk_frozen BK180.out 3; have hfz11_4 := blk_frozen BK180.out 4; obtain ⟨Ao12, co12, eo12⟩ := Kd.R_slice HO174.out; subst eo12) | (go_at_call 15; (with_reducible refine (dynamics_Check.calls t175 t176 t177 t178 t179 t181 _ A7.out).mono ?_); rintro e w13 ⟨rfl, hb⟩; have n0_ := Aside0.mk (Kd.R_below (by (with_reducible repeat (first | apply Kd.R_alloc | apply Kd.R_drewN | apply Kd.R_drew)); exact (Kd.R_mono (Kd.R_far (p := ⟨gb180, 4, none⟩) (Kd.R_far (p := ⟨gb180, 3, none⟩) (Kd.R_far (p := ⟨gb180, 2, none⟩) (Kd.R_far (p := ⟨gb180, 1, none⟩) (Kd.R_far (p := ⟨gb180, 0, none⟩) (Kd.R_types HO174.out BK180.out (by decide)) (fun _ hk => hk.2) (.string t175)) (fun _ hk => hk.2) (.int .i64 t176)) (fun _ hk => hk.2) (.int .i64 t177)) (fun _ hk => hk.2) (.int .i64 t178)) (fun _ hk => hk.2) (.int .i64 t179)) (fun _ h_ => h_.1))) hb); have n1_ := Aside0.mk (blk_below (g := gb180) (o := .cells #[.string t175, .int .i64 t176, .int .i64 t177, .int .i64 t178, .int .i64 t179] 26 (0, 0)) (by (with_reducible repeat (first | refine blk_drewN ?_ _ | refine blk_drew ?_ | refine blk_alloc ?_ _)); refine blk_put (cs := #[.string t175, .int .i64 t176, .int .i64 t177, .int .i64 t178, .int .i64 0]) ?_ 4 _ rfl; (with_reducible repeat (first | refine blk_drewN ?_ _ | refine blk_drew ?_ | refine blk_alloc ?_ _)); refine blk_put (cs := #[.string t175, .int .i64 t176, .int .i64 t177, .int .i64 0, .int .i64 0]) ?_ 3 _ rfl; (with_reducible repeat (first | refine blk_drewN ?_ _ | refine blk_drew ?_ | refine blk_alloc ?_ _)); refine blk_put (cs := #[.string t175, .int .i64 t176, .int .i64 0, .int .i64 0, .int .i64 0]) ?_ 2 _ rfl; (with_reducible repeat (first | refine blk_drewN ?_ _ | refine blk_drew ?_ | refine blk_alloc ?_ _)); refine blk_put (cs := #[.string t175, .int .i64 0, .int .i64 0, .int .i64 0, .int .i64 0]) ?_ 1 _ rfl; (with_reducible repeat (first | refine blk_drewN ?_ _ | refine blk_drew ?_ | refine blk_alloc ?_ _)); refine blk_put (cs := #[.string (⟨#[]⟩ : ByteArray), .int .i64 0, .int .i64 0, .int .i64 0, .int .i64 0]) ?_ 0 _ rfl; (with_reducible repeat (first | refine blk_drewN ?_ _ | refine blk_drew ?_ | refine blk_alloc ?_ _)); exact BK180.out) hb); have n2_ := Aside0.mk (below_step (by repeat (first | (with_reducible first | exact HB.out | apply below_alloc | apply pw_below_drewN | apply below_drew1 | refine below_set ?_ GE180.out) | exact HB.out)) hb); clear HO174; clear BK180; clear HB; have HO174 := n0_; have BK180 := n1_; have HB := n2_; clear n0_ n1_ n2_; (try clear hb); (try clear hb2); (try clear hk); (try clear hi)))
    repeat (go_quiet (first | (go_at_call 13; (with_reducible refine (railplankeep_Cells.calls k _ _ l0 t172 _ ?side1 ?side2 A4.out).mono ?_); (case side1 => repeat (first | exact HR0.out | (with_reducible refine Kd.C_alloc ?_ _) | (with_reducible refine Kd.C_drewN ?_ _) | (with_reducible refine Kd.C_drew ?_))); (case side2 => exact HC0.out); rintro e w8 ⟨v173, rfl, ho0, hb⟩; have n0_ := Aside0.mk (Kd.R_lower ho0 (below_size (by repeat (first | (with_reducible first | exact HB.out | apply below_alloc | apply pw_below_drewN | apply below_drew1) | exact HB.out)))); have n1_ := Aside0.mk (below_step (by repeat (first | (with_reducible first | exact HB.out | apply below_alloc | apply pw_below_drewN | apply below_drew1) | exact HB.out)) hb); clear HB; have HO174 := n0_; have HB := n1_; clear n0_ n1_; (try clear hb); (try clear hb2); (try clear hk); (try clear hi); (try clear ho0)) | (go_at_call 14; (with_reducible refine (railplankeep_Stock.calls _ _ l1 t175 t176 t177 t178 t179 _ ?side1 ?side2 A5.out).mono ?_); (case side1 => repeat (first | exact (Kd.C_below HR1.out HB.out) | (with_reducible refine Kd.C_alloc ?_ _) | (with_reducible refine Kd.C_drewN ?_ _) | (with_reducible refine Kd.C_drew ?_))); (case side2 => exact HC1.out); rintro e w9 ⟨rfl, hb⟩; have n0_ := Aside0.mk (Kd.R_below (by (with_reducible repeat (first | apply Kd.R_alloc | apply Kd.R_drewN | apply Kd.R_drew)); exact HO174.out) hb); have n1_ := Aside0.mk (below_step (by repeat (first | (with_reducible first | exact HB.out | apply below_alloc | apply pw_below_drewN | apply below_drew1) | exact HB.out)) hb); clear HO174; clear HB; have HO174 := n0_; have HB := n1_; clear n0_ n1_; (try clear hb); (try clear hb2); (try clear hk); (try clear hi)) | ((with_reducible refine gate_dst (N := 8) rfl ?_); (try (refine gate_guard (by rfl) ?_; dsimp only)); refine box_event ?hg (N := 8) ?hd (cs := #[.string (⟨#[]⟩ : ByteArray), .int .i64 0, .int .i64 0, .int .i64 0, .int .i64 0]) (t := 26) ?hr ?_; (case hd => rfl); (case hg => rfl); (case hr => first | (go_simp; done) | (go_simp; rfl)); intro gb180 hg w10 hbox hb; have n0_ := Aside0.mk (Kd.R_below (by (with_reducible repeat (first | apply Kd.R_alloc | apply Kd.R_drewN | apply Kd.R_drew)); exact HO174.out) hb); have n1_ := Aside0.mk (below_step (by repeat (first | (with_reducible first | exact HB.out | apply below_alloc | apply pw_below_drewN | apply below_drew1) | exact HB.out)) hb); have n2_ := Aside0.mk (hbox); have n3_ := Aside0.mk ((by rw [hg]; exact (below_size (by repeat (first | (with_reducible first | exact HB.out | apply below_alloc | apply pw_below_drewN | apply below_drew1) | exact HB.out))) : w.heap.size ≤ gb180)); have n4_ := Aside0.mk ((by rw [hg]; exact (below_size (by repeat (first | (with_reducible first | exact HB.out | apply below_alloc | apply pw_below_drewN | apply below_drew1) | exact HB.out))) : w.heap.size ≤ gb180)); clear HO174; clear HB; have HO174 := n0_; have HB := n1_; have BK180 := n2_; have GW180 := n3_; have GE180 := n4_; clear n0_ n1_ n2_ n3_ n4_; clear hb hbox hg; have hcz11_0 : w10.cell? ⟨gb180, 0, none⟩ = some (.string (⟨#[]⟩ : ByteArray)) := (blk_cell BK180.out 0).trans rfl; have hcz11_1 : w10.cell? ⟨gb180, 1, none⟩ = some (.int .i64 0) := (blk_cell BK180.out 1).trans rfl; have hcz11_2 : w10.cell? ⟨gb180, 2, none⟩ = some (.int .i64 0) := (blk_cell BK180.out 2).trans rfl; have hcz11_3 : w10.cell? ⟨gb180, 3, none⟩ = some (.int .i64 0) := (blk_cell BK180.out 3).trans rfl; have hcz11_4 : w10.cell? ⟨gb180, 4, none⟩ = some (.int .i64 0) := (blk_cell BK180.out 4).trans rfl; have hfz11_0 := blk_frozen BK180.out 0; have hfz11_1 := blk_frozen BK180.out 1; have hfz11_2 := blk_frozen BK180.out 2; have hfz11_3 := blk_frozen BK180.out 3; have hfz11_4 := blk_frozen BK180.out 4; obtain ⟨Ao12, co12, eo12⟩ := Kd.R_slice HO174.out; subst eo12) | (go_at_call 15; (with_reducible refine (dynamics_Check.calls t175 t176 t177 t178 t179 t181 _ A7.out).mono ?_); rintro e w13 ⟨rfl, hb⟩; have n0_ := Aside0.mk (Kd.R_below (by (with_reducible repeat (first | apply Kd.R_alloc | apply Kd.R_drewN | apply Kd.R_drew)); exact (Kd.R_mono (Kd.R_far (p := ⟨gb180, 4, none⟩) (Kd.R_far (p := ⟨gb180, 3, none⟩) (Kd.R_far (p := ⟨gb180, 2, none⟩) (Kd.R_far (p := ⟨gb180, 1, none⟩) (Kd.R_far (p := ⟨gb180, 0, none⟩) (Kd.R_types HO174.out BK180.out (by decide)) (fun _ hk => hk.2) (.string t175)) (fun _ hk => hk.2) (.int .i64 t176)) (fun _ hk => hk.2) (.int .i64 t177)) (fun _ hk => hk.2) (.int .i64 t178)) (fun _ hk => hk.2) (.int .i64 t179)) (fun _ h_ => h_.1))) hb); have n1_ := Aside0.mk (blk_below (g := gb180) (o := .cells #[.string t175, .int .i64 t176, .int .i64 t177, .int .i64 t178, .int .i64 t179] 26 (0, 0)) (by (with_reducible repeat (first | refine blk_drewN ?_ _ | refine blk_drew ?_ | refine blk_alloc ?_ _)); refine blk_put (cs := #[.string t175, .int .i64 t176, .int .i64 t177, .int .i64 t178, .int .i64 0]) ?_ 4 _ rfl; (with_reducible repeat (first | refine blk_drewN ?_ _ | refine blk_drew ?_ | refine blk_alloc ?_ _)); refine blk_put (cs := #[.string t175, .int .i64 t176, .int .i64 t177, .int .i64 0, .int .i64 0]) ?_ 3 _ rfl; (with_reducible repeat (first | refine blk_drewN ?_ _ | refine blk_drew ?_ | refine blk_alloc ?_ _)); refine blk_put (cs := #[.string t175, .int .i64 t176, .int .i64 0, .int .i64 0, .int .i64 0]) ?_ 2 _ rfl; (with_reducible repeat (first | refine blk_drewN ?_ _ | refine blk_drew ?_ | refine blk_alloc ?_ _)); refine blk_put (cs := #[.string t175, .int .i64 0, .int .i64 0, .int .i64 0, .int .i64 0]) ?_ 1 _ rfl; (with_reducible repeat (first | refine blk_drewN ?_ _ | refine blk_drew ?_ | refine blk_alloc ?_ _)); refine blk_put (cs := #[.string (⟨#[]⟩ : ByteArray), .int .i64 0, .int .i64 0, .int .i64 0, .int .i64 0]) ?_ 0 _ rfl; (with_reducible repeat (first | refine blk_drewN ?_ _ | refine blk_drew ?_ | refine blk_alloc ?_ _)); exact BK180.out) hb); have n2_ := Aside0.mk (below_step (by repeat (first | (with_reducible first | exact HB.out | apply below_alloc | apply pw_below_drewN | apply below_drew1 | refine below_set ?_ GE180.out) | exact HB.out)) hb); clear HO174; clear BK180; clear HB; have HO174 := n0_; have BK180 := n1_; have HB := n2_; clear n0_ n1_ n2_; (try clear hb); (try clear hb2); (try clear hk); (try clear hi))); try go_wp2_with (first | (go_at_call 13; (with_reducible refine (railplankeep_Cells.calls k _ _ l0 t172 _ ?side1 ?side2 A4.out).mono ?_); (case side1 => repeat (first | exact HR0.out | (with_reducible refine Kd.C_alloc ?_ _) | (with_reducible refine Kd.C_drewN ?_ _) | (with_reducible refine Kd.C_drew ?_))); (case side2 => exact HC0.out); rintro e w8 ⟨v173, rfl, ho0, hb⟩; have n0_ := Aside0.mk (Kd.R_lower ho0 (below_size (by repeat (first | (with_reducible first | exact HB.out | apply below_alloc | apply pw_below_drewN | apply below_drew1) | exact HB.out)))); have n1_ := Aside0.mk (below_step (by repeat (first | (with_reducible first | exact HB.out | apply below_alloc | apply pw_below_drewN | apply below_drew1) | exact HB.out)) hb); clear HB; have HO174 := n0_; have HB := n1_; clear n0_ n1_; (try clear hb); (try clear hb2); (try clear hk); (try clear hi); (try clear ho0)) | (go_at_call 14; (with_reducible refine (railplankeep_Stock.calls _ _ l1 t175 t176 t177 t178 t179 _ ?side1 ?side2 A5.out).mono ?_); (case side1 => repeat (first | exact (Kd.C_below HR1.out HB.out) | (with_reducible refine Kd.C_alloc ?_ _) | (with_reducible refine Kd.C_drewN ?_ _) | (with_reducible refine Kd.C_drew ?_))); (case side2 => exact HC1.out); rintro e w9 ⟨rfl, hb⟩; have n0_ := Aside0.mk (Kd.R_below (by (with_reducible repeat (first | apply Kd.R_alloc | apply Kd.R_drewN | apply Kd.R_drew)); exact HO174.out) hb); have n1_ := Aside0.mk (below_step (by repeat (first | (with_reducible first | exact HB.out | apply below_alloc | apply pw_below_drewN | apply below_drew1) | exact HB.out)) hb); clear HO174; clear HB; have HO174 := n0_; have HB := n1_; clear n0_ n1_; (try clear hb); (try clear hb2); (try clear hk); (try clear hi)) | ((with_reducible refine gate_dst (N := 8) rfl ?_); (try (refine gate_guard (by rfl) ?_; dsimp only)); refine box_event ?hg (N := 8) ?hd (cs := #[.string (⟨#[]⟩ : ByteArray), .int .i64 0, .int .i64 0, .int .i64 0, .int .i64 0]) (t := 26) ?hr ?_; (case hd => rfl); (case hg => rfl); (case hr => first | (go_simp; done) | (go_simp; rfl)); intro gb180 hg w10 hbox hb; have n0_ := Aside0.mk (Kd.R_below (by (with_reducible repeat (first | apply Kd.R_alloc | apply Kd.R_drewN | apply Kd.R_drew)); exact HO174.out) hb); have n1_ := Aside0.mk (below_step (by repeat (first | (with_reducible first | exact HB.out | apply below_alloc | apply pw_below_drewN | apply below_drew1) | exact HB.out)) hb); have n2_ := Aside0.mk (hbox); have n3_ := Aside0.mk ((by rw [hg]; exact (below_size (by repeat (first | (with_reducible first | exact HB.out | apply below_alloc | apply pw_below_drewN | apply below_drew1) | exact HB.out))) : w.heap.size ≤ gb180)); have n4_ := Aside0.mk ((by rw [hg]; exact (below_size (by repeat (first | (with_reducible first | exact HB.out | apply below_alloc | apply pw_below_drewN | apply below_drew1) | exact HB.out))) : w.heap.size ≤ gb180)); clear HO174; clear HB; have HO174 := n0_; have HB := n1_; have BK180 := n2_; have GW180 := n3_; have GE180 := n4_; clear n0_ n1_ n2_ n3_ n4_; clear hb hbox hg; have hcz11_0 : w10.cell? ⟨gb180, 0, none⟩ = some (.string (⟨#[]⟩ : ByteArray)) := (blk_cell BK180.out 0).trans rfl; have hcz11_1 : w10.cell? ⟨gb180, 1, none⟩ = some (.int .i64 0) := (blk_cell BK180.out 1).trans rfl; have hcz11_2 : w10.cell? ⟨gb180, 2, none⟩ = some (.int .i64 0) := (blk_cell BK180.out 2).trans rfl; have hcz11_3 : w10.cell? ⟨gb180, 3, none⟩ = some (.int .i64 0) := (blk_cell BK180.out 3).trans rfl; have hcz11_4 : w10.cell? ⟨gb180, 4, none⟩ = some (.int .i64 0) := (blk_cell BK180.out 4).trans rfl; have hfz11_0 := blk_frozen BK180.out 0; have hfz11_1 := blk_frozen BK180.out 1; have hfz11_2 := blk_frozen BK180.out 2; have hfz11_3 := blk_frozen BK180.out 3; have hfz11_4 := blk_frozen BK180.out 4; obtain ⟨Ao12, co12, eo12⟩ := Kd.R_slice HO174.out; subst eo12) | (go_at_call 15; (with_reducible refine (dynamics_Check.calls t175 t176 t177 t178 t179 t181 _ A7.out).mono ?_); rintro e w13 ⟨rfl, hb⟩; have n0_ := Aside0.mk (Kd.R_below (by (with_reducible repeat (first | apply Kd.R_alloc | apply Kd.R_drewN | apply Kd.R_drew)); exact (Kd.R_mono (Kd.R_far (p := ⟨gb180, 4, none⟩) (Kd.R_far (p := ⟨gb180, 3, none⟩) (Kd.R_far (p := ⟨gb180, 2, none⟩) (Kd.R_far (p := ⟨gb180, 1, none⟩) (Kd.R_far (p := ⟨gb180, 0, none⟩) (Kd.R_types HO174.out BK180.out (by decide)) (fun _ hk => hk.2) (.string t175)) (fun _ hk => hk.2) (.int .i64 t176)) (fun _ hk => hk.2) (.int .i64 t177)) (fun _ hk => hk.2) (.int .i64 t178)) (fun _ hk => hk.2) (.int .i64 t179)) (fun _ h_ => h_.1))) hb); have n1_ := Aside0.mk (blk_below (g := gb180) (o := .cells #[.string t175, .int .i64 t176, .int .i64 t177, .int .i64 t178, .int .i64 t179] 26 (0, 0)) (by (with_reducible repeat (first | refine blk_drewN ?_ _ | refine blk_drew ?_ | refine blk_alloc ?_ _)); refine blk_put (cs := #[.string t175, .int .i64 t176, .int .i64 t177, .int .i64 t178, .int .i64 0]) ?_ 4 _ rfl; (with_reducible repeat (first | refine blk_drewN ?_ _ | refine blk_drew ?_ | refine blk_alloc ?_ _)); refine blk_put (cs := #[.string t175, .int .i64 t176, .int .i64 t177, .int .i64 0, .int .i64 0]) ?_ 3 _ rfl; (with_reducible repeat (first | refine blk_drewN ?_ _ | refine blk_drew ?_ | refine blk_alloc ?_ _)); refine blk_put (cs := #[.string t175, .int .i64 t176, .int .i64 0, .int .i64 0, .int .i64 0]) ?_ 2 _ rfl; (with_reducible repeat (first | refine blk_drewN ?_ _ | refine blk_drew ?_ | refine blk_alloc ?_ _)); refine blk_put (cs := #[.string t175, .int .i64 0, .int .i64 0, .int .i64 0, .int .i64 0]) ?_ 1 _ rfl; (with_reducible repeat (first | refine blk_drewN ?_ _ | refine blk_drew ?_ | refine blk_alloc ?_ _)); refine blk_put (cs := #[.string (⟨#[]⟩ : ByteArray), .int .i64 0, .int .i64 0, .int .i64 0, .int .i64 0]) ?_ 0 _ rfl; (with_reducible repeat (first | refine blk_drewN ?_ _ | refine blk_drew ?_ | refine blk_alloc ?_ _)); exact BK180.out) hb); have n2_ := Aside0.mk (below_step (by repeat (first | (with_reducible first | exact HB.out | apply below_alloc | apply pw_below_drewN | apply below_drew1 | refine below_set ?_ GE180.out) | exact HB.out)) hb); clear HO174; clear BK180; clear HB; have HO174 := n0_; have BK180 := n1_; have HB := n2_; clear n0_ n1_ n2_; (try clear hb); (try clear hb2); (try clear hk); (try clear hi))))
    go_ret
    exact ⟨by first | rfl | (simp [errW_none, errW_some] <;> rfl) | (simp [*, errW_none, errW_some] <;> rfl), by repeat (first | (with_reducible first | exact HB.out | apply below_alloc | apply pw_below_drewN | apply below_drew1 | refine below_set ?_ GE180.out) | exact HB.out)⟩
  · rw [if_neg c6] at H
    have c6b0 : decide ((t172.length : Int) < 2) = false := decide_eq_false c6
    have c6b1 : decide (t172.length < 2) = false := decide_eq_false (by omega)
    clear c6
    replace H := Option.bind_eq_some_iff.mp H
    obtain ⟨t182, A140, H⟩ := H
    replace H : ((dynamics_Speeds.f k t172 t182 t175 t176 t177 t178 t179).bind fun bt183 => (if bt183.2 = 0 then (if (bt183.1.length : Int) = (wrap64 ((wrap64 ((t172.length : Int) - t182)) + 1)) then (if 0 < (bt183.1.length : Int) then (if (rd bt183.1 0) = 0 then (if 0 ≤ (wrap64 ((bt183.1.length : Int) - 1)) then (if (wrap64 ((bt183.1.length : Int) - 1)) < (bt183.1.length : Int) then (railplanlaw6_DynamicsSpeedsArePermitted.j0 k t182 t172 bt183.1 ((rd bt183.1 (wrap64 ((bt183.1.length : Int) - 1))) != 0) t175 t176 t177 t178 t179) else (none)) else (none)) else (railplanlaw6_DynamicsSpeedsArePermitted.j0 k t182 t172 bt183.1 true t175 t176 t177 t178 t179)) else (none)) else (railplanlaw6_DynamicsSpeedsArePermitted.j0 k t182 t172 bt183.1 true t175 t176 t177 t178 t179)) else (railplanlaw6_DynamicsSpeedsArePermitted.j0 k t182 t172 bt183.1 true t175 t176 t177 t178 t179))) = some r := H
    have A14 := Aside0.mk A140
    clear A140
    replace H := Option.bind_eq_some_iff.mp H
    obtain ⟨⟨t183, t186⟩, A150, H⟩ := H
    replace H : (if t186 = 0 then (if (t183.length : Int) = (wrap64 ((wrap64 ((t172.length : Int) - t182)) + 1)) then (if 0 < (t183.length : Int) then (if (rd t183 0) = 0 then (if 0 ≤ (wrap64 ((t183.length : Int) - 1)) then (if (wrap64 ((t183.length : Int) - 1)) < (t183.length : Int) then (railplanlaw6_DynamicsSpeedsArePermitted.j0 k t182 t172 t183 ((rd t183 (wrap64 ((t183.length : Int) - 1))) != 0) t175 t176 t177 t178 t179) else (none)) else (none)) else (railplanlaw6_DynamicsSpeedsArePermitted.j0 k t182 t172 t183 true t175 t176 t177 t178 t179)) else (none)) else (railplanlaw6_DynamicsSpeedsArePermitted.j0 k t182 t172 t183 true t175 t176 t177 t178 t179)) else (railplanlaw6_DynamicsSpeedsArePermitted.j0 k t182 t172 t183 true t175 t176 t177 t178 t179)) = some r := H
    have A15 := Aside0.mk A150
    clear A150
    have HC16 := Aside0.mk H
    clear H
    go_enter Try.func3, Try.ntmps3
    go_upto_region 6 with (first | (go_at_call 13; (with_reducible refine (railplankeep_Cells.calls k _ _ l0 t172 _ ?side1 ?side2 A4.out).mono ?_); (case side1 => repeat (first | exact HR0.out | (with_reducible refine Kd.C_alloc ?_ _) | (with_reducible refine Kd.C_drewN ?_ _) | (with_reducible refine Kd.C_drew ?_))); (case side2 => exact HC0.out); rintro e w17 ⟨v173, rfl, ho0, hb⟩; have n0_ := Aside0.mk (Kd.R_lower ho0 (below_size (by repeat (first | (with_reducible first | exact HB.out | apply below_alloc | apply pw_below_drewN | apply below_drew1) | exact HB.out)))); have n1_ := Aside0.mk (below_step (by repeat (first | (with_reducible first | exact HB.out | apply below_alloc | apply pw_below_drewN | apply below_drew1) | exact HB.out)) hb); clear HB; have HO174 := n0_; have HB := n1_; clear n0_ n1_; (try clear hb); (try clear hb2); (try clear hk); (try clear hi); (try clear ho0)) | (go_at_call 14; (with_reducible refine (railplankeep_Stock.calls _ _ l1 t175 t176 t177 t178 t179 _ ?side1 ?side2 A5.out).mono ?_); (case side1 => repeat (first | exact (Kd.C_below HR1.out HB.out) | (with_reducible refine Kd.C_alloc ?_ _) | (with_reducible refine Kd.C_drewN ?_ _) | (with_reducible refine Kd.C_drew ?_))); (case side2 => exact HC1.out); rintro e w18 ⟨rfl, hb⟩; have n0_ := Aside0.mk (Kd.R_below (by (with_reducible repeat (first | apply Kd.R_alloc | apply Kd.R_drewN | apply Kd.R_drew)); exact HO174.out) hb); have n1_ := Aside0.mk (below_step (by repeat (first | (with_reducible first | exact HB.out | apply below_alloc | apply pw_below_drewN | apply below_drew1) | exact HB.out)) hb); clear HO174; clear HB; have HO174 := n0_; have HB := n1_; clear n0_ n1_; (try clear hb); (try clear hb2); (try clear hk); (try clear hi)) | ((with_reducible refine gate_dst (N := 8) rfl ?_); (try (refine gate_guard (by rfl) ?_; dsimp only)); refine box_event ?hg (N := 8) ?hd (cs := #[.string (⟨#[]⟩ : ByteArray), .int .i64 0, .int .i64 0, .int .i64 0, .int .i64 0]) (t := 26) ?hr ?_; (case hd => rfl); (case hg => rfl); (case hr => first | (go_simp; done) | (go_simp; rfl)); intro gb180 hg w19 hbox hb; have n0_ := Aside0.mk (Kd.R_below (by (with_reducible repeat (first | apply Kd.R_alloc | apply Kd.R_drewN | apply Kd.R_drew)); exact HO174.out) hb); have n1_ := Aside0.mk (below_step (by repeat (first | (with_reducible first | exact HB.out | apply below_alloc | apply pw_below_drewN | apply below_drew1) | exact HB.out)) hb); have n2_ := Aside0.mk (hbox); have n3_ := Aside0.mk ((by rw [hg]; exact (below_size (by repeat (first | (with_reducible first | exact HB.out | apply below_alloc | apply pw_below_drewN | apply below_drew1) | exact HB.out))) : w.heap.size ≤ gb180)); have n4_ := Aside0.mk ((by rw [hg]; exact (below_size (by repeat (first | (with_reducible first | exact HB.out | apply below_alloc | apply pw_below_drewN | apply below_drew1) | exact HB.out))) : w.heap.size ≤ gb180)); clear HO174; clear HB; have HO174 := n0_; have HB := n1_; have BK180 := n2_; have GW180 := n3_; have GE180 := n4_; clear n0_ n1_ n2_ n3_ n4_; clear hb hbox hg; have hcz20_0 : w19.cell? ⟨gb180, 0, none⟩ = some (.string (⟨#[]⟩ : ByteArray)) := (blk_cell BK180.out 0).trans rfl; have hcz20_1 : w19.cell? ⟨gb180, 1, none⟩ = some (.int .i64 0) := (blk_cell BK180.out 1).trans rfl; have hcz20_2 : w19.cell? ⟨gb180, 2, none⟩ = some (.int .i64 0) := (blk_cell BK180.out 2).trans rfl; have hcz20_3 : w19.cell? ⟨gb180, 3, none⟩ = some (.int .i64 0) := (blk_cell BK180.out 3).trans rfl; have hcz20_4 : w19.cell? ⟨gb180, 4, none⟩ = some (.int .i64 0) := (blk_cell BK180.out 4).trans rfl; have hfz20_0 := blk_frozen BK180.out 0; have hfz20_1 := blk_frozen BK180.out 1; have hfz20_2 := blk_frozen BK180.out 2; have hfz20_3 := blk_frozen BK180.out 3; have hfz20_4 := blk_frozen BK180.out 4; obtain ⟨Ao21, co21, eo21⟩ := Kd.R_slice HO174.out; subst eo21) | (go_at_call 16; (with_reducible refine (railplankeep_Pick.calls a2 (wrap64 ((t172.length : Int) - 1)) t182 _ A14.out).mono ?_); rintro e w' ⟨rfl, ⟨nd, rfl⟩⟩; (try first | exact ⟨rfl, _, World.drewN_drewN _ _ _⟩ | exact ⟨rfl, _, Eq.trans (World.drewN_drewN _ _ _) (congrArg (World.drewN _) (Nat.add_assoc _ _ _))⟩)) | (go_at_call 17; (with_reducible refine (dynamics_Speeds.calls k _ _ t172 t182 t175 t176 t177 t178 t179 t183 t186 _ ?side1 ?side2 A15.out).mono ?_); (case side1 => refine (Kd.R_reads' (e := 34) (base := w.heap.size) (ok := fun k_ => True) (n := t172.length) (c := co21) ?_).2.2; exact (by (with_reducible repeat (first | apply Kd.R_alloc | apply Kd.R_drewN | apply Kd.R_drew)); exact (Kd.R_mono (Kd.R_far (p := ⟨gb180, 4, none⟩) (Kd.R_far (p := ⟨gb180, 3, none⟩) (Kd.R_far (p := ⟨gb180, 2, none⟩) (Kd.R_far (p := ⟨gb180, 1, none⟩) (Kd.R_far (p := ⟨gb180, 0, none⟩) (Kd.R_types HO174.out BK180.out (by decide)) (fun _ hk => hk.2) (.string t175)) (fun _ hk => hk.2) (.int .i64 t176)) (fun _ hk => hk.2) (.int .i64 t177)) (fun _ hk => hk.2) (.int .i64 t178)) (fun _ hk => hk.2) (.int .i64 t179)) (fun _ h_ => h_.1)))); (case side2 => exact (Kd.R_reads' HO174.out).2.1); rintro e w22 ⟨v184, rfl, ho0, hb⟩; have n0_ := Aside0.mk (Kd.R_below (by (with_reducible repeat (first | apply Kd.R_alloc | apply Kd.R_drewN | apply Kd.R_drew)); exact (Kd.R_mono (Kd.R_far (p := ⟨gb180, 4, none⟩) (Kd.R_far (p := ⟨gb180, 3, none⟩) (Kd.R_far (p := ⟨gb180, 2, none⟩) (Kd.R_far (p := ⟨gb180, 1, none⟩) (Kd.R_far (p := ⟨gb180, 0, none⟩) (Kd.R_types HO174.out BK180.out (by decide)) (fun _ hk => hk.2) (.string t175)) (fun _ hk => hk.2) (.int .i64 t176)) (fun _ hk => hk.2) (.int .i64 t177)) (fun _ hk => hk.2) (.int .i64 t178)) (fun _ hk => hk.2) (.int .i64 t179)) (fun _ h_ => h_.1))) hb); have n1_ := Aside0.mk (Kd.R_lower ho0 (below_size (by repeat (first | (with_reducible first | exact HB.out | apply below_alloc | apply pw_below_drewN | apply below_drew1 | refine below_set ?_ GE180.out) | exact HB.out)))); have n2_ := Aside0.mk (blk_below (g := gb180) (o := .cells #[.string t175, .int .i64 t176, .int .i64 t177, .int .i64 t178, .int .i64 t179] 26 (0, 0)) (by (with_reducible repeat (first | refine blk_drewN ?_ _ | refine blk_drew ?_ | refine blk_alloc ?_ _)); refine blk_put (cs := #[.string t175, .int .i64 t176, .int .i64 t177, .int .i64 t178, .int .i64 0]) ?_ 4 _ rfl; (with_reducible repeat (first | refine blk_drewN ?_ _ | refine blk_drew ?_ | refine blk_alloc ?_ _)); refine blk_put (cs := #[.string t175, .int .i64 t176, .int .i64 t177, .int .i64 0, .int .i64 0]) ?_ 3 _ rfl; (with_reducible repeat (first | refine blk_drewN ?_ _ | refine blk_drew ?_ | refine blk_alloc ?_ _)); refine blk_put (cs := #[.string t175, .int .i64 t176, .int .i64 0, .int .i64 0, .int .i64 0]) ?_ 2 _ rfl; (with_reducible repeat (first | refine blk_drewN ?_ _ | refine blk_drew ?_ | refine blk_alloc ?_ _)); refine blk_put (cs := #[.string t175, .int .i64 0, .int .i64 0, .int .i64 0, .int .i64 0]) ?_ 1 _ rfl; (with_reducible repeat (first | refine blk_drewN ?_ _ | refine blk_drew ?_ | refine blk_alloc ?_ _)); refine blk_put (cs := #[.string (⟨#[]⟩ : ByteArray), .int .i64 0, .int .i64 0, .int .i64 0, .int .i64 0]) ?_ 0 _ rfl; (with_reducible repeat (first | refine blk_drewN ?_ _ | refine blk_drew ?_ | refine blk_alloc ?_ _)); exact BK180.out) hb); have n3_ := Aside0.mk (below_step (by repeat (first | (with_reducible first | exact HB.out | apply below_alloc | apply pw_below_drewN | apply below_drew1 | refine below_set ?_ GE180.out) | exact HB.out)) hb); clear HO174; clear BK180; clear HB; have HO174 := n0_; have HO185 := n1_; have BK180 := n2_; have HB := n3_; clear n0_ n1_ n2_ n3_; (try clear hb); (try clear hb2); (try clear hk); (try clear hi); (try clear ho0)))
    repeat (go_quiet (first | (go_at_call 13; (with_reducible refine (railplankeep_Cells.calls k _ _ l0 t172 _ ?side1 ?side2 A4.out).mono ?_); (case side1 => repeat (first | exact HR0.out | (with_reducible refine Kd.C_alloc ?_ _) | (with_reducible refine Kd.C_drewN ?_ _) | (with_reducible refine Kd.C_drew ?_))); (case side2 => exact HC0.out); rintro e w17 ⟨v173, rfl, ho0, hb⟩; have n0_ := Aside0.mk (Kd.R_lower ho0 (below_size (by repeat (first | (with_reducible first | exact HB.out | apply below_alloc | apply pw_below_drewN | apply below_drew1) | exact HB.out)))); have n1_ := Aside0.mk (below_step (by repeat (first | (with_reducible first | exact HB.out | apply below_alloc | apply pw_below_drewN | apply below_drew1) | exact HB.out)) hb); clear HB; have HO174 := n0_; have HB := n1_; clear n0_ n1_; (try clear hb); (try clear hb2); (try clear hk); (try clear hi); (try clear ho0)) | (go_at_call 14; (with_reducible refine (railplankeep_Stock.calls _ _ l1 t175 t176 t177 t178 t179 _ ?side1 ?side2 A5.out).mono ?_); (case side1 => repeat (first | exact (Kd.C_below HR1.out HB.out) | (with_reducible refine Kd.C_alloc ?_ _) | (with_reducible refine Kd.C_drewN ?_ _) | (with_reducible refine Kd.C_drew ?_))); (case side2 => exact HC1.out); rintro e w18 ⟨rfl, hb⟩; have n0_ := Aside0.mk (Kd.R_below (by (with_reducible repeat (first | apply Kd.R_alloc | apply Kd.R_drewN | apply Kd.R_drew)); exact HO174.out) hb); have n1_ := Aside0.mk (below_step (by repeat (first | (with_reducible first | exact HB.out | apply below_alloc | apply pw_below_drewN | apply below_drew1) | exact HB.out)) hb); clear HO174; clear HB; have HO174 := n0_; have HB := n1_; clear n0_ n1_; (try clear hb); (try clear hb2); (try clear hk); (try clear hi)) | ((with_reducible refine gate_dst (N := 8) rfl ?_); (try (refine gate_guard (by rfl) ?_; dsimp only)); refine box_event ?hg (N := 8) ?hd (cs := #[.string (⟨#[]⟩ : ByteArray), .int .i64 0, .int .i64 0, .int .i64 0, .int .i64 0]) (t := 26) ?hr ?_; (case hd => rfl); (case hg => rfl); (case hr => first | (go_simp; done) | (go_simp; rfl)); intro gb180 hg w19 hbox hb; have n0_ := Aside0.mk (Kd.R_below (by (with_reducible repeat (first | apply Kd.R_alloc | apply Kd.R_drewN | apply Kd.R_drew)); exact HO174.out) hb); have n1_ := Aside0.mk (below_step (by repeat (first | (with_reducible first | exact HB.out | apply below_alloc | apply pw_below_drewN | apply below_drew1) | exact HB.out)) hb); have n2_ := Aside0.mk (hbox); have n3_ := Aside0.mk ((by rw [hg]; exact (below_size (by repeat (first | (with_reducible first | exact HB.out | apply below_alloc | apply pw_below_drewN | apply below_drew1) | exact HB.out))) : w.heap.size ≤ gb180)); have n4_ := Aside0.mk ((by rw [hg]; exact (below_size (by repeat (first | (with_reducible first | exact HB.out | apply below_alloc | apply pw_below_drewN | apply below_drew1) | exact HB.out))) : w.heap.size ≤ gb180)); clear HO174; clear HB; have HO174 := n0_; have HB := n1_; have BK180 := n2_; have GW180 := n3_; have GE180 := n4_; clear n0_ n1_ n2_ n3_ n4_; clear hb hbox hg; have hcz20_0 : w19.cell? ⟨gb180, 0, none⟩ = some (.string (⟨#[]⟩ : ByteArray)) := (blk_cell BK180.out 0).trans rfl; have hcz20_1 : w19.cell? ⟨gb180, 1, none⟩ = some (.int .i64 0) := (blk_cell BK180.out 1).trans rfl; have hcz20_2 : w19.cell? ⟨gb180, 2, none⟩ = some (.int .i64 0) := (blk_cell BK180.out 2).trans rfl; have hcz20_3 : w19.cell? ⟨gb180, 3, none⟩ = some (.int .i64 0) := (blk_cell BK180.out 3).trans rfl; have hcz20_4 : w19.cell? ⟨gb180, 4, none⟩ = some (.int .i64 0) := (blk_cell BK180.out 4).trans rfl; have hfz20_0 := blk_frozen BK180.out 0; have hfz20_1 := blk_frozen BK180.out 1; have hfz20_2 := blk_frozen BK180.out 2; have hfz20_3 := blk_frozen BK180.out 3; have hfz20_4 := blk_frozen BK180.out 4; obtain ⟨Ao21, co21, eo21⟩ := Kd.R_slice HO174.out; subst eo21) | (go_at_call 16; (with_reducible refine (railplankeep_Pick.calls a2 (wrap64 ((t172.length : Int) - 1)) t182 _ A14.out).mono ?_); rintro e w' ⟨rfl, ⟨nd, rfl⟩⟩; (try first | exact ⟨rfl, _, World.drewN_drewN _ _ _⟩ | exact ⟨rfl, _, Eq.trans (World.drewN_drewN _ _ _) (congrArg (World.drewN _) (Nat.add_assoc _ _ _))⟩)) | (go_at_call 17; (with_reducible refine (dynamics_Speeds.calls k _ _ t172 t182 t175 t176 t177 t178 t179 t183 t186 _ ?side1 ?side2 A15.out).mono ?_); (case side1 => refine (Kd.R_reads' (e := 34) (base := w.heap.size) (ok := fun k_ => True) (n := t172.length) (c := co21) ?_).2.2; exact (by (with_reducible repeat (first | apply Kd.R_alloc | apply Kd.R_drewN | apply Kd.R_drew)); exact (Kd.R_mono (Kd.R_far (p := ⟨gb180, 4, none⟩) (Kd.R_far (p := ⟨gb180, 3, none⟩) (Kd.R_far (p := ⟨gb180, 2, none⟩) (Kd.R_far (p := ⟨gb180, 1, none⟩) (Kd.R_far (p := ⟨gb180, 0, none⟩) (Kd.R_types HO174.out BK180.out (by decide)) (fun _ hk => hk.2) (.string t175)) (fun _ hk => hk.2) (.int .i64 t176)) (fun _ hk => hk.2) (.int .i64 t177)) (fun _ hk => hk.2) (.int .i64 t178)) (fun _ hk => hk.2) (.int .i64 t179)) (fun _ h_ => h_.1)))); (case side2 => exact (Kd.R_reads' HO174.out).2.1); rintro e w22 ⟨v184, rfl, ho0, hb⟩; have n0_ := Aside0.mk (Kd.R_below (by (with_reducible repeat (first | apply Kd.R_alloc | apply Kd.R_drewN | apply Kd.R_drew)); exact (Kd.R_mono (Kd.R_far (p := ⟨gb180, 4, none⟩) (Kd.R_far (p := ⟨gb180, 3, none⟩) (Kd.R_far (p := ⟨gb180, 2, none⟩) (Kd.R_far (p := ⟨gb180, 1, none⟩) (Kd.R_far (p := ⟨gb180, 0, none⟩) (Kd.R_types HO174.out BK180.out (by decide)) (fun _ hk => hk.2) (.string t175)) (fun _ hk => hk.2) (.int .i64 t176)) (fun _ hk => hk.2) (.int .i64 t177)) (fun _ hk => hk.2) (.int .i64 t178)) (fun _ hk => hk.2) (.int .i64 t179)) (fun _ h_ => h_.1))) hb); have n1_ := Aside0.mk (Kd.R_lower ho0 (below_size (by repeat (first | (with_reducible first | exact HB.out | apply below_alloc | apply pw_below_drewN | apply below_drew1 | refine below_set ?_ GE180.out) | exact HB.out)))); have n2_ := Aside0.mk (blk_below (g := gb180) (o := .cells #[.string t175, .int .i64 t176, .int .i64 t177, .int .i64 t178, .int .i64 t179] 26 (0, 0)) (by (with_reducible repeat (first | refine blk_drewN ?_ _ | refine blk_drew ?_ | refine blk_alloc ?_ _)); refine blk_put (cs := #[.string t175, .int .i64 t176, .int .i64 t177, .int .i64 t178, .int .i64 0]) ?_ 4 _ rfl; (with_reducible repeat (first | refine blk_drewN ?_ _ | refine blk_drew ?_ | refine blk_alloc ?_ _)); refine blk_put (cs := #[.string t175, .int .i64 t176, .int .i64 t177, .int .i64 0, .int .i64 0]) ?_ 3 _ rfl; (with_reducible repeat (first | refine blk_drewN ?_ _ | refine blk_drew ?_ | refine blk_alloc ?_ _)); refine blk_put (cs := #[.string t175, .int .i64 t176, .int .i64 0, .int .i64 0, .int .i64 0]) ?_ 2 _ rfl; (with_reducible repeat (first | refine blk_drewN ?_ _ | refine blk_drew ?_ | refine blk_alloc ?_ _)); refine blk_put (cs := #[.string t175, .int .i64 0, .int .i64 0, .int .i64 0, .int .i64 0]) ?_ 1 _ rfl; (with_reducible repeat (first | refine blk_drewN ?_ _ | refine blk_drew ?_ | refine blk_alloc ?_ _)); refine blk_put (cs := #[.string (⟨#[]⟩ : ByteArray), .int .i64 0, .int .i64 0, .int .i64 0, .int .i64 0]) ?_ 0 _ rfl; (with_reducible repeat (first | refine blk_drewN ?_ _ | refine blk_drew ?_ | refine blk_alloc ?_ _)); exact BK180.out) hb); have n3_ := Aside0.mk (below_step (by repeat (first | (with_reducible first | exact HB.out | apply below_alloc | apply pw_below_drewN | apply below_drew1 | refine below_set ?_ GE180.out) | exact HB.out)) hb); clear HO174; clear BK180; clear HB; have HO174 := n0_; have HO185 := n1_; have BK180 := n2_; have HB := n3_; clear n0_ n1_ n2_ n3_; (try clear hb); (try clear hb2); (try clear hk); (try clear hi); (try clear ho0))); go_upto_region 6 with (first | (go_at_call 13; (with_reducible refine (railplankeep_Cells.calls k _ _ l0 t172 _ ?side1 ?side2 A4.out).mono ?_); (case side1 => repeat (first | exact HR0.out | (with_reducible refine Kd.C_alloc ?_ _) | (with_reducible refine Kd.C_drewN ?_ _) | (with_reducible refine Kd.C_drew ?_))); (case side2 => exact HC0.out); rintro e w17 ⟨v173, rfl, ho0, hb⟩; have n0_ := Aside0.mk (Kd.R_lower ho0 (below_size (by repeat (first | (with_reducible first | exact HB.out | apply below_alloc | apply pw_below_drewN | apply below_drew1) | exact HB.out)))); have n1_ := Aside0.mk (below_step (by repeat (first | (with_reducible first | exact HB.out | apply below_alloc | apply pw_below_drewN | apply below_drew1) | exact HB.out)) hb); clear HB; have HO174 := n0_; have HB := n1_; clear n0_ n1_; (try clear hb); (try clear hb2); (try clear hk); (try clear hi); (try clear ho0)) | (go_at_call 14; (with_reducible refine (railplankeep_Stock.calls _ _ l1 t175 t176 t177 t178 t179 _ ?side1 ?side2 A5.out).mono ?_); (case side1 => repeat (first | exact (Kd.C_below HR1.out HB.out) | (with_reducible refine Kd.C_alloc ?_ _) | (with_reducible refine Kd.C_drewN ?_ _) | (with_reducible refine Kd.C_drew ?_))); (case side2 => exact HC1.out); rintro e w18 ⟨rfl, hb⟩; have n0_ := Aside0.mk (Kd.R_below (by (with_reducible repeat (first | apply Kd.R_alloc | apply Kd.R_drewN | apply Kd.R_drew)); exact HO174.out) hb); have n1_ := Aside0.mk (below_step (by repeat (first | (with_reducible first | exact HB.out | apply below_alloc | apply pw_below_drewN | apply below_drew1) | exact HB.out)) hb); clear HO174; clear HB; have HO174 := n0_; have HB := n1_; clear n0_ n1_; (try clear hb); (try clear hb2); (try clear hk); (try clear hi)) | ((with_reducible refine gate_dst (N := 8) rfl ?_); (try (refine gate_guard (by rfl) ?_; dsimp only)); refine box_event ?hg (N := 8) ?hd (cs := #[.string (⟨#[]⟩ : ByteArray), .int .i64 0, .int .i64 0, .int .i64 0, .int .i64 0]) (t := 26) ?hr ?_; (case hd => rfl); (case hg => rfl); (case hr => first | (go_simp; done) | (go_simp; rfl)); intro gb180 hg w19 hbox hb; have n0_ := Aside0.mk (Kd.R_below (by (with_reducible repeat (first | apply Kd.R_alloc | apply Kd.R_drewN | apply Kd.R_drew)); exact HO174.out) hb); have n1_ := Aside0.mk (below_step (by repeat (first | (with_reducible first | exact HB.out | apply below_alloc | apply pw_below_drewN | apply below_drew1) | exact HB.out)) hb); have n2_ := Aside0.mk (hbox); have n3_ := Aside0.mk ((by rw [hg]; exact (below_size (by repeat (first | (with_reducible first | exact HB.out | apply below_alloc | apply pw_below_drewN | apply below_drew1) | exact HB.out))) : w.heap.size ≤ gb180)); have n4_ := Aside0.mk ((by rw [hg]; exact (below_size (by repeat (first | (with_reducible first | exact HB.out | apply below_alloc | apply pw_below_drewN | apply below_drew1) | exact HB.out))) : w.heap.size ≤ gb180)); clear HO174; clear HB; have HO174 := n0_; have HB := n1_; have BK180 := n2_; have GW180 := n3_; have GE180 := n4_; clear n0_ n1_ n2_ n3_ n4_; clear hb hbox hg; have hcz20_0 : w19.cell? ⟨gb180, 0, none⟩ = some (.string (⟨#[]⟩ : ByteArray)) := (blk_cell BK180.out 0).trans rfl; have hcz20_1 : w19.cell? ⟨gb180, 1, none⟩ = some (.int .i64 0) := (blk_cell BK180.out 1).trans rfl; have hcz20_2 : w19.cell? ⟨gb180, 2, none⟩ = some (.int .i64 0) := (blk_cell BK180.out 2).trans rfl; have hcz20_3 : w19.cell? ⟨gb180, 3, none⟩ = some (.int .i64 0) := (blk_cell BK180.out 3).trans rfl; have hcz20_4 : w19.cell? ⟨gb180, 4, none⟩ = some (.int .i64 0) := (blk_cell BK180.out 4).trans rfl; have hfz20_0 := blk_frozen BK180.out 0; have hfz20_1 := blk_frozen BK180.out 1; have hfz20_2 := blk_frozen BK180.out 2; have hfz20_3 := blk_frozen BK180.out 3; have hfz20_4 := blk_frozen BK180.out 4; obtain ⟨Ao21, co21, eo21⟩ := Kd.R_slice HO174.out; subst eo21) | (go_at_call 16; (with_reducible refine (railplankeep_Pick.calls a2 (wrap64 ((t172.length : Int) - 1)) t182 _ A14.out).mono ?_); rintro e w' ⟨rfl, ⟨nd, rfl⟩⟩; (try first | exact ⟨rfl, _, World.drewN_drewN _ _ _⟩ | exact ⟨rfl, _, Eq.trans (World.drewN_drewN _ _ _) (congrArg (World.drewN _) (Nat.add_assoc _ _ _))⟩)) | (go_at_call 17; (with_reducible refine (dynamics_Speeds.calls k _ _ t172 t182 t175 t176 t177 t178 t179 t183 t186 _ ?side1 ?side2 A15.out).mono ?_); (case side1 => refine (Kd.R_reads' (e := 34) (base := w.heap.size) (ok := fun k_ => True) (n := t172.length) (c := co21) ?_).2.2; exact (by (with_reducible repeat (first | apply Kd.R_alloc | apply Kd.R_drewN | apply Kd.R_drew)); exact (Kd.R_mono (Kd.R_far (p := ⟨gb180, 4, none⟩) (Kd.R_far (p := ⟨gb180, 3, none⟩) (Kd.R_far (p := ⟨gb180, 2, none⟩) (Kd.R_far (p := ⟨gb180, 1, none⟩) (Kd.R_far (p := ⟨gb180, 0, none⟩) (Kd.R_types HO174.out BK180.out (by decide)) (fun _ hk => hk.2) (.string t175)) (fun _ hk => hk.2) (.int .i64 t176)) (fun _ hk => hk.2) (.int .i64 t177)) (fun _ hk => hk.2) (.int .i64 t178)) (fun _ hk => hk.2) (.int .i64 t179)) (fun _ h_ => h_.1)))); (case side2 => exact (Kd.R_reads' HO174.out).2.1); rintro e w22 ⟨v184, rfl, ho0, hb⟩; have n0_ := Aside0.mk (Kd.R_below (by (with_reducible repeat (first | apply Kd.R_alloc | apply Kd.R_drewN | apply Kd.R_drew)); exact (Kd.R_mono (Kd.R_far (p := ⟨gb180, 4, none⟩) (Kd.R_far (p := ⟨gb180, 3, none⟩) (Kd.R_far (p := ⟨gb180, 2, none⟩) (Kd.R_far (p := ⟨gb180, 1, none⟩) (Kd.R_far (p := ⟨gb180, 0, none⟩) (Kd.R_types HO174.out BK180.out (by decide)) (fun _ hk => hk.2) (.string t175)) (fun _ hk => hk.2) (.int .i64 t176)) (fun _ hk => hk.2) (.int .i64 t177)) (fun _ hk => hk.2) (.int .i64 t178)) (fun _ hk => hk.2) (.int .i64 t179)) (fun _ h_ => h_.1))) hb); have n1_ := Aside0.mk (Kd.R_lower ho0 (below_size (by repeat (first | (with_reducible first | exact HB.out | apply below_alloc | apply pw_below_drewN | apply below_drew1 | refine below_set ?_ GE180.out) | exact HB.out)))); have n2_ := Aside0.mk (blk_below (g := gb180) (o := .cells #[.string t175, .int .i64 t176, .int .i64 t177, .int .i64 t178, .int .i64 t179] 26 (0, 0)) (by (with_reducible repeat (first | refine blk_drewN ?_ _ | refine blk_drew ?_ | refine blk_alloc ?_ _)); refine blk_put (cs := #[.string t175, .int .i64 t176, .int .i64 t177, .int .i64 t178, .int .i64 0]) ?_ 4 _ rfl; (with_reducible repeat (first | refine blk_drewN ?_ _ | refine blk_drew ?_ | refine blk_alloc ?_ _)); refine blk_put (cs := #[.string t175, .int .i64 t176, .int .i64 t177, .int .i64 0, .int .i64 0]) ?_ 3 _ rfl; (with_reducible repeat (first | refine blk_drewN ?_ _ | refine blk_drew ?_ | refine blk_alloc ?_ _)); refine blk_put (cs := #[.string t175, .int .i64 t176, .int .i64 0, .int .i64 0, .int .i64 0]) ?_ 2 _ rfl; (with_reducible repeat (first | refine blk_drewN ?_ _ | refine blk_drew ?_ | refine blk_alloc ?_ _)); refine blk_put (cs := #[.string t175, .int .i64 0, .int .i64 0, .int .i64 0, .int .i64 0]) ?_ 1 _ rfl; (with_reducible repeat (first | refine blk_drewN ?_ _ | refine blk_drew ?_ | refine blk_alloc ?_ _)); refine blk_put (cs := #[.string (⟨#[]⟩ : ByteArray), .int .i64 0, .int .i64 0, .int .i64 0, .int .i64 0]) ?_ 0 _ rfl; (with_reducible repeat (first | refine blk_drewN ?_ _ | refine blk_drew ?_ | refine blk_alloc ?_ _)); exact BK180.out) hb); have n3_ := Aside0.mk (below_step (by repeat (first | (with_reducible first | exact HB.out | apply below_alloc | apply pw_below_drewN | apply below_drew1 | refine below_set ?_ GE180.out) | exact HB.out)) hb); clear HO174; clear BK180; clear HB; have HO174 := n0_; have HO185 := n1_; have BK180 := n2_; have HB := n3_; clear n0_ n1_ n2_ n3_; (try clear hb); (try clear hb2); (try clear hk); (try clear hi); (try clear ho0))))
    (try simp only [Act.put, List.setIfInBounds_toArray, List.set_cons_zero, List.set_cons_succ])
    go_cut [61] (fun v61 wc => ∃ (kq : Nat) (x61_15 : Bool), v61 = .bool x61_15 ∧ Aside0 (railplanlaw6_DynamicsSpeedsArePermitted.j0 kq t182 t172 t183 x61_15 t175 t176 t177 t178 t179 = some r) ∧ Aside0 (kq ≤ k) ∧ Aside0 (Kd.R k34 34 wc w.heap.size (fun _ => True) (.slice Ao21 t172.length co21) t172) ∧ Aside0 (Kd.R (Kd.int .i64) 3 wc w.heap.size (fun _ => True) v184 t183) ∧ Aside0 (wc.heap[gb180]? = some (.cells #[.string t175, .int .i64 t176, .int .i64 t177, .int .i64 t178, .int .i64 t179] 26 (0, 0))) ∧ Aside0 (Below w.heap.size w wc))
    case first =>
      have H := HC16.out
      clear HC16
      by_cases c23 : t186 = 0
      · rw [if_pos c23] at H
        have c23b0 : (t186 == 0) = true := beq_iff_eq.mpr c23
        have c23b1 : (t186 != 0) = false := bne_eq_false_iff_eq.mpr c23
        clear c23
        (first | rw [c23b0] | (simp only [i64_w, i32_w]; rw [c23b0]) | skip)
        by_cases c24 : (t183.length : Int) = (wrap64 ((wrap64 ((t172.length : Int) - t182)) + 1))
        · rw [if_pos c24] at H
          have c24b0 : ((t183.length : Int) == (wrap64 ((wrap64 ((t172.length : Int) - t182)) + 1))) = true := beq_iff_eq.mpr c24
          have c24b1 : ((t183.length : Int) != (wrap64 ((wrap64 ((t172.length : Int) - t182)) + 1))) = false := bne_eq_false_iff_eq.mpr c24
          clear c24
          by_cases c25 : 0 < (t183.length : Int)
          · rw [if_pos c25] at H
            have c25b0 : decide (0 < (t183.length : Int)) = true := decide_eq_true c25
            have c25b1 : decide (0 < t183.length) = true := decide_eq_true (by omega)
            clear c25
            by_cases c26 : (rd t183 0) = 0
            · rw [if_pos c26] at H
              have c26b0 : ((rd t183 0) == 0) = true := beq_iff_eq.mpr c26
              have c26b1 : ((rd t183 0) != 0) = false := bne_eq_false_iff_eq.mpr c26
              clear c26
              obtain ⟨ji27, hji27⟩ : ∃ j_ : Int, (wrap64 ((t183.length : Int) - 1)) = j_ := ⟨_, rfl⟩
              replace H : (if 0 ≤ (ji27) then (if (ji27) < (t183.length : Int) then (railplanlaw6_DynamicsSpeedsArePermitted.j0 k t182 t172 t183 ((rd t183 (ji27)) != 0) t175 t176 t177 t178 t179) else (none)) else (none)) = some r := by first | (rw [hji27] at H; exact H) | (simp only [hji27] at H ⊢; exact H)
              have hji27w : (IntKind.i64.wrap ((t183.length : Int) - 1)) = ji27 := (i64_w _).trans hji27
              by_cases c28 : 0 ≤ (ji27)
              · rw [if_pos c28] at H
                have c28b0 : decide (0 ≤ (ji27)) = true := decide_eq_true c28
                clear c28
                by_cases c29 : (ji27) < (t183.length : Int)
                · rw [if_pos c29] at H
                  have c29b0 : decide ((ji27) < (t183.length : Int)) = true := decide_eq_true c29
                  clear c29
                  have H' := Aside0.mk H
                  clear H
                  obtain ⟨Ao30, co30, eo30⟩ := Kd.R_slice HO185.out
                  subst eo30
                  have p187 : 0 ≤ (0 : Int) := (by omega)
                  have q187 : 0 < (t183.length : Int) := of_decide_eq_true (by first | (with_reducible assumption) | assumption)
                  obtain ⟨ad187, e187, hx187_0⟩ := Kd.at_int (Kd.R_reads' HO185.out).2.2 0 p187 q187
                  cases e187
                  have qi187 : (0 < t183.length) = True := eq_true (by omega)
                  (try rw [show ((0 : Int)).toNat = 0 from rfl] at hx187_0)
                  (try rw [Addr.add_zero'] at hx187_0)
                  replace p187 := eq_true p187
                  replace q187 := eq_true q187
                  have p188 : 0 ≤ ((ji27) : Int) := of_decide_eq_true (by first | (with_reducible assumption) | assumption)
                  have q188 : (ji27) < (t183.length : Int) := of_decide_eq_true (by first | (with_reducible assumption) | assumption)
                  obtain ⟨ad188, e188, hx188_0⟩ := Kd.at_int (Kd.R_reads' HO185.out).2.2 (ji27) p188 q188
                  obtain rfl : ad187 = ad188 := (by injection e188)
                  replace p188 := eq_true p188
                  replace q188 := eq_true q188
                  go_wp2
                  repeat (go_quiet (fail); try go_wp2)
                  go_meet
                  case rel => exact ⟨_, (((rd t183 (ji27)) != 0)), (by first | rfl | (simp; done) | (simp only [← hji27] <;> (first | rfl | simp)) | (simp [*]; done)), H', ⟨by first | omega | exact Nat.le_refl _⟩, ⟨by (with_reducible repeat (first | apply Kd.R_alloc | apply Kd.R_drewN | apply Kd.R_drew)); exact HO174.out⟩, ⟨by (with_reducible repeat (first | apply Kd.R_alloc | apply Kd.R_drewN | apply Kd.R_drew)); exact HO185.out⟩, ⟨by (with_reducible repeat (first | refine blk_drewN ?_ _ | refine blk_drew ?_ | refine blk_alloc ?_ _)); exact BK180.out⟩, ⟨by repeat (first | (with_reducible first | exact HB.out | apply below_alloc | apply pw_below_drewN | apply below_drew1 | refine below_set ?_ GE180.out) | exact HB.out)⟩⟩
                · rw [if_neg c29] at H
                  exact absurd H (by simp)
              · rw [if_neg c28] at H
                exact absurd H (by simp)
            · rw [if_neg c26] at H
              have c26b0 : ((rd t183 0) == 0) = false := beq_eq_false_iff_ne.mpr c26
              have c26b1 : ((rd t183 0) != 0) = true := bne_iff_ne.mpr c26
              have H' := Aside0.mk H
              clear H
              obtain ⟨Ao31, co31, eo31⟩ := Kd.R_slice HO185.out
              subst eo31
              have p187 : 0 ≤ (0 : Int) := (by omega)
              have q187 : 0 < (t183.length : Int) := of_decide_eq_true (by first | (with_reducible assumption) | assumption)
              obtain ⟨ad187, e187, hx187_0⟩ := Kd.at_int (Kd.R_reads' HO185.out).2.2 0 p187 q187
              cases e187
              have qi187 : (0 < t183.length) = True := eq_true (by omega)
              (try rw [show ((0 : Int)).toNat = 0 from rfl] at hx187_0)
              (try rw [Addr.add_zero'] at hx187_0)
              replace p187 := eq_true p187
              replace q187 := eq_true q187
              go_wp2
              repeat (go_quiet (fail); try go_wp2)
              go_meet
              case rel => exact ⟨_, (true), (by first | rfl | (simp; done) | (simp [*]; done)), H', ⟨by first | omega | exact Nat.le_refl _⟩, ⟨by (with_reducible repeat (first | apply Kd.R_alloc | apply Kd.R_drewN | apply Kd.R_drew)); exact HO174.out⟩, ⟨by (with_reducible repeat (first | apply Kd.R_alloc | apply Kd.R_drewN | apply Kd.R_drew)); exact HO185.out⟩, ⟨by (with_reducible repeat (first | refine blk_drewN ?_ _ | refine blk_drew ?_ | refine blk_alloc ?_ _)); exact BK180.out⟩, ⟨by repeat (first | (with_reducible first | exact HB.out | apply below_alloc | apply pw_below_drewN | apply below_drew1 | refine below_set ?_ GE180.out) | exact HB.out)⟩⟩
          · rw [if_neg c25] at H
            exact absurd H (by simp)
        · rw [if_neg c24] at H
          have c24b0 : ((t183.length : Int) == (wrap64 ((wrap64 ((t172.length : Int) - t182)) + 1))) = false := beq_eq_false_iff_ne.mpr c24
          have c24b1 : ((t183.length : Int) != (wrap64 ((wrap64 ((t172.length : Int) - t182)) + 1))) = true := bne_iff_ne.mpr c24
          have H' := Aside0.mk H
          clear H
          obtain ⟨Ao32, co32, eo32⟩ := Kd.R_slice HO185.out
          subst eo32
          go_wp2
          repeat (go_quiet (fail); try go_wp2)
          go_meet
          case rel => exact ⟨_, (true), (by first | rfl | (simp; done) | (simp [*]; done)), H', ⟨by first | omega | exact Nat.le_refl _⟩, ⟨by (with_reducible repeat (first | apply Kd.R_alloc | apply Kd.R_drewN | apply Kd.R_drew)); exact HO174.out⟩, ⟨by (with_reducible repeat (first | apply Kd.R_alloc | apply Kd.R_drewN | apply Kd.R_drew)); exact HO185.out⟩, ⟨by (with_reducible repeat (first | refine blk_drewN ?_ _ | refine blk_drew ?_ | refine blk_alloc ?_ _)); exact BK180.out⟩, ⟨by repeat (first | (with_reducible first | exact HB.out | apply below_alloc | apply pw_below_drewN | apply below_drew1 | refine below_set ?_ GE180.out) | exact HB.out)⟩⟩
      · rw [if_neg c23] at H
        have c23b0 : (t186 == 0) = false := beq_eq_false_iff_ne.mpr c23
        have c23b1 : (t186 != 0) = true := bne_iff_ne.mpr c23
        (first | rw [c23b0] | (simp only [i64_w, i32_w]; rw [c23b0]) | skip)
        have H' := Aside0.mk H
        clear H
        go_wp2
        repeat (go_quiet (fail); try go_wp2)
        go_meet
        case rel => exact ⟨_, (true), (by first | rfl | (simp; done) | (simp [*]; done)), H', ⟨by first | omega | exact Nat.le_refl _⟩, ⟨by (with_reducible repeat (first | apply Kd.R_alloc | apply Kd.R_drewN | apply Kd.R_drew)); exact HO174.out⟩, ⟨by (with_reducible repeat (first | apply Kd.R_alloc | apply Kd.R_drewN | apply Kd.R_drew)); exact HO185.out⟩, ⟨by (with_reducible repeat (first | refine blk_drewN ?_ _ | refine blk_drew ?_ | refine blk_alloc ?_ _)); exact BK180.out⟩, ⟨by repeat (first | (with_reducible first | exact HB.out | apply below_alloc | apply pw_below_drewN | apply below_drew1 | refine below_set ?_ GE180.out) | exact HB.out)⟩⟩
    case rest =>
      clear HC16
      try clear c1
      try clear p1
      try clear q1
      try clear hx1
      try clear qi1
      try clear c2
      try clear p2
      try clear c3
      try clear c6
      try clear c6b0
      try clear c6b1
      try clear p6
      try clear p18
      try clear q18
      try clear hx18
      try clear qi18
      try clear c23
      try clear c23b0
      try clear c23b1
      try clear c24
      try clear c24b0
      try clear c24b1
      try clear c25
      try clear c25b0
      try clear c25b1
      try clear c26
      try clear c26b0
      try clear c26b1
      try clear c28
      try clear c28b0
      try clear c29
      try clear c29b0
      try clear hcz11_0
      try clear hcz11_1
      try clear hcz11_2
      try clear hcz11_3
      try clear hcz11_4
      try clear hcz20_0
      try clear hcz20_1
      try clear hcz20_2
      try clear hcz20_3
      try clear hcz20_4
      try clear hfz11_0
      try clear hfz11_1
      try clear hfz11_2
      try clear hfz11_3
      try clear hfz11_4
      try clear hfz20_0
      try clear hfz20_1
      try clear hfz20_2
      try clear hfz20_3
      try clear hfz20_4
      try clear hx187_0
      try clear hx188_0
      try clear p187
      try clear p188
      try clear q187
      try clear q188
      obtain ⟨kq, x61_15, rfl, HA, HJ15, HO_7, HO_9, BK180, HB⟩ := hcut
      cases kq with
      | zero => exact absurd HA.out (by simp [railplanlaw6_DynamicsSpeedsArePermitted.j0])
      | succ kj15 =>
        have H := HA.out
        clear HA
        simp only [railplanlaw6_DynamicsSpeedsArePermitted.j0] at H
        by_cases c33 : x61_15 = true
        · subst c33
          have H1 : (some false) = some r := by rw [if_pos rfl] at H; exact H
          clear H
          have H := H1
          clear H1
          obtain rfl := Option.some.inj H
          go_wp2
          repeat (go_quiet (fail); try go_wp2)
          go_ret
          exact ⟨by first | rfl | (simp [errW_none, errW_some] <;> rfl) | (simp [*, errW_none, errW_some] <;> rfl), by repeat (first | (with_reducible first | exact HB.out | apply below_alloc | apply pw_below_drewN | apply below_drew1 | refine below_set ?_ GE180.out) | exact HB.out)⟩
        · replace c33 := Bool.eq_false_iff.mpr c33
          subst c33
          have H1 : (railplanlaw6_DynamicsSpeedsArePermitted.l0 kj15 t182 t172 t183 1 t175 t176 t177 t178 t179) = some r := by rw [if_neg (show ¬ (false = true) by decide)] at H; exact H
          clear H
          have H := H1
          clear H1
          have H' := Aside0.mk H
          clear H
          go_wp2
          repeat (go_quiet (fail); try go_wp2)
          go_loopg [11] kj15 (fun kq v11 w' => ∃ (x11_2 : Int), v11 = .int .i64 x11_2 ∧ Aside0 (railplanlaw6_DynamicsSpeedsArePermitted.l0 kq t182 t172 t183 x11_2 t175 t176 t177 t178 t179 = some r) ∧ Aside0 (kq ≤ kj15) ∧ Aside0 (Kd.R k34 34 w' w.heap.size (fun _ => True) (.slice Ao21 t172.length co21) t172) ∧ Aside0 (Kd.R (Kd.int .i64) 3 w' w.heap.size (fun _ => True) v184 t183) ∧ Aside0 (w'.heap[gb180]? = some (.cells #[.string t175, .int .i64 t176, .int .i64 t177, .int .i64 t178, .int .i64 t179] 26 (0, 0))) ∧ Aside0 (Below w.heap.size w w'))
          case atStart => exact ⟨(1), (by first | rfl | (simp; done) | (simp [*]; done)), H', ⟨Nat.le_refl _⟩, ⟨by (with_reducible repeat (first | apply Kd.R_alloc | apply Kd.R_drewN | apply Kd.R_drew)); exact HO_7.out⟩, ⟨by (with_reducible repeat (first | apply Kd.R_alloc | apply Kd.R_drewN | apply Kd.R_drew)); exact HO_9.out⟩, ⟨by (with_reducible repeat (first | refine blk_drewN ?_ _ | refine blk_drew ?_ | refine blk_alloc ?_ _)); exact BK180.out⟩, ⟨by repeat (first | (with_reducible first | exact HB.out | apply below_alloc | apply pw_below_drewN | apply below_drew1 | refine below_set ?_ GE180.out) | exact HB.out)⟩⟩
          case round =>
            clear H'
            try clear c1
            try clear p1
            try clear q1
            try clear hx1
            try clear qi1
            try clear c2
            try clear p2
            try clear c3
            try clear c6
            try clear c6b0
            try clear c6b1
            try clear p6
            try clear p18
            try clear q18
            try clear hx18
            try clear qi18
            try clear c23
            try clear c23b0
            try clear c23b1
            try clear c24
            try clear c24b0
            try clear c24b1
            try clear c25
            try clear c25b0
            try clear c25b1
            try clear c26
            try clear c26b0
            try clear c26b1
            try clear c28
            try clear c28b0
            try clear c29
            try clear c29b0
            try clear c33
            try clear hcz11_0
            try clear hcz11_1
            try clear hcz11_2
            try clear hcz11_3
            try clear hcz11_4
            try clear hcz20_0
            try clear hcz20_1
            try clear hcz20_2
            try clear hcz20_3
            try clear hcz20_4
            try clear hfz11_0
            try clear hfz11_1
            try clear hfz11_2
            try clear hfz11_3
            try clear hfz11_4
            try clear hfz20_0
            try clear hfz20_1
            try clear hfz20_2
            try clear hfz20_3
            try clear hfz20_4
            try clear hx187_0
            try clear hx188_0
            try clear p1
            try clear p18
            try clear p187
            try clear p188
            try clear p2
            try clear p6
            try clear q1
            try clear q18
            try clear q187
            try clear q188
            obtain ⟨x11_2, rfl, HA, HK2, HO_7, HO_9, BK180, HB⟩ := hrel
            cases gk with
            | zero => exact absurd HA.out (by simp [railplanlaw6_DynamicsSpeedsArePermitted.l0])
            | succ k2 =>
              have H := HA.out
              clear HA
              simp only [railplanlaw6_DynamicsSpeedsArePermitted.l0] at H
              by_cases c34 : x11_2 < (t183.length : Int)
              · rw [if_pos c34] at H
                have c34b0 : decide (x11_2 < (t183.length : Int)) = true := decide_eq_true c34
                clear c34
                by_cases c35 : 0 ≤ x11_2
                · rw [if_pos c35] at H
                  have c35b0 : decide (0 ≤ x11_2) = true := decide_eq_true c35
                  clear c35
                  obtain ⟨ji36, hji36⟩ : ∃ j_ : Int, (wrap64 (x11_2 - 1)) = j_ := ⟨_, rfl⟩
                  replace H : (if 0 ≤ (ji36) then (if (ji36) < (t183.length : Int) then (if (mx (wrap64 ((wrap64 ((rd t183 x11_2) * (rd t183 x11_2))) - (wrap64 ((wrap64 ((rd t183 (ji36)) + 1)) * (wrap64 ((rd t183 (ji36)) + 1)))))) (wrap64 ((wrap64 ((rd t183 (ji36)) * (rd t183 (ji36)))) - (wrap64 ((wrap64 ((rd t183 x11_2) + 1)) * (wrap64 ((rd t183 x11_2) + 1))))))) > (wrap64 (20000 * (mx t178 t179))) then (some false) else (railplanlaw6_DynamicsSpeedsArePermitted.l1 k2 t182 t172 t183 x11_2 (wrap64 ((wrap64 (t182 + x11_2)) - 1)) (mx 0 (wrap64 ((wrap64 ((wrap64 (t182 + x11_2)) - 1)) - t176))) t175 t176 t177 t178 t179)) else (none)) else (none)) = some r := by first | (rw [hji36] at H; exact H) | (simp only [hji36] at H ⊢; exact H)
                  have hji36w : (IntKind.i64.wrap (x11_2 - 1)) = ji36 := (i64_w _).trans hji36
                  by_cases c37 : 0 ≤ (ji36)
                  · rw [if_pos c37] at H
                    have c37b0 : decide (0 ≤ (ji36)) = true := decide_eq_true c37
                    clear c37
                    by_cases c38 : (ji36) < (t183.length : Int)
                    · rw [if_pos c38] at H
                      have c38b0 : decide ((ji36) < (t183.length : Int)) = true := decide_eq_true c38
                      clear c38
                      obtain ⟨ji39, hji39⟩ : ∃ j_ : Int, (mx (wrap64 ((wrap64 ((rd t183 x11_2) * (rd t183 x11_2))) - (wrap64 ((wrap64 ((rd t183 (ji36)) + 1)) * (wrap64 ((rd t183 (ji36)) + 1)))))) (wrap64 ((wrap64 ((rd t183 (ji36)) * (rd t183 (ji36)))) - (wrap64 ((wrap64 ((rd t183 x11_2) + 1)) * (wrap64 ((rd t183 x11_2) + 1))))))) = j_ := ⟨_, rfl⟩
                      replace H : (if (ji39) > (wrap64 (20000 * (mx t178 t179))) then (some false) else (railplanlaw6_DynamicsSpeedsArePermitted.l1 k2 t182 t172 t183 x11_2 (wrap64 ((wrap64 (t182 + x11_2)) - 1)) (mx 0 (wrap64 ((wrap64 ((wrap64 (t182 + x11_2)) - 1)) - t176))) t175 t176 t177 t178 t179)) = some r := by first | (rw [hji39] at H; exact H) | (simp only [hji39] at H ⊢; exact H)
                      have hji39_ : (if (wrap64 ((wrap64 ((rd t183 x11_2) * (rd t183 x11_2))) - (wrap64 ((wrap64 ((rd t183 (ji36)) + 1)) * (wrap64 ((rd t183 (ji36)) + 1)))))) < (wrap64 ((wrap64 ((rd t183 (ji36)) * (rd t183 (ji36)))) - (wrap64 ((wrap64 ((rd t183 x11_2) + 1)) * (wrap64 ((rd t183 x11_2) + 1)))))) then (wrap64 ((wrap64 ((rd t183 (ji36)) * (rd t183 (ji36)))) - (wrap64 ((wrap64 ((rd t183 x11_2) + 1)) * (wrap64 ((rd t183 x11_2) + 1)))))) else (wrap64 ((wrap64 ((rd t183 x11_2) * (rd t183 x11_2))) - (wrap64 ((wrap64 ((rd t183 (ji36)) + 1)) * (wrap64 ((rd t183 (ji36)) + 1))))))) = ji39 := hji39
                      obtain ⟨ji40, hji40⟩ : ∃ j_ : Int, (mx t178 t179) = j_ := ⟨_, rfl⟩
                      replace H : (if (ji39) > (wrap64 (20000 * (ji40))) then (some false) else (railplanlaw6_DynamicsSpeedsArePermitted.l1 k2 t182 t172 t183 x11_2 (wrap64 ((wrap64 (t182 + x11_2)) - 1)) (mx 0 (wrap64 ((wrap64 ((wrap64 (t182 + x11_2)) - 1)) - t176))) t175 t176 t177 t178 t179)) = some r := by first | (rw [hji40] at H; exact H) | (simp only [hji40] at H ⊢; exact H)
                      have hji40_ : (if t178 < t179 then t179 else t178) = ji40 := hji40
                      by_cases c41 : (ji39) > (wrap64 (20000 * (ji40)))
                      · rw [if_pos c41] at H
                        have c41b0 : decide ((wrap64 (20000 * (ji40))) < (ji39)) = true := decide_eq_true c41
                        clear c41
                        obtain rfl := Option.some.inj H
                        obtain ⟨Ao42, co42, eo42⟩ := Kd.R_slice HO_9.out
                        subst eo42
                        have p189 : 0 ≤ (x11_2 : Int) := of_decide_eq_true (by first | (with_reducible assumption) | assumption)
                        have q189 : x11_2 < (t183.length : Int) := of_decide_eq_true (by first | (with_reducible assumption) | assumption)
                        obtain ⟨ad189, e189, hx189_0⟩ := Kd.at_int (Kd.R_reads' HO_9.out).2.2 x11_2 p189 q189
                        cases e189
                        replace p189 := eq_true p189
                        replace q189 := eq_true q189
                        have p190 : 0 ≤ (x11_2 : Int) := of_decide_eq_true (by first | (with_reducible assumption) | assumption)
                        have q190 : x11_2 < (t183.length : Int) := of_decide_eq_true (by first | (with_reducible assumption) | assumption)
                        obtain ⟨ad190, e190, hx190_0⟩ := Kd.at_int (Kd.R_reads' HO_9.out).2.2 x11_2 p190 q190
                        obtain rfl : ad189 = ad190 := (by injection e190)
                        replace p190 := eq_true p190
                        replace q190 := eq_true q190
                        have p191 : 0 ≤ ((ji36) : Int) := of_decide_eq_true (by first | (with_reducible assumption) | assumption)
                        have q191 : (ji36) < (t183.length : Int) := of_decide_eq_true (by first | (with_reducible assumption) | assumption)
                        obtain ⟨ad191, e191, hx191_0⟩ := Kd.at_int (Kd.R_reads' HO_9.out).2.2 (ji36) p191 q191
                        obtain rfl : ad189 = ad191 := (by injection e191)
                        replace p191 := eq_true p191
                        replace q191 := eq_true q191
                        have p192 : 0 ≤ ((ji36) : Int) := of_decide_eq_true (by first | (with_reducible assumption) | assumption)
                        have q192 : (ji36) < (t183.length : Int) := of_decide_eq_true (by first | (with_reducible assumption) | assumption)
                        obtain ⟨ad192, e192, hx192_0⟩ := Kd.at_int (Kd.R_reads' HO_9.out).2.2 (ji36) p192 q192
                        obtain rfl : ad189 = ad192 := (by injection e192)
                        replace p192 := eq_true p192
                        replace q192 := eq_true q192
                        have p193 : 0 ≤ ((ji36) : Int) := of_decide_eq_true (by first | (with_reducible assumption) | assumption)
                        have q193 : (ji36) < (t183.length : Int) := of_decide_eq_true (by first | (with_reducible assumption) | assumption)
                        obtain ⟨ad193, e193, hx193_0⟩ := Kd.at_int (Kd.R_reads' HO_9.out).2.2 (ji36) p193 q193
                        obtain rfl : ad189 = ad193 := (by injection e193)
                        replace p193 := eq_true p193
                        replace q193 := eq_true q193
                        have p194 : 0 ≤ ((ji36) : Int) := of_decide_eq_true (by first | (with_reducible assumption) | assumption)
                        have q194 : (ji36) < (t183.length : Int) := of_decide_eq_true (by first | (with_reducible assumption) | assumption)
                        obtain ⟨ad194, e194, hx194_0⟩ := Kd.at_int (Kd.R_reads' HO_9.out).2.2 (ji36) p194 q194
                        obtain rfl : ad189 = ad194 := (by injection e194)
                        replace p194 := eq_true p194
                        replace q194 := eq_true q194
                        have p195 : 0 ≤ (x11_2 : Int) := of_decide_eq_true (by first | (with_reducible assumption) | assumption)
                        have q195 : x11_2 < (t183.length : Int) := of_decide_eq_true (by first | (with_reducible assumption) | assumption)
                        obtain ⟨ad195, e195, hx195_0⟩ := Kd.at_int (Kd.R_reads' HO_9.out).2.2 x11_2 p195 q195
                        obtain rfl : ad189 = ad195 := (by injection e195)
                        replace p195 := eq_true p195
                        replace q195 := eq_true q195
                        have p196 : 0 ≤ (x11_2 : Int) := of_decide_eq_true (by first | (with_reducible assumption) | assumption)
                        have q196 : x11_2 < (t183.length : Int) := of_decide_eq_true (by first | (with_reducible assumption) | assumption)
                        obtain ⟨ad196, e196, hx196_0⟩ := Kd.at_int (Kd.R_reads' HO_9.out).2.2 x11_2 p196 q196
                        obtain rfl : ad189 = ad196 := (by injection e196)
                        replace p196 := eq_true p196
                        replace q196 := eq_true q196
                        have hcz43_0 : wr.cell? ⟨gb180, 0, none⟩ = some (.string t175) := (blk_cell BK180.out 0).trans rfl
                        have hcz43_1 : wr.cell? ⟨gb180, 1, none⟩ = some (.int .i64 t176) := (blk_cell BK180.out 1).trans rfl
                        have hcz43_2 : wr.cell? ⟨gb180, 2, none⟩ = some (.int .i64 t177) := (blk_cell BK180.out 2).trans rfl
                        have hcz43_3 : wr.cell? ⟨gb180, 3, none⟩ = some (.int .i64 t178) := (blk_cell BK180.out 3).trans rfl
                        have hcz43_4 : wr.cell? ⟨gb180, 4, none⟩ = some (.int .i64 t179) := (blk_cell BK180.out 4).trans rfl
                        have hfz43_0 := blk_frozen BK180.out 0
                        have hfz43_1 := blk_frozen BK180.out 1
                        have hfz43_2 := blk_frozen BK180.out 2
                        have hfz43_3 := blk_frozen BK180.out 3
                        have hfz43_4 := blk_frozen BK180.out 4
                        go_wp2
                        repeat (go_quiet (fail); try go_wp2)
                        go_ret
                        exact ⟨by first | rfl | (simp [errW_none, errW_some] <;> rfl) | (simp only [← hji36, ← hji39, ← hji40]; first | rfl | (simp [errW_none, errW_some] <;> rfl)) | (simp [*, errW_none, errW_some] <;> rfl), by repeat (first | (with_reducible first | exact HB.out | apply below_alloc | apply pw_below_drewN | apply below_drew1 | refine below_set ?_ GE180.out) | exact HB.out)⟩
                      · rw [if_neg c41] at H
                        have c41b0 : decide ((wrap64 (20000 * (ji40))) < (ji39)) = false := decide_eq_false c41
                        clear c41
                        obtain ⟨ji44, hji44⟩ : ∃ j_ : Int, (mx 0 (wrap64 ((wrap64 ((wrap64 (t182 + x11_2)) - 1)) - t176))) = j_ := ⟨_, rfl⟩
                        replace H : (railplanlaw6_DynamicsSpeedsArePermitted.l1 k2 t182 t172 t183 x11_2 (wrap64 ((wrap64 (t182 + x11_2)) - 1)) ji44 t175 t176 t177 t178 t179) = some r := by first | (rw [hji44] at H; exact H) | (simp only [hji44] at H ⊢; exact H)
                        have hji44_ : (if 0 < (wrap64 ((wrap64 ((wrap64 (t182 + x11_2)) - 1)) - t176)) then (wrap64 ((wrap64 ((wrap64 (t182 + x11_2)) - 1)) - t176)) else 0) = ji44 := hji44
                        have H' := Aside0.mk H
                        clear H
                        obtain ⟨Ao45, co45, eo45⟩ := Kd.R_slice HO_9.out
                        subst eo45
                        have p189 : 0 ≤ (x11_2 : Int) := of_decide_eq_true (by first | (with_reducible assumption) | assumption)
                        have q189 : x11_2 < (t183.length : Int) := of_decide_eq_true (by first | (with_reducible assumption) | assumption)
                        obtain ⟨ad189, e189, hx189_0⟩ := Kd.at_int (Kd.R_reads' HO_9.out).2.2 x11_2 p189 q189
                        cases e189
                        replace p189 := eq_true p189
                        replace q189 := eq_true q189
                        have p190 : 0 ≤ (x11_2 : Int) := of_decide_eq_true (by first | (with_reducible assumption) | assumption)
                        have q190 : x11_2 < (t183.length : Int) := of_decide_eq_true (by first | (with_reducible assumption) | assumption)
                        obtain ⟨ad190, e190, hx190_0⟩ := Kd.at_int (Kd.R_reads' HO_9.out).2.2 x11_2 p190 q190
                        obtain rfl : ad189 = ad190 := (by injection e190)
                        replace p190 := eq_true p190
                        replace q190 := eq_true q190
                        have p191 : 0 ≤ ((ji36) : Int) := of_decide_eq_true (by first | (with_reducible assumption) | assumption)
                        have q191 : (ji36) < (t183.length : Int) := of_decide_eq_true (by first | (with_reducible assumption) | assumption)
                        obtain ⟨ad191, e191, hx191_0⟩ := Kd.at_int (Kd.R_reads' HO_9.out).2.2 (ji36) p191 q191
                        obtain rfl : ad189 = ad191 := (by injection e191)
                        replace p191 := eq_true p191
                        replace q191 := eq_true q191
                        have p192 : 0 ≤ ((ji36) : Int) := of_decide_eq_true (by first | (with_reducible assumption) | assumption)
                        have q192 : (ji36) < (t183.length : Int) := of_decide_eq_true (by first | (with_reducible assumption) | assumption)
                        obtain ⟨ad192, e192, hx192_0⟩ := Kd.at_int (Kd.R_reads' HO_9.out).2.2 (ji36) p192 q192
                        obtain rfl : ad189 = ad192 := (by injection e192)
                        replace p192 := eq_true p192
                        replace q192 := eq_true q192
                        have p193 : 0 ≤ ((ji36) : Int) := of_decide_eq_true (by first | (with_reducible assumption) | assumption)
                        have q193 : (ji36) < (t183.length : Int) := of_decide_eq_true (by first | (with_reducible assumption) | assumption)
                        obtain ⟨ad193, e193, hx193_0⟩ := Kd.at_int (Kd.R_reads' HO_9.out).2.2 (ji36) p193 q193
                        obtain rfl : ad189 = ad193 := (by injection e193)
                        replace p193 := eq_true p193
                        replace q193 := eq_true q193
                        have p194 : 0 ≤ ((ji36) : Int) := of_decide_eq_true (by first | (with_reducible assumption) | assumption)
                        have q194 : (ji36) < (t183.length : Int) := of_decide_eq_true (by first | (with_reducible assumption) | assumption)
                        obtain ⟨ad194, e194, hx194_0⟩ := Kd.at_int (Kd.R_reads' HO_9.out).2.2 (ji36) p194 q194
                        obtain rfl : ad189 = ad194 := (by injection e194)
                        replace p194 := eq_true p194
                        replace q194 := eq_true q194
                        have p195 : 0 ≤ (x11_2 : Int) := of_decide_eq_true (by first | (with_reducible assumption) | assumption)
                        have q195 : x11_2 < (t183.length : Int) := of_decide_eq_true (by first | (with_reducible assumption) | assumption)
                        obtain ⟨ad195, e195, hx195_0⟩ := Kd.at_int (Kd.R_reads' HO_9.out).2.2 x11_2 p195 q195
                        obtain rfl : ad189 = ad195 := (by injection e195)
                        replace p195 := eq_true p195
                        replace q195 := eq_true q195
                        have p196 : 0 ≤ (x11_2 : Int) := of_decide_eq_true (by first | (with_reducible assumption) | assumption)
                        have q196 : x11_2 < (t183.length : Int) := of_decide_eq_true (by first | (with_reducible assumption) | assumption)
                        obtain ⟨ad196, e196, hx196_0⟩ := Kd.at_int (Kd.R_reads' HO_9.out).2.2 x11_2 p196 q196
                        obtain rfl : ad189 = ad196 := (by injection e196)
                        replace p196 := eq_true p196
                        replace q196 := eq_true q196
                        have hcz46_0 : wr.cell? ⟨gb180, 0, none⟩ = some (.string t175) := (blk_cell BK180.out 0).trans rfl
                        have hcz46_1 : wr.cell? ⟨gb180, 1, none⟩ = some (.int .i64 t176) := (blk_cell BK180.out 1).trans rfl
                        have hcz46_2 : wr.cell? ⟨gb180, 2, none⟩ = some (.int .i64 t177) := (blk_cell BK180.out 2).trans rfl
                        have hcz46_3 : wr.cell? ⟨gb180, 3, none⟩ = some (.int .i64 t178) := (blk_cell BK180.out 3).trans rfl
                        have hcz46_4 : wr.cell? ⟨gb180, 4, none⟩ = some (.int .i64 t179) := (blk_cell BK180.out 4).trans rfl
                        have hfz46_0 := blk_frozen BK180.out 0
                        have hfz46_1 := blk_frozen BK180.out 1
                        have hfz46_2 := blk_frozen BK180.out 2
                        have hfz46_3 := blk_frozen BK180.out 3
                        have hfz46_4 := blk_frozen BK180.out 4
                        go_wp2
                        repeat (go_quiet (fail); try go_wp2)
                        go_loopg [13] k2 (fun kq v13 w' => ∃ (x13_3 : Int), v13 = .int .i64 x13_3 ∧ Aside0 (railplanlaw6_DynamicsSpeedsArePermitted.l1 kq t182 t172 t183 x11_2 (wrap64 ((wrap64 (t182 + x11_2)) - 1)) x13_3 t175 t176 t177 t178 t179 = some r) ∧ Aside0 (kq ≤ k2) ∧ Aside0 (Kd.R k34 34 w' w.heap.size (fun _ => True) (.slice Ao21 t172.length co21) t172) ∧ Aside0 (Kd.R (Kd.int .i64) 3 w' w.heap.size (fun _ => True) (.slice (some ad189) t183.length co45) t183) ∧ Aside0 (w'.heap[gb180]? = some (.cells #[.string t175, .int .i64 t176, .int .i64 t177, .int .i64 t178, .int .i64 t179] 26 (0, 0))) ∧ Aside0 (Below w.heap.size w w'))
                        case atStart => exact ⟨(ji44), (by first | rfl | (simp; done) | (simp only [← hji44] <;> (first | rfl | simp)) | (simp [*]; done)), H', ⟨Nat.le_refl _⟩, ⟨by (with_reducible repeat (first | apply Kd.R_alloc | apply Kd.R_drewN | apply Kd.R_drew)); exact HO_7.out⟩, ⟨by (with_reducible repeat (first | apply Kd.R_alloc | apply Kd.R_drewN | apply Kd.R_drew)); exact HO_9.out⟩, ⟨by (with_reducible repeat (first | refine blk_drewN ?_ _ | refine blk_drew ?_ | refine blk_alloc ?_ _)); exact BK180.out⟩, ⟨by repeat (first | (with_reducible first | exact HB.out | apply below_alloc | apply pw_below_drewN | apply below_drew1 | refine below_set ?_ GE180.out) | exact HB.out)⟩⟩
                        case round =>
                          clear H'
                          try clear c1
                          try clear p1
                          try clear q1
                          try clear hx1
                          try clear qi1
                          try clear c2
                          try clear p2
                          try clear c3
                          try clear c4
                          try clear c6
                          try clear c6b0
                          try clear c6b1
                          try clear p6
                          try clear p18
                          try clear q18
                          try clear hx18
                          try clear qi18
                          try clear p19
                          try clear q19
                          try clear hx19
                          try clear c23
                          try clear c23b0
                          try clear c23b1
                          try clear c24
                          try clear c24b0
                          try clear c24b1
                          try clear c25
                          try clear c25b0
                          try clear c25b1
                          try clear c26
                          try clear c26b0
                          try clear c26b1
                          try clear c28
                          try clear c28b0
                          try clear c29
                          try clear c29b0
                          try clear c33
                          try clear c34
                          try clear c34b0
                          try clear c35
                          try clear c35b0
                          try clear c37
                          try clear c37b0
                          try clear c38
                          try clear c38b0
                          try clear c41
                          try clear c41b0
                          try clear hcz11_0
                          try clear hcz11_1
                          try clear hcz11_2
                          try clear hcz11_3
                          try clear hcz11_4
                          try clear hcz20_0
                          try clear hcz20_1
                          try clear hcz20_2
                          try clear hcz20_3
                          try clear hcz20_4
                          try clear hcz43_0
                          try clear hcz43_1
                          try clear hcz43_2
                          try clear hcz43_3
                          try clear hcz43_4
                          try clear hcz46_0
                          try clear hcz46_1
                          try clear hcz46_2
                          try clear hcz46_3
                          try clear hcz46_4
                          try clear hfz11_0
                          try clear hfz11_1
                          try clear hfz11_2
                          try clear hfz11_3
                          try clear hfz11_4
                          try clear hfz20_0
                          try clear hfz20_1
                          try clear hfz20_2
                          try clear hfz20_3
                          try clear hfz20_4
                          try clear hfz43_0
                          try clear hfz43_1
                          try clear hfz43_2
                          try clear hfz43_3
                          try clear hfz43_4
                          try clear hfz46_0
                          try clear hfz46_1
                          try clear hfz46_2
                          try clear hfz46_3
                          try clear hfz46_4
                          try clear hx187_0
                          try clear hx188_0
                          try clear hx189_0
                          try clear hx190_0
                          try clear hx191_0
                          try clear hx192_0
                          try clear hx193_0
                          try clear hx194_0
                          try clear hx195_0
                          try clear hx196_0
                          try clear p1
                          try clear p18
                          try clear p187
                          try clear p188
                          try clear p189
                          try clear p190
                          try clear p191
                          try clear p192
                          try clear p193
                          try clear p194
                          try clear p195
                          try clear p196
                          try clear p2
                          try clear p6
                          try clear q1
                          try clear q18
                          try clear q187
                          try clear q188
                          try clear q189
                          try clear q190
                          try clear q191
                          try clear q192
                          try clear q193
                          try clear q194
                          try clear q195
                          try clear q196
                          obtain ⟨x13_3, rfl, HA, HK3, HO_7, HO_9, BK180, HB⟩ := hrel
                          cases gk with
                          | zero => exact absurd HA.out (by simp [railplanlaw6_DynamicsSpeedsArePermitted.l1])
                          | succ k3 =>
                            have H := HA.out
                            clear HA
                            simp only [railplanlaw6_DynamicsSpeedsArePermitted.l1] at H
                            by_cases c47 : x13_3 ≤ (wrap64 ((wrap64 (t182 + x11_2)) - 1))
                            · rw [if_pos c47] at H
                              have c47b0 : decide (x13_3 ≤ (wrap64 ((wrap64 (t182 + x11_2)) - 1))) = true := decide_eq_true c47
                              clear c47
                              by_cases c48 : 0 ≤ x11_2
                              · rw [if_pos c48] at H
                                have c48b0 : decide (0 ≤ x11_2) = true := decide_eq_true c48
                                clear c48
                                by_cases c49 : x11_2 < (t183.length : Int)
                                · rw [if_pos c49] at H
                                  have c49b0 : decide (x11_2 < (t183.length : Int)) = true := decide_eq_true c49
                                  clear c49
                                  by_cases c50 : 0 ≤ x13_3
                                  · rw [if_pos c50] at H
                                    have c50b0 : decide (0 ≤ x13_3) = true := decide_eq_true c50
                                    clear c50
                                    by_cases c51 : x13_3 < (t172.length : Int)
                                    · rw [if_pos c51] at H
                                      have c51b0 : decide (x13_3 < (t172.length : Int)) = true := decide_eq_true c51
                                      clear c51
                                      by_cases c52 : (rd t183 x11_2) > ((rd_T34 t172 x13_3).f0)
                                      · rw [if_pos c52] at H
                                        have c52b0 : decide (((rd_T34 t172 x13_3).f0) < (rd t183 x11_2)) = true := decide_eq_true c52
                                        clear c52
                                        obtain rfl := Option.some.inj H
                                        have p197 : 0 ≤ (x11_2 : Int) := of_decide_eq_true (by first | (with_reducible assumption) | assumption)
                                        have q197 : x11_2 < (t183.length : Int) := of_decide_eq_true (by first | (with_reducible assumption) | assumption)
                                        obtain ⟨ad197, e197, hx197_0⟩ := Kd.at_int (Kd.R_reads' HO_9.out).2.2 x11_2 p197 q197
                                        obtain rfl : ad189 = ad197 := (by injection e197)
                                        replace p197 := eq_true p197
                                        replace q197 := eq_true q197
                                        have p198 : 0 ≤ (x13_3 : Int) := of_decide_eq_true (by first | (with_reducible assumption) | assumption)
                                        have q198 : x13_3 < (t172.length : Int) := of_decide_eq_true (by first | (with_reducible assumption) | assumption)
                                        obtain ⟨ad198, e198, hx198_0, hx198_1⟩ := at_T34 (Kd.R_reads' HO_7.out).2.2 x13_3 p198 q198
                                        cases e198
                                        replace p198 := eq_true p198
                                        replace q198 := eq_true q198
                                        go_wp2
                                        repeat (go_quiet (fail); try go_wp2)
                                        go_ret
                                        exact ⟨by first | rfl | (simp [errW_none, errW_some] <;> rfl) | (simp only [← hji36, ← hji39, ← hji40, ← hji44]; first | rfl | (simp [errW_none, errW_some] <;> rfl)) | (simp [*, errW_none, errW_some] <;> rfl), by repeat (first | (with_reducible first | exact HB.out | apply below_alloc | apply pw_below_drewN | apply below_drew1 | refine below_set ?_ GE180.out) | exact HB.out)⟩
                                      · rw [if_neg c52] at H
                                        have c52b0 : decide (((rd_T34 t172 x13_3).f0) < (rd t183 x11_2)) = false := decide_eq_false c52
                                        clear c52
                                        obtain ⟨ji53, hji53⟩ : ∃ j_ : Int, (wrap64 (x11_2 - 1)) = j_ := ⟨_, rfl⟩
                                        replace H : (if 0 ≤ (ji53) then (if (ji53) < (t183.length : Int) then (if (rd t183 (ji53)) > ((rd_T34 t172 x13_3).f0) then (some false) else (railplanlaw6_DynamicsSpeedsArePermitted.l1 k3 t182 t172 t183 x11_2 (wrap64 ((wrap64 (t182 + x11_2)) - 1)) (wrap64 (x13_3 + 1)) t175 t176 t177 t178 t179)) else (none)) else (none)) = some r := by first | (rw [hji53] at H; exact H) | (simp only [hji53] at H ⊢; exact H)
                                        have hji53w : (IntKind.i64.wrap (x11_2 - 1)) = ji53 := (i64_w _).trans hji53
                                        obtain rfl : ji53 = ji36 := hji53.symm.trans hji36
                                        by_cases c54 : 0 ≤ (ji53)
                                        · rw [if_pos c54] at H
                                          have c54b0 : decide (0 ≤ (ji53)) = true := decide_eq_true c54
                                          clear c54
                                          by_cases c55 : (ji53) < (t183.length : Int)
                                          · rw [if_pos c55] at H
                                            have c55b0 : decide ((ji53) < (t183.length : Int)) = true := decide_eq_true c55
                                            clear c55
                                            by_cases c56 : (rd t183 (ji53)) > ((rd_T34 t172 x13_3).f0)
                                            · rw [if_pos c56] at H
                                              have c56b0 : decide (((rd_T34 t172 x13_3).f0) < (rd t183 (ji53))) = true := decide_eq_true c56
                                              clear c56
                                              obtain rfl := Option.some.inj H
                                              have p197 : 0 ≤ (x11_2 : Int) := of_decide_eq_true (by first | (with_reducible assumption) | assumption)
                                              have q197 : x11_2 < (t183.length : Int) := of_decide_eq_true (by first | (with_reducible assumption) | assumption)
                                              obtain ⟨ad197, e197, hx197_0⟩ := Kd.at_int (Kd.R_reads' HO_9.out).2.2 x11_2 p197 q197
                                              obtain rfl : ad189 = ad197 := (by injection e197)
                                              replace p197 := eq_true p197
                                              replace q197 := eq_true q197
                                              have p198 : 0 ≤ (x13_3 : Int) := of_decide_eq_true (by first | (with_reducible assumption) | assumption)
                                              have q198 : x13_3 < (t172.length : Int) := of_decide_eq_true (by first | (with_reducible assumption) | assumption)
                                              obtain ⟨ad198, e198, hx198_0, hx198_1⟩ := at_T34 (Kd.R_reads' HO_7.out).2.2 x13_3 p198 q198
                                              cases e198
                                              replace p198 := eq_true p198
                                              replace q198 := eq_true q198
                                              have p199 : 0 ≤ ((ji53) : Int) := of_decide_eq_true (by first | (with_reducible assumption) | assumption)
                                              have q199 : (ji53) < (t183.length : Int) := of_decide_eq_true (by first | (with_reducible assumption) | assumption)
                                              obtain ⟨ad199, e199, hx199_0⟩ := Kd.at_int (Kd.R_reads' HO_9.out).2.2 (ji53) p199 q199
                                              obtain rfl : ad189 = ad199 := (by injection e199)
                                              replace p199 := eq_true p199
                                              replace q199 := eq_true q199
                                              have p200 : 0 ≤ (x13_3 : Int) := of_decide_eq_true (by first | (with_reducible assumption) | assumption)
                                              have q200 : x13_3 < (t172.length : Int) := of_decide_eq_true (by first | (with_reducible assumption) | assumption)
                                              obtain ⟨ad200, e200, hx200_0, hx200_1⟩ := at_T34 (Kd.R_reads' HO_7.out).2.2 x13_3 p200 q200
                                              obtain rfl : ad198 = ad200 := (by injection e200)
                                              replace p200 := eq_true p200
                                              replace q200 := eq_true q200
                                              go_wp2
                                              repeat (go_quiet (fail); try go_wp2)
                                              go_ret
                                              exact ⟨by first | rfl | (simp [errW_none, errW_some] <;> rfl) | (simp only [← hji36, ← hji39, ← hji40, ← hji44, ← hji53]; first | rfl | (simp [errW_none, errW_some] <;> rfl)) | (simp [*, errW_none, errW_some] <;> rfl), by repeat (first | (with_reducible first | exact HB.out | apply below_alloc | apply pw_below_drewN | apply below_drew1 | refine below_set ?_ GE180.out) | exact HB.out)⟩
                                            · rw [if_neg c56] at H
                                              have c56b0 : decide (((rd_T34 t172 x13_3).f0) < (rd t183 (ji53))) = false := decide_eq_false c56
                                              clear c56
                                              have H' := Aside0.mk H
                                              clear H
                                              have p197 : 0 ≤ (x11_2 : Int) := of_decide_eq_true (by first | (with_reducible assumption) | assumption)
                                              have q197 : x11_2 < (t183.length : Int) := of_decide_eq_true (by first | (with_reducible assumption) | assumption)
                                              obtain ⟨ad197, e197, hx197_0⟩ := Kd.at_int (Kd.R_reads' HO_9.out).2.2 x11_2 p197 q197
                                              obtain rfl : ad189 = ad197 := (by injection e197)
                                              replace p197 := eq_true p197
                                              replace q197 := eq_true q197
                                              have p198 : 0 ≤ (x13_3 : Int) := of_decide_eq_true (by first | (with_reducible assumption) | assumption)
                                              have q198 : x13_3 < (t172.length : Int) := of_decide_eq_true (by first | (with_reducible assumption) | assumption)
                                              obtain ⟨ad198, e198, hx198_0, hx198_1⟩ := at_T34 (Kd.R_reads' HO_7.out).2.2 x13_3 p198 q198
                                              cases e198
                                              replace p198 := eq_true p198
                                              replace q198 := eq_true q198
                                              have p199 : 0 ≤ ((ji53) : Int) := of_decide_eq_true (by first | (with_reducible assumption) | assumption)
                                              have q199 : (ji53) < (t183.length : Int) := of_decide_eq_true (by first | (with_reducible assumption) | assumption)
                                              obtain ⟨ad199, e199, hx199_0⟩ := Kd.at_int (Kd.R_reads' HO_9.out).2.2 (ji53) p199 q199
                                              obtain rfl : ad189 = ad199 := (by injection e199)
                                              replace p199 := eq_true p199
                                              replace q199 := eq_true q199
                                              have p200 : 0 ≤ (x13_3 : Int) := of_decide_eq_true (by first | (with_reducible assumption) | assumption)
                                              have q200 : x13_3 < (t172.length : Int) := of_decide_eq_true (by first | (with_reducible assumption) | assumption)
                                              obtain ⟨ad200, e200, hx200_0, hx200_1⟩ := at_T34 (Kd.R_reads' HO_7.out).2.2 x13_3 p200 q200
                                              obtain rfl : ad198 = ad200 := (by injection e200)
                                              replace p200 := eq_true p200
                                              replace q200 := eq_true q200
                                              go_wp2
                                              repeat (go_quiet (fail); try go_wp2)
                                              go_roundg k3
                                              case measure => have := HJ15.out; have := HK2.out; have := HK3.out; omega
                                              case rel => exact ⟨(wrap64 (x13_3 + 1)), (by first | rfl | (simp; done) | (simp [*]; done)), H', ⟨by have := HJ15.out; have := HK2.out; have := HK3.out; omega⟩, ⟨by (with_reducible repeat (first | apply Kd.R_alloc | apply Kd.R_drewN | apply Kd.R_drew)); exact HO_7.out⟩, ⟨by (with_reducible repeat (first | apply Kd.R_alloc | apply Kd.R_drewN | apply Kd.R_drew)); exact HO_9.out⟩, ⟨by (with_reducible repeat (first | refine blk_drewN ?_ _ | refine blk_drew ?_ | refine blk_alloc ?_ _)); exact BK180.out⟩, ⟨by repeat (first | (with_reducible first | exact HB.out | apply below_alloc | apply pw_below_drewN | apply below_drew1 | refine below_set ?_ GE180.out) | exact HB.out)⟩⟩
                                          · rw [if_neg c55] at H
                                            exact absurd H (by simp)
                                        · rw [if_neg c54] at H
                                          exact absurd H (by simp)
                                    · rw [if_neg c51] at H
                                      exact absurd H (by simp)
                                  · rw [if_neg c50] at H
                                    exact absurd H (by simp)
                                · rw [if_neg c49] at H
                                  exact absurd H (by simp)
                              · rw [if_neg c48] at H
                                exact absurd H (by simp)
                            · rw [if_neg c47] at H
                              have c47b0 : decide (x13_3 ≤ (wrap64 ((wrap64 (t182 + x11_2)) - 1))) = false := decide_eq_false c47
                              clear c47
                              by_cases c57 : 0 ≤ x11_2
                              · rw [if_pos c57] at H
                                have c57b0 : decide (0 ≤ x11_2) = true := decide_eq_true c57
                                clear c57
                                by_cases c58 : x11_2 < (t183.length : Int)
                                · rw [if_pos c58] at H
                                  have c58b0 : decide (x11_2 < (t183.length : Int)) = true := decide_eq_true c58
                                  clear c58
                                  by_cases c59 : (rd t183 x11_2) > t177
                                  · rw [if_pos c59] at H
                                    have c59b0 : decide (t177 < (rd t183 x11_2)) = true := decide_eq_true c59
                                    clear c59
                                    obtain rfl := Option.some.inj H
                                    have p201 : 0 ≤ (x11_2 : Int) := of_decide_eq_true (by first | (with_reducible assumption) | assumption)
                                    have q201 : x11_2 < (t183.length : Int) := of_decide_eq_true (by first | (with_reducible assumption) | assumption)
                                    obtain ⟨ad201, e201, hx201_0⟩ := Kd.at_int (Kd.R_reads' HO_9.out).2.2 x11_2 p201 q201
                                    obtain rfl : ad189 = ad201 := (by injection e201)
                                    replace p201 := eq_true p201
                                    replace q201 := eq_true q201
                                    have hcz60_0 : wr.cell? ⟨gb180, 0, none⟩ = some (.string t175) := (blk_cell BK180.out 0).trans rfl
                                    have hcz60_1 : wr.cell? ⟨gb180, 1, none⟩ = some (.int .i64 t176) := (blk_cell BK180.out 1).trans rfl
                                    have hcz60_2 : wr.cell? ⟨gb180, 2, none⟩ = some (.int .i64 t177) := (blk_cell BK180.out 2).trans rfl
                                    have hcz60_3 : wr.cell? ⟨gb180, 3, none⟩ = some (.int .i64 t178) := (blk_cell BK180.out 3).trans rfl
                                    have hcz60_4 : wr.cell? ⟨gb180, 4, none⟩ = some (.int .i64 t179) := (blk_cell BK180.out 4).trans rfl
                                    have hfz60_0 := blk_frozen BK180.out 0
                                    have hfz60_1 := blk_frozen BK180.out 1
                                    have hfz60_2 := blk_frozen BK180.out 2
                                    have hfz60_3 := blk_frozen BK180.out 3
                                    have hfz60_4 := blk_frozen BK180.out 4
                                    go_wp2
                                    repeat (go_quiet (fail); try go_wp2)
                                    go_ret
                                    exact ⟨by first | rfl | (simp [errW_none, errW_some] <;> rfl) | (simp only [← hji36, ← hji39, ← hji40, ← hji44]; first | rfl | (simp [errW_none, errW_some] <;> rfl)) | (simp [*, errW_none, errW_some] <;> rfl), by repeat (first | (with_reducible first | exact HB.out | apply below_alloc | apply pw_below_drewN | apply below_drew1 | refine below_set ?_ GE180.out) | exact HB.out)⟩
                                  · rw [if_neg c59] at H
                                    have c59b0 : decide (t177 < (rd t183 x11_2)) = false := decide_eq_false c59
                                    clear c59
                                    by_cases c61 : x11_2 < (wrap64 ((t183.length : Int) - 1))
                                    · rw [if_pos c61] at H
                                      have c61b0 : decide (x11_2 < (wrap64 ((t183.length : Int) - 1))) = true := decide_eq_true c61
                                      clear c61
                                      by_cases c62 : (rd t183 x11_2) < 1
                                      · rw [if_pos c62] at H
                                        have c62b0 : decide ((rd t183 x11_2) < 1) = true := decide_eq_true c62
                                        clear c62
                                        obtain rfl := Option.some.inj H
                                        have p201 : 0 ≤ (x11_2 : Int) := of_decide_eq_true (by first | (with_reducible assumption) | assumption)
                                        have q201 : x11_2 < (t183.length : Int) := of_decide_eq_true (by first | (with_reducible assumption) | assumption)
                                        obtain ⟨ad201, e201, hx201_0⟩ := Kd.at_int (Kd.R_reads' HO_9.out).2.2 x11_2 p201 q201
                                        obtain rfl : ad189 = ad201 := (by injection e201)
                                        replace p201 := eq_true p201
                                        replace q201 := eq_true q201
                                        have hcz63_0 : wr.cell? ⟨gb180, 0, none⟩ = some (.string t175) := (blk_cell BK180.out 0).trans rfl
                                        have hcz63_1 : wr.cell? ⟨gb180, 1, none⟩ = some (.int .i64 t176) := (blk_cell BK180.out 1).trans rfl
                                        have hcz63_2 : wr.cell? ⟨gb180, 2, none⟩ = some (.int .i64 t177) := (blk_cell BK180.out 2).trans rfl
                                        have hcz63_3 : wr.cell? ⟨gb180, 3, none⟩ = some (.int .i64 t178) := (blk_cell BK180.out 3).trans rfl
                                        have hcz63_4 : wr.cell? ⟨gb180, 4, none⟩ = some (.int .i64 t179) := (blk_cell BK180.out 4).trans rfl
                                        have hfz63_0 := blk_frozen BK180.out 0
                                        have hfz63_1 := blk_frozen BK180.out 1
                                        have hfz63_2 := blk_frozen BK180.out 2
                                        have hfz63_3 := blk_frozen BK180.out 3
                                        have hfz63_4 := blk_frozen BK180.out 4
                                        have p202 : 0 ≤ (x11_2 : Int) := of_decide_eq_true (by first | (with_reducible assumption) | assumption)
                                        have q202 : x11_2 < (t183.length : Int) := of_decide_eq_true (by first | (with_reducible assumption) | assumption)
                                        obtain ⟨ad202, e202, hx202_0⟩ := Kd.at_int (Kd.R_reads' HO_9.out).2.2 x11_2 p202 q202
                                        obtain rfl : ad189 = ad202 := (by injection e202)
                                        replace p202 := eq_true p202
                                        replace q202 := eq_true q202
                                        go_wp2
                                        repeat (go_quiet (fail); try go_wp2)
                                        go_ret
                                        exact ⟨by first | rfl | (simp [errW_none, errW_some] <;> rfl) | (simp only [← hji36, ← hji39, ← hji40, ← hji44]; first | rfl | (simp [errW_none, errW_some] <;> rfl)) | (simp [*, errW_none, errW_some] <;> rfl), by repeat (first | (with_reducible first | exact HB.out | apply below_alloc | apply pw_below_drewN | apply below_drew1 | refine below_set ?_ GE180.out) | exact HB.out)⟩
                                      · rw [if_neg c62] at H
                                        have c62b0 : decide ((rd t183 x11_2) < 1) = false := decide_eq_false c62
                                        clear c62
                                        have H' := Aside0.mk H
                                        clear H
                                        have p201 : 0 ≤ (x11_2 : Int) := of_decide_eq_true (by first | (with_reducible assumption) | assumption)
                                        have q201 : x11_2 < (t183.length : Int) := of_decide_eq_true (by first | (with_reducible assumption) | assumption)
                                        obtain ⟨ad201, e201, hx201_0⟩ := Kd.at_int (Kd.R_reads' HO_9.out).2.2 x11_2 p201 q201
                                        obtain rfl : ad189 = ad201 := (by injection e201)
                                        replace p201 := eq_true p201
                                        replace q201 := eq_true q201
                                        have hcz64_0 : wr.cell? ⟨gb180, 0, none⟩ = some (.string t175) := (blk_cell BK180.out 0).trans rfl
                                        have hcz64_1 : wr.cell? ⟨gb180, 1, none⟩ = some (.int .i64 t176) := (blk_cell BK180.out 1).trans rfl
                                        have hcz64_2 : wr.cell? ⟨gb180, 2, none⟩ = some (.int .i64 t177) := (blk_cell BK180.out 2).trans rfl
                                        have hcz64_3 : wr.cell? ⟨gb180, 3, none⟩ = some (.int .i64 t178) := (blk_cell BK180.out 3).trans rfl
                                        have hcz64_4 : wr.cell? ⟨gb180, 4, none⟩ = some (.int .i64 t179) := (blk_cell BK180.out 4).trans rfl
                                        have hfz64_0 := blk_frozen BK180.out 0
                                        have hfz64_1 := blk_frozen BK180.out 1
                                        have hfz64_2 := blk_frozen BK180.out 2
                                        have hfz64_3 := blk_frozen BK180.out 3
                                        have hfz64_4 := blk_frozen BK180.out 4
                                        have p202 : 0 ≤ (x11_2 : Int) := of_decide_eq_true (by first | (with_reducible assumption) | assumption)
                                        have q202 : x11_2 < (t183.length : Int) := of_decide_eq_true (by first | (with_reducible assumption) | assumption)
                                        obtain ⟨ad202, e202, hx202_0⟩ := Kd.at_int (Kd.R_reads' HO_9.out).2.2 x11_2 p202 q202
                                        obtain rfl : ad189 = ad202 := (by injection e202)
                                        replace p202 := eq_true p202
                                        replace q202 := eq_true q202
                                        go_wp2
                                        repeat (go_quiet (fail); try go_wp2)
                                        go_roundg k3
                                        case measure => have := HJ15.out; have := HK2.out; have := HK3.out; omega
                                        case rel => exact ⟨(wrap64 (x11_2 + 1)), (by first | rfl | (simp; done) | (simp [*]; done)), H', ⟨by have := HJ15.out; have := HK2.out; have := HK3.out; omega⟩, ⟨by (with_reducible repeat (first | apply Kd.R_alloc | apply Kd.R_drewN | apply Kd.R_drew)); exact HO_7.out⟩, ⟨by (with_reducible repeat (first | apply Kd.R_alloc | apply Kd.R_drewN | apply Kd.R_drew)); exact HO_9.out⟩, ⟨by (with_reducible repeat (first | refine blk_drewN ?_ _ | refine blk_drew ?_ | refine blk_alloc ?_ _)); exact BK180.out⟩, ⟨by repeat (first | (with_reducible first | exact HB.out | apply below_alloc | apply pw_below_drewN | apply below_drew1 | refine below_set ?_ GE180.out) | exact HB.out)⟩⟩
                                    · rw [if_neg c61] at H
                                      have c61b0 : decide (x11_2 < (wrap64 ((t183.length : Int) - 1))) = false := decide_eq_false c61
                                      clear c61
                                      have H' := Aside0.mk H
                                      clear H
                                      have p201 : 0 ≤ (x11_2 : Int) := of_decide_eq_true (by first | (with_reducible assumption) | assumption)
                                      have q201 : x11_2 < (t183.length : Int) := of_decide_eq_true (by first | (with_reducible assumption) | assumption)
                                      obtain ⟨ad201, e201, hx201_0⟩ := Kd.at_int (Kd.R_reads' HO_9.out).2.2 x11_2 p201 q201
                                      obtain rfl : ad189 = ad201 := (by injection e201)
                                      replace p201 := eq_true p201
                                      replace q201 := eq_true q201
                                      have hcz65_0 : wr.cell? ⟨gb180, 0, none⟩ = some (.string t175) := (blk_cell BK180.out 0).trans rfl
                                      have hcz65_1 : wr.cell? ⟨gb180, 1, none⟩ = some (.int .i64 t176) := (blk_cell BK180.out 1).trans rfl
                                      have hcz65_2 : wr.cell? ⟨gb180, 2, none⟩ = some (.int .i64 t177) := (blk_cell BK180.out 2).trans rfl
                                      have hcz65_3 : wr.cell? ⟨gb180, 3, none⟩ = some (.int .i64 t178) := (blk_cell BK180.out 3).trans rfl
                                      have hcz65_4 : wr.cell? ⟨gb180, 4, none⟩ = some (.int .i64 t179) := (blk_cell BK180.out 4).trans rfl
                                      have hfz65_0 := blk_frozen BK180.out 0
                                      have hfz65_1 := blk_frozen BK180.out 1
                                      have hfz65_2 := blk_frozen BK180.out 2
                                      have hfz65_3 := blk_frozen BK180.out 3
                                      have hfz65_4 := blk_frozen BK180.out 4
                                      go_wp2
                                      repeat (go_quiet (fail); try go_wp2)
                                      go_roundg k3
                                      case measure => have := HJ15.out; have := HK2.out; have := HK3.out; omega
                                      case rel => exact ⟨(wrap64 (x11_2 + 1)), (by first | rfl | (simp; done) | (simp [*]; done)), H', ⟨by have := HJ15.out; have := HK2.out; have := HK3.out; omega⟩, ⟨by (with_reducible repeat (first | apply Kd.R_alloc | apply Kd.R_drewN | apply Kd.R_drew)); exact HO_7.out⟩, ⟨by (with_reducible repeat (first | apply Kd.R_alloc | apply Kd.R_drewN | apply Kd.R_drew)); exact HO_9.out⟩, ⟨by (with_reducible repeat (first | refine blk_drewN ?_ _ | refine blk_drew ?_ | refine blk_alloc ?_ _)); exact BK180.out⟩, ⟨by repeat (first | (with_reducible first | exact HB.out | apply below_alloc | apply pw_below_drewN | apply below_drew1 | refine below_set ?_ GE180.out) | exact HB.out)⟩⟩
                                · rw [if_neg c58] at H
                                  exact absurd H (by simp)
                              · rw [if_neg c57] at H
                                exact absurd H (by simp)
                    · rw [if_neg c38] at H
                      exact absurd H (by simp)
                  · rw [if_neg c37] at H
                    exact absurd H (by simp)
                · rw [if_neg c35] at H
                  exact absurd H (by simp)
              · rw [if_neg c34] at H
                have c34b0 : decide (x11_2 < (t183.length : Int)) = false := decide_eq_false c34
                clear c34
                obtain rfl := Option.some.inj H
                obtain ⟨Ao66, co66, eo66⟩ := Kd.R_slice HO_9.out
                subst eo66
                go_wp2
                repeat (go_quiet (fail); try go_wp2)
                go_ret
                exact ⟨by first | rfl | (simp [errW_none, errW_some] <;> rfl) | (simp [*, errW_none, errW_some] <;> rfl), by repeat (first | (with_reducible first | exact HB.out | apply below_alloc | apply pw_below_drewN | apply below_drew1 | refine below_set ?_ GE180.out) | exact HB.out)⟩

/-- THE ONE PURE STATEMENT of railplanlaw6_DynamicsSpeedsArePermitted: yours. -/
def railplanlaw6_DynamicsSpeedsArePermitted.Pure : Prop := ∀ (l0 : List Int) (l1 : List Int) (a2 : Int), l0.length ≤ maxLen → l0.length * 8 ≤ 140737488351232 → (∀ x ∈ l0, (Lit.int .i64 x).wf = true) → l1.length ≤ maxLen → l1.length * 8 ≤ 140737488351232 → (∀ x ∈ l1, (Lit.int .i64 x).wf = true) → (Lit.int .i64 a2).wf = true → ∃ k, railplanlaw6_DynamicsSpeedsArePermitted.f k l0 l1 a2 = some true
theorem railplanlaw6_DynamicsSpeedsArePermitted.walk (P : railplanlaw6_DynamicsSpeedsArePermitted.Pure) (a0 : Option Addr) (len0 cap0 : Nat) (z0 : List Int) (a1 : Option Addr) (len1 cap1 : Nat) (z1 : List Int) (a2 : Int) (w : World) (w0 : (a0 = none ∧ len0 = 0 ∧ cap0 = 0 ∧ z0 = []) ∨ ∃ x, a0 = some x ∧ len0 ≤ cap0 ∧ cap0 ≤ maxLen ∧ z0.length = cap0 ∧ (∀ i, i < z0.length → w.cell? (x.add i) = some (.int .i64 (z0.getD i 0))) ∧ ∀ n ∈ z0, (Lit.int .i64 n).wf = true) (y0 : len0 * 8 ≤ 140737488351232) (w1 : (a1 = none ∧ len1 = 0 ∧ cap1 = 0 ∧ z1 = []) ∨ ∃ x, a1 = some x ∧ len1 ≤ cap1 ∧ cap1 ≤ maxLen ∧ z1.length = cap1 ∧ (∀ i, i < z1.length → w.cell? (x.add i) = some (.int .i64 (z1.getD i 0))) ∧ ∀ n ∈ z1, (Lit.int .i64 n).wf = true) (y1 : len1 * 8 ≤ 140737488351232) (w2 : (Lit.int .i64 a2).wf = true) :
    Calls Try.prog 3 #[.slice a0 len0 cap0, .slice a1 len1 cap1, .int .i64 a2] w fun e w' => e = .returned (.bool true) ∧ Below w.heap.size w w' := by
  obtain ⟨l0, rfl, hr0, hm0, hw0, hc0⟩ := ReadsInt.ofRowC w0
  obtain ⟨l1, rfl, hr1, hm1, hw1, hc1⟩ := ReadsInt.ofRowC w1
  obtain ⟨k, h⟩ := P l0 l1 a2 hm0 y0 hw0 hm1 y1 hw1 w2
  refine (railplanlaw6_DynamicsSpeedsArePermitted.calls k _ _ l0 _ _ l1 a2 true w (Kd.C_of_reads (d := (0 : Int)) (h1 := fun _ => rfl) hr0) hc0 (Kd.C_of_reads (d := (0 : Int)) (h1 := fun _ => rfl) hr1) hc1 h).mono ?_
  rintro e w' ⟨rfl, hd⟩
  exact ⟨rfl, hd⟩

end Go.Proofs.Ytfnpoalffpnllaa.XDynamicsSpeedsArePermitted
